/- No condition. -/
import Derived.WalkKit
import Derived.KernelRfl
import Derived.Deep.Quiet
import Derived.OrdersHeld
import Derived.Deep.RegionHeld3
set_option linter.all false
namespace Go.Am
abbrev aK:= @List.length_append
abbrev aG:= @Bool.and_eq_true
abbrev aL:= @decide_eq_true
abbrev aQ:= @decide_eq_false
abbrev aW:= @List.length_cons
abbrev af:= @if_neg
abbrev bT:= @beq_eq_false_iff_ne
abbrev ag:= @if_pos
abbrev bz:= @List.length_take
abbrev bj:= @List.length_nil
abbrev aN:= @Bool.not_true
abbrev bc:= @List.length_drop
abbrev bH:= @List.getElem_mem
abbrev aR:= @Nat.zero_le
abbrev bV:= @decide_eq_true_eq
abbrev cS:= @List.length_singleton
abbrev bf:= @beq_iff_eq
abbrev bG:= @Nat.le_refl
abbrev bX:= @Nat.le_trans
abbrev eb:= @List.all_eq_true
abbrev fm:= @List.mem_singleton
abbrev lX:= @Option.isSome_iff_exists
abbrev cT:= @List.mem_cons
abbrev jN:= @List.mem_cons_of_mem
abbrev og:= @List.getElem?_eq_getElem
abbrev eT:= @Option.some.inj
abbrev eh:= @Bool.not_false
abbrev gr:= @Int.toNat_natCast
abbrev fh:= @List.append_nil
abbrev hI:= @List.append_assoc
abbrev eU:= @List.mem_range
abbrev eD:= @Bool.true_and
abbrev wN:= @List.getElem?_eq_some_iff
abbrev gK:= @List.mem_append
abbrev BF:= @Array.getElem?_eq_some_iff
abbrev BG:= @List.getD_eq_getElem?_getD
abbrev ki:= @List.take_length
abbrev ng:= @of_decide_eq_true
abbrev kj:= @Bool.or_eq_true
abbrev pZ:= @List.mem_cons_self
abbrev x6:= @Array.toArray_toList
abbrev nh:= @List.length_map
abbrev ni:= @List.length_set
abbrev Po:= @Array.getD_eq_getD_getElem?
abbrev GY:= @Nat.mul_le_mul_right
abbrev E1:= @Nat.lt_of_lt_of_le
abbrev ZL:= @List.eq_nil_of_length_eq_zero
abbrev JW:= @Int.toNat_of_nonneg
abbrev Vg:= @List.mem_of_find?_eq_some
abbrev Vh:= @List.drop_eq_getElem_cons
abbrev tf:= @List.map_cons
abbrev BH:= @List.nil_append
abbrev tL:= @List.cons.inj
abbrev JX:= @Bool.eq_false_iff
abbrev GZ:= @List.cons_append
abbrev G0:= @List.countP_cons
abbrev gu:= @if_false
abbrev Ml:= @List.take_add_one
abbrev Pp:= @List.getElem?_take
abbrev SZ:= @bne_eq_false_iff_eq
abbrev wO:= @Nat.zero_add
abbrev Vi:= @List.mem_of_mem_take
abbrev ZM:= @List.take_append_drop
abbrev S0:= @List.length_range
abbrev Vj:= @Nat.pos_of_ne_zero
abbrev gL:= @if_true
abbrev E2:= @List.mem_map
abbrev amV:= @Int.tmod_eq_emod_of_nonneg
abbrev amW:= @Int.tdiv_eq_ediv_of_nonneg
abbrev JY:= @Bool.false_or
abbrev ai2:= @List.take_of_length_le
abbrev S1:= @Nat.not_lt_zero
abbrev Vk:= @List.drop_length
abbrev oh:= @congrArg
abbrev ai3:= @Bool.or_eq_false_iff
abbrev G1:= @Int.le_refl
abbrev ZN:= @beq_self_eq_true
abbrev E3:= @bne_iff_ne
abbrev ai4:= @List.getElem_of_mem
abbrev ai5:= @List.getElem?_drop
abbrev Mm:= @Nat.add_mul
abbrev adq:= @Array.toList_map
abbrev Vl:= @Nat.add_assoc
abbrev S2:= @Nat.lt_or_ge
abbrev ZO:= @List.drop_zero
abbrev ZP:= @Bool.false_and
abbrev ai6:= @Bool.not_eq_true'
abbrev S3:= @Int.pow_succ
abbrev axI:= @List.getElem?_append_right
abbrev adr:= @List.map_append
abbrev ads:= @Nat.min_eq_left
abbrev Pq:= @Prod.mk.inj
abbrev axJ:= @Classical.byContradiction
abbrev amX:= @Nat.eq_zero_or_pos
abbrev amY:= @Int.emod_lt_of_pos
abbrev aCL:= @List.take_append_of_le_length
abbrev as5:= @List.mem_of_getElem?
abbrev adt:= @Bool.and_false
abbrev axK:= @decide_eq_false_iff_not
abbrev aCM:= @Array.getElem?_setIfInBounds
abbrev Vm:= @List.find?_some
abbrev Vn:= @Int.emod_nonneg
abbrev p0:= @Prod.ext
abbrev abD:= @List.not_mem_nil
abbrev agr:= @Bool.false_eq_true
abbrev ags:= @of_decide_eq_false
abbrev tr:= @BEq.comm
abbrev amZ:= @List.length_filter_le
abbrev RG:= @Nat.add_zero
abbrev agt:= @List.all_eq_false
abbrev Vo:= @Nat.lt_irrefl
abbrev Vp:= @List.sum_cons
abbrev auF:= @Nat.le_mul_of_pos_right
abbrev abE:= @List.take_left
abbrev RH:= @Nat.one_mul
abbrev am0:= @List.find?_eq_none
abbrev Vq:= @Nat.sub_zero
abbrev am1:= @Option.toList_some
abbrev auG:= @List.drop_eq_nil_of_le
abbrev B9:= @Eq.trans
abbrev auH:= @List.getElem_set_self
abbrev am2:= @bne_self_eq_false
abbrev auI:= @List.getElem?_append
abbrev auJ:= @List.mem_iff_getElem
abbrev auK:= @List.mem_of_mem_drop
abbrev am3:= @Option.bind_some
abbrev aAr:= @Array.getElem?_eq_getElem
abbrev aAs:= @List.mem_or_eq_of_mem_set
abbrev aAt:= @List.pairwise_iff_getElem
abbrev auL:= @List.take_succ_cons
abbrev auM:= @List.flatMap_append
abbrev auN:= @List.getElem_set_ne
abbrev aAu:= @List.getElem_append_left
abbrev am4:= @List.take_left'
abbrev auO:= @Array.any_eq_true'
abbrev auP:= @Int.natCast_nonneg
abbrev aAv:= @List.getElem?_cons_succ
abbrev am5:= @List.drop_drop
abbrev auQ:= @List.getElem?_map
abbrev agu:= @Bool.true_or
abbrev aAw:= @List.getElem_cons_zero
abbrev agv:= @Int.le_trans
abbrev agw:= @Nat.succ_pos
abbrev am6:= @List.drop_left
abbrev aAx:= @Nat.div_lt_iff_lt_mul
abbrev aAy:= @List.mem_append_right
abbrev aAz:= @List.countP_mono_left
abbrev aAA:= @List.set_getElem_self
abbrev abF:= @Nat.mod_lt
abbrev auR:= @Nat.mod_eq_of_lt
abbrev auS:= @List.any_eq_true
abbrev auT:= @List.take_append
abbrev am7:= @Bool.or_false
abbrev auU:= @List.foldl_cons
abbrev auV:= @List.nodup_cons
abbrev am8:= @Nat.zero_mul
inductive Ty where
 |int (k:IntKind)|bool|str|unit
 |pair (a b:Ty)
 |sl (e:TypeId) (t:Ty)
@[reducible] def Ty.D:Ty->Type
 |.int _=>Int|.bool=>Bool|.str=>ByteArray|.unit=>Unit|.pair a b=>a.D×b.D|.sl _ t=>List t.D
def Ty.aC:(t:Ty)->t.D
 |.int _=>(0:Int)|.bool=>false|.str=>ByteArray.empty|.unit=>()|.pair a b=>(a.aC,b.aC)|.sl _ _=>[]
def Ty.n:Ty->Nat
 |.int _|.bool|.str|.sl _ _=>1|.unit=>0|.pair a b=>a.n+b.n
def aAB:IntKind->IntKind->Bool
 |.i8,.i8|.i16,.i16|.i32,.i32|.i64,.i64|.u8,.u8|.u16,.u16|.u32,.u32|.u64,.u64=>true|_,_=>false
def adu {a b:IntKind}(h:aAB a b=true):a=b:=by cases a<;>cases b<;>first|rfl|cases h
def Ty.beq:Ty->Ty->Bool
 |.int k,.int l=>aAB k l|.bool,.bool|.str,.str|.unit,.unit=>true|.pair a b,.pair c d=>a.beq c&&b.beq d|.sl e t,.sl f u=>Nat.beq e f&&t.beq u|_,_=>false
def Ty.beq_eq:∀{a b:Ty},a.beq b=true->a=b
 |.int k,.int l,h=>by rw[adu (show aAB k l=true from h)]
 |.bool,.bool,_|.str,.str,_|.unit,.unit,_=>rfl|.pair a b,.pair c d,h=>by have g:(a.beq c&&b.beq d)=true:=h;rw[Bool.and_eq_true]at g;rw[Ty.beq_eq g.1,Ty.beq_eq g.2]
 |.sl e t,.sl f u,h=>by have g:(Nat.beq e f&&t.beq u)=true:=h;rw[Bool.and_eq_true]at g;rw[Nat.eq_of_beq_eq_true g.1,Ty.beq_eq g.2]
def axL:List Ty->Ty
 |[]=>.unit|[a]=>a|a::b::l=>.pair a (axL (b::l))
def auW (P:Program):Nat->TypeId->Option Ty
 |0,_=>none
 |n+1,t =>
  match P.underlying t with
  |some (.int k)=>some (.int k)|some .bool=>some .bool|some .string=>some .str|some (.slice e)=>(auW P n e).map (.sl e)|some (.struct a)=>(a.toList.mapM fun f=>auW P n f.type).map axL
  |some (.array m e)=>(auW P n e).map fun t=>axL (List.replicate m t)
  |_=>none
inductive AC where
 |none
 |int (k:IntKind) (n:Int)
 |bool (b:Bool)
 |str (s:ByteArray)
 |nil
 |ro (f:Bool) (e:TypeId) (t:Ty) (xs:List t.D)
 |own (id:Nat) (len:Option Int)
 |ptr (b:Nat) (off:Nat)
 |Mi (id:Nat) (i:Int) (off:Nat)
 |UT (f:Bool) (t:Ty) (x:t.D) (off:Nat)
 |fnp (g:Nat) (b:Nat)
 |any
inductive CV where
 |c (x:AC)
 |agg (l:List AC)
inductive AV where
 |v (x:CV)
 |Vf (l:List CV)
def CV.cells:CV->List AC
 |.c x=>[x]|.agg l=>l
structure fN where
 e:TypeId
 t:Ty
 xs:List t.D
 f:Bool
 w:Bool
structure St where
 nt:Nat
 tm:List (Nat×AV)
 bx:List (Nat×List AC)
 bl:List (Nat×Option fN)
 sp:AV:=.v (.c .none)
 rob:List Nat:=[]
def look {U:Type}:List (Nat×U)->Nat->Option U
 |[],_=>none|(k,v)::l,n=>match Nat.beq k n with|true=>some v|false=>look l n
def St.get (st:St)(t:Nat):AV:=match look st.tm t with|some v=>v|none=>.v (.c .none)
def St.put (st:St)(d:Nat)(v:AV):St:={st with tm:=(d,v)::st.tm}
def St.rI (st:St)(id:Nat):Option fN:=match look st.bl id with|some b=>b|none=>none
def ck {U:Type}(c:Bool)(k:Option U):Option U:=match c with|true=>k|false=>none
def br {U:Type}(c:Bool)(x y:U):U:=match c with|true=>x|false=>y
def Vr:Value->AC
 |.int k n=>.int k n|.bool b=>.bool b|.string s=>.str s|.slice none 0 0=>.nil|_=>.none
def Mn:Value->CV
 |.agg cs=>.agg (cs.toList.map Vr)|v=>.c (Vr v)
def St.ev (st:St):Operand->AV
 |.tmp t=>st.get t|.const v=>.v (Mn v)|_=>.v (.c .none)
def St.ec (st:St)(o:Operand):CV:=match st.ev o with|.v x=>x|.Vf _=>.c .none
def St.ac (st:St)(o:Operand):AC:=match st.ec o with|.c x=>x|.agg _=>.none
def CV.kn:CV->Bool
 |.c .none=>false|_=>true
def ex (f:Bool):(t:Ty)->t.D->List AC
 |.int k,x=>[.int k x]|.bool,x=>[.bool x]|.str,x=>[.str x]|.unit,_=>[]|.pair a b,x=>ex f a x.1++ex f b x.2|.sl e t,x=>[.ro f e t x]
def ZQ {t u:Ty}(h:t=u)(x:List t.D):List u.D:=h▸x
def JZ {U:Type}(xs:List U):Option Int->List U
 |none=>xs|some n=>xs.take n.toNat
def cy (st:St)(t:Ty):AC->Option (List t.D)
 |.nil=>some []|.ro _ _ u xs=>if h:u.beq t=true then some (ZQ (Ty.beq_eq h) xs) else none|.own id len=>match st.rI id with
  |some b=>if h:b.t.beq t=true then some (JZ (ZQ (Ty.beq_eq h) b.xs) len) else none|none=>none
 |_=>none
def im (st:St):(t:Ty)->List AC->Option (t.D×List AC)
 |.int k,.int l n::r=>if aAB l k then some (n,r) else none|.bool,.bool b::r=>some (b,r)|.str,.str s::r=>some (s,r)|.unit,r=>some ((),r)|.pair a b,r=>match im st a r with
  |some (x,d)=>match im st b d with
   |some (y,e)=>some ((x,y),e)|none=>none
  |none=>none
 |.sl _ t,c::r=>match cy st t c with
  |some xs=>some (xs,r)|none=>none
 |_,_=>none
@[reducible] def Args:List (Ty×Bool)->Type
 |[]=>Unit|a::l=>a.1.D×Args l
structure Con where
 ps:List (Ty×Bool)
 rs:List (Ty×Bool)
 m:Nat
 g:Args ps->Option (Args rs)
inductive PM where
 |rd|own (f:Bool)|box|cur
structure Pr where
 ps:List (Ty×Bool)
 i:Nat
 pm:PM
 rs:List (Ty×Bool)
 m:Nat
 qs:List (Ty×Bool)
 g:Args ps->Option (Args rs×Args qs)
structure Idx where
 g:Nat
 a:Ty×Bool
 q:Ty
 p:a.1.D->q.D->Bool
structure Sel where
 ps:List (Ty×Bool)
 i:Nat
 a:Ty×Bool
 b:Ty×Bool
 q:Ty×Bool
 g:Args ps->Option (a.1.D×b.1.D×q.1.D)
def am9:(t:Ty)->t.D->Bool
 |.bool,x=>x|.int _,x=>x==0|_,_=>false
def aKX:(t:Ty)->t.D->t.D
 |.bool,_=>true|.int _,_=>(0:Int)|_,x=>x
def aKY:(t:Ty)->t.D->t.D
 |.bool,_=>false|_,x=>x
inductive Any where
 |one (c:Con)|two (c:Pr)|sel (c:Sel)|idx (i:Idx)
 |ins (e:TypeId) (u:Ty)
 |del (e:TypeId) (u:Ty)
def p1 {U:Type}(p:U->Bool):List U->Int->Int
 |[],_=>-1|x::l,i=>match p x with|true=>i|false=>p1 p l (i+1)
def flat:Ty->Bool
 |.int _|.bool|.str|.unit=>true|.pair a b=>flat a&&flat b|.sl _ _=>false
def exR (id:Nat)(f:Bool):(t:Ty)->t.D->Nat->List AC×List (Nat×Option fN)
 |.int k,x,_=>([.int k x],[])|.bool,x,_=>([.bool x],[])|.str,x,_=>([.str x],[])|.unit,_,_=>([],[])|.pair a b,x,c=>((exR id f a x.1 c).1++(exR id f b x.2 (c+a.n)).1,(exR id f a x.1 c).2++(exR id f b x.2 (c+a.n)).2)|.sl e t,x,c=>([.own (id*64+c) none],[(id*64+c,some ⟨e,t,x,f || flat t,true⟩)])
structure rH where
 n:Nat
 mem:Int
 str:Int
@[reducible] def rH.RJ (n:Nat):rH:=⟨n,140737488355328,9223372036854775807⟩
def aJH {U:Type}(d:BinOp)(c:IntKind)(a b:Int)(k:AC->Option U):Option U :=
 match d with
 |.add=>k (.int c (c.wrap (a+b)))|.sub=>k (.int c (c.wrap (a-b)))|.mul=>k (.int c (c.wrap (a*b)))|.quo=>ck (!(b==0)) (k (.int c (c.wrap (a.tdiv b))))|.rem=>ck (!(b==0)) (k (.int c (a.tmod b)))|.and=>k (.int c (c.wrap (BitVec.ofInt c.bits a &&& BitVec.ofInt c.bits b).toNat))|.or=>k (.int c (c.wrap (BitVec.ofInt c.bits a ||| BitVec.ofInt c.bits b).toNat))|.xor=>k (.int c (c.wrap (BitVec.ofInt c.bits a ^^^ BitVec.ofInt c.bits b).toNat))|.eql=>k (.bool (a==b))|.neq=>k (.bool (a != b))|.lss=>k (.bool (decide (a<b)))|.leq=>k (.bool (decide (a<=b)))|.gtr=>k (.bool (decide (a>b)))|.geq=>k (.bool (decide (a>=b)))|_=>none
def aCN {U:Type}(d:BinOp)(c:IntKind)(a b:Int)(k:AC->Option U):Option U :=
 match d with
 |.shl=>ck (decide (0<=b)) (k (.int c (c.wrap (a*2 ^ (min b.toNat c.bits)))))|.shr=>ck (decide (0<=b)) (k (.int c (a.fdiv (2 ^ (min b.toNat c.bits)))))|_=>none
def aJI {U:Type}(F:rH)(c:BinOp)(a b:ByteArray)(k:AC->Option U):Option U :=
 match c with
 |.add=>ck (decide (((a.size+b.size:Nat):Int)<=F.str)) (k (.str (a++b)))|.eql=>k (.bool (a.toList==b.toList))|.neq=>k (.bool (!(a.toList==b.toList)))|.lss=>k (.bool (Op.bytesLess a.toList b.toList))|.leq=>k (.bool (Op.bytesLess a.toList b.toList || a.toList==b.toList))|.gtr=>k (.bool (!(Op.bytesLess a.toList b.toList || a.toList==b.toList)))|.geq=>k (.bool (!(Op.bytesLess a.toList b.toList)))|_=>none
def aIf {U:Type}(P:Program)(F:rH)(c:BinOp)(e:TypeId)(x y:AC)(k:AC->Option U):Option U :=
 match x,y with
 |.int d a,.int f b=>match c with
  |.shl|.shr=>aCN c d a b k|_=>ck (aAB d f) (aJH c d a b k)
 |.str a,.str b=>aJI F c a b k|.bool a,.bool b=>match P.underlying e,c with
  |some .bool,.eql=>k (.bool (a==b))|some .bool,.neq=>k (.bool (!(a==b)))|_,_=>none
 |_,_=>none
def eqFields (P:Program):List Field->Nat->List AC->List AC->Option Bool
 |[],_,[],[]=>some true
 | f :: d, i, a :: r, b :: s => match Nat.beq f.offset i && !(f.name == "_") with
  |true=>match eqFields P d (i+1) r s with
   |some c=>match P.underlying f.type,a,b with
    |some (.int _),.int k x,.int l y=>match aAB k l with|true=>some ((x==y)&&c)|false=>none
    |some .string,.str x,.str y=>some ((x.toList==y.toList)&&c)|some .bool,.bool x,.bool y=>some ((x==y)&&c)|_,_,_=>none
   |none=>none
  |false=>none
 |_,_,_,_=>none
def ana (P:Program)(t:TypeId)(l m:List AC):Option Bool :=
 match P.underlying t with
 |some (.struct a)=>match P.stoodInHeld t || P.eqGuardType P.depth t with
  |false=>eqFields P a.toList 0 l m|true=>none
 |_=>none
def anb (st:St):AC->Option Int
 |.nil=>some 0|.ro _ _ _ xs=>some (xs.length:Int)|.own _ (some n)=>some n|.own id none=>match st.rI id with|some b=>some (b.xs.length:Int)|none=>none
 |.str s=>some (s.size:Int)|_=>none
def axM (P:Program)(t:TypeId)(f:Nat):Option Nat :=
 match P.underlying t with
 |some (.struct a)=>match a[f]? with
  |some x=>match P.cellsOf x.type with
   |0=>none|_=>some x.offset
  |none=>none
 |_=>none
def auX (P:Program)(t:TypeId)(f:Nat):Option (TypeId×Nat) :=
 match P.underlying t with
 |some (.struct a)=>match a[f]? with
  |some x=>some (x.type,x.offset)|none=>none
 |_=>none
def abG (P:Program)(t:TypeId):Option Bool :=
 match P.underlying t with
 |some (.struct _)|some (.array _ _)=>some true|some _=>some false|none=>none
def E4 (P:Program)(t:TypeId):Option TypeId :=
 match P.underlying t with
 |some (.slice e)=>some e|_=>none
def OO {U:Type}:List U->Nat->U->List U
 |[],_,_=>[]|_::l,0,v=>v::l|x::l,n+1,v=>x::OO l n v
def nv {U:Type}:List U->Nat->Option U
 |[],_=>none|x::_,0=>some x|_::l,n+1=>nv l n
def x7 {U:Type}:Nat->List U->List U
 |0,_=>[]|_+1,[]=>[]|n+1,x::l=>x::x7 n l
def x8 {U:Type}:Nat->List U->List U
 |0,l=>l|_+1,[]=>[]|n+1,_::l=>x8 n l
def H2 {U:Type}:List U->Nat->List U->List U
 |l,_,[]=>l|l,n,v::a=>H2 (OO l n v) (n+1) a
def BE (st:St):(t:Ty)->t.D->Nat×List AC->Option (t.D×(Nat×List AC))
 |.unit,x,s=>some (x,s)|.pair a b,x,s=>match BE st a x.1 s with
  |some (y,f)=>match BE st b x.2 f with
   |some (z,g)=>some ((y,z),g)|none=>none
  |none=>none
 |.int k,x,(0,c::r)=>match im st (.int k) [c]with|some (n,_)=>some (n,(0,r))|none=>none
 |.bool,x,(0,c::r)=>match im st .bool [c]with|some (n,_)=>some (n,(0,r))|none=>none
 |.str,x,(0,c::r)=>match im st .str [c]with|some (n,_)=>some (n,(0,r))|none=>none
 |.sl e t,x,(0,c::r)=>match im st (.sl e t) [c]with|some (n,_)=>some (n,(0,r))|none=>none
 |.int _,x,(0,[])=>some (x,(0,[]))|.bool,x,(0,[])=>some (x,(0,[]))|.str,x,(0,[])=>some (x,(0,[]))|.sl _ _,x,(0,[])=>some (x,(0,[]))|.int _,x,(d+1,l)=>some (x,(d,l))|.bool,x,(d+1,l)=>some (x,(d,l))|.str,x,(d+1,l)=>some (x,(d,l))|.sl _ _,x,(d+1,l)=>some (x,(d,l))
def St.dD (st:St):AC->St
 |.own id _=>match st.rI id with
  |some b=>{st with bl:=(id,some {b with w:=false})::st.bl}
  |none=>st
 |_=>st
def St.freeze (st:St)(l:List AC):St:=l.foldl St.dD st
def ai7:List AC->Bool
 |[]=>true|.none::_=>false|_::l=>ai7 l
def aAD (id:Nat):List AC->Bool
 |[]=>true|.own i _::l=> !Nat.beq i id&&aAD id l|_::l=>aAD id l
def cj:List AC->Bool
 |[]=>true|.ro f _ _ _::l=>f&&cj l|_::l=>cj l
def o9 (st:St):List AC->Bool
 |[]=>true|.own id _::l=>(match st.rI id with|some b=>b.f|none=>false)&&o9 st l
 |_::l=>o9 st l
def jO (s:ByteArray)(i:Int):Int:=((s.data.toList.getD i.toNat 0).toNat:Int)
def bytesOf (s:ByteArray):List Int:=s.data.toList.map fun b=>(b.toNat:Int)
def strOf (xs:List Int):ByteArray:=⟨(xs.map fun n=>UInt8.ofNat n.toNat).toArray⟩
def St.pk {U:Type}(st:St)(d:Option Tmp)(v:AV)(k:St->Option U):Option U :=
 match d with
 |none=>k st|some d=>ck (Nat.blt d st.nt) (k (st.put d v))
def St.lit (st:St)(o:Operand)(b:Bool):St :=
 match o with
 |.tmp t=>st.put t (.v (.c (.bool b)))|_=>st
section
variable (P:Program) (C:FuncId->Option Any) (F:rH) {U:Type}
def tt (t:TypeId):Option CV :=
 match P.info? t with
 |some i=>match i.zero with
  |some v=>some (Mn v)|none=>none
 |none=>none
def St.row (st:St)(d:Tmp)(b:fN)(k:St->Option U):Option U :=
 match look st.bl (d*64) with
 |some _=>none|none=>ck (Nat.blt d st.nt) (k {(st.put d (.v (.c (.own (d*64) none)))) with bl:=(d*64,some b)::st.bl})
def Zd:List Nat->Nat->Bool
 |[],_=>false|x::l,n=>match Nat.beq x n with|true=>true|false=>Zd l n
def iA (st:St)(t:Ty):Nat->List (Nat×Operand)->Option (List t.D)
 |_,[]=>some []|i,(a,b)::l=>match Nat.beq i a with
  |true=>match im st t (st.ec b).cells with
   |some (x,[])=>match iA st t (i+1) l with
    |some xs=>some (x::xs)|none=>none
   |_=>none
  |false=>none
def cm (st:St):List (Nat×Operand)->List AC
 |[]=>[]|(_,a)::l=>(st.ec a).cells++cm st l
def anc (t:TypeId):Option (List (Nat×Nat)) :=
 match P.underlying t with
 |some (.struct a)=>a.toList.mapM fun f=>(P.info? f.type).map fun i=>(f.offset,i.size)
 |_=>none
def Ca (st:St)(b:List (Nat×Nat)):List AC->List (Nat×Operand)->Option (List AC)
 |acc,[]=>some acc|acc,(f,a)::l=>match nv b f with
  |some (off,size)=>match (st.ec a).kn&&Nat.beq size (st.ec a).cells.length&&Nat.ble (off+(st.ec a).cells.length) acc.length with
   |true=>Ca st b (H2 acc off (st.ec a).cells) l|false=>none
  |none=>none
def uu (st:St):AC->Option (List AC×Nat)
 |.ptr b off=>match look st.bx b with|some l=>some (l,off)|none=>none
 |.Mi id i off=>match st.rI id with|some b=>some (ex b.f b.t (b.xs.getD i.toNat b.t.aC),off)|none=>none
 |.UT f t x off=>some (ex f t x,off)|_=>none
def wP (o:Option Operand)(st:St)(d:Int):Option Int :=
 match o with
 |none=>some d|some x=>match st.ac x with|.int _ n=>some n|_=>none
def kG (st:St):List Operand->List AC
 |[]=>[]|o::l=>(st.ec o).cells++kG st l
def imV (st:St)(a:Ty×Bool)(c:CV):Option a.1.D :=
 match c,a.2 with
 |.agg l,true=>match im st a.1 l with
  |some (x,[])=>some x|_=>none
 |.c c,false=>match im st a.1 [c]with
  |some (x,[])=>some x|_=>none
 |_,_=>none
def im1 (st:St)(a:Ty×Bool)(o:Operand):Option a.1.D:=imV st a (st.ec o)
def OP (st:St):(ps:List (Ty×Bool))->List Operand->Option (Args ps)
 |[],[]=>some ()|a::l,b::os=>match im1 st a b with
  |some x=>match OP st l os with
   |some y=>some (x,y)|none=>none
  |none=>none
 |_,_=>none
def Cb (st:St):(ps:List (Ty×Bool))->List CV->Option (Args ps)
 |[],[]=>some ()|a::l,b::os=>match imV st a b with
  |some x=>match Cb st l os with
   |some y=>some (x,y)|none=>none
  |none=>none
 |_,_=>none
def aV:List CV->List AC
 |[]=>[]|c::l=>c.cells++aV l
def ex1 (id:Nat)(f:Bool)(a:Ty×Bool)(x:a.1.D)(j:Nat):CV×List (Nat×Option fN) :=
 (match a.2 with|true=>.agg (exR id f a.1 x j).1|false=>.c (match (exR id f a.1 x j).1 with|[c]=>c|_=>.none),(exR id f a.1 x j).2)
def lP (id:Nat)(f:Bool):(rs:List (Ty×Bool))->Args rs->Nat->List CV×List (Nat×Option fN)
 |[],_,_=>([],[])|a::l,x,b=>((ex1 id f a x.1 b).1::(lP id f l x.2 (b+a.1.n)).1,(ex1 id f a x.1 b).2++(lP id f l x.2 (b+a.1.n)).2)
def fW:List (Nat×Option fN)->St->Bool
 |[],_=>true|(id,_)::l,st=>(match look st.bl id with|some _=>false|none=>true)&&fW l st
def eE:List (Ty×Bool)->Bool
 |[]=>true|a::l=>(a.2 || Nat.beq a.1.n 1)&&eE l
def J0:List CV->AV
 |[v]=>.v v|l=>.Vf l
def exF (f:Bool):(rs:List (Ty×Bool))->Args rs->List CV
 |[],_=>[]|a::l,x=>(match a.2 with|true=>.agg (ex f a.1 x.1)|false=>.c (match ex f a.1 x.1 with|[c]=>c|_=>.none))::exF f l x.2
def Yu (con:Con)(st:St)(d:Option Tmp)(args:List Operand)(k:St->Option U):Option U :=
 match OP st con.ps args with
 |some x=>(con.g x).bind fun r =>
  match d with
  |none=>none|some d=>match con.m with
   |0=>ck (Nat.blt d st.nt&&eE con.rs) (k ((st.freeze (kG st args)).put d (J0 (exF (o9 st (kG st args)&&cj (kG st args)) con.rs r))))|1=>ck (Nat.blt d st.nt&&eE con.rs) (k (st.put d (J0 (exF true con.rs r))))
   |_ =>
    let q:=lP d true con.rs r 0
    ck (fW q.2 st&&Nat.blt d st.nt&&eE con.rs) (k {(st.put d (J0 q.1)) with bl:=q.2++st.bl})
 |_=>none
def gM (st:St)(m:Nat):List Nat->List AC->Bool
 |_,[]=>true|seen,.own id len::l=>match st.rI id with
  |some b=>(b.f || Nat.beq m 0 || Nat.beq m 3)&&(match m with|2|3=>b.w&& !Zd seen id&&(match len with|none=>true|some _=>false)|_=>true)&&gM st m (id::seen) l
  |none=>false
 |seen,.ro f _ _ _::l=>(match m with|2|3=>false|1=>f|_=>true)&&gM st m seen l
 |seen,_::l=>gM st m seen l
def wQ:List AC->Bool
 |[]=>true|.own _ _::_=>false|_::l=>wQ l
def F7 (st:St):Ty->List AC->Option (List AC)
 |.sl e _,.own id _::r=>match st.rI id with
  |some b=>match Nat.beq b.e e with|true=>some r|false=>none
  |none=>none
 |.sl _ t,.nil::r=>match Nat.beq t.n 0 with|true=>none|false=>some r
 |.int _,_::r|.bool,_::r|.str,_::r=>some r|.unit,r=>some r|.pair a b,r=>match F7 st a r with|some r=>F7 st b r|none=>none
 |_,_=>none
def x9 (st:St):List (Ty×Bool)->List CV->Bool
 |[],[]=>true|a::l,b::os=>(match F7 st a.1 b.cells with|some []=>true|_=>false)&&x9 st l os
 |_,_=>false
def pmM:Bool->Nat
 |true=>2|false=>3
def im2 (st:St)(pm:PM)(a:Ty×Bool)(o:Operand):Option a.1.D:=match pm with
 |.rd=>im1 st a o|.own f=>match gM st (pmM f) [] (st.ec o).cells&&x9 st [a] [st.ec o]with|true=>im1 st a o|false=>none
 |.box=>match st.ec o with
  |.c (.ptr b 0)=>match look st.bx b with|some l=>imV st a (.agg l)|none=>none
  |_=>none
 |.cur=>match st.ec o with
  |.c (.ptr b 0)=>match look st.bx b with|some l=>(match wQ l with|true=>imV st a (.agg l)|false=>none)|none=>none
  |_=>none
def kb (st:St)(pm:PM):Nat->(ps:List (Ty×Bool))->List Operand->Option (Args ps)
 |0,a::l,b::os=>match im2 st pm a b with
  |some x=>match OP st l os with|some y=>some (x,y)|none=>none
  |none=>none
 |i+1,a::l,b::os=>match im1 st a b with
  |some x=>match kb st pm i l os with|some y=>some (x,y)|none=>none
  |none=>none
 |_,_,_=>none
def gN (st:St)(pm:PM):Nat->List Operand->List AC
 |0,a::os=>(match pm with
  |.rd=>(st.ec a).cells|.own _|.cur=>[]|.box=>match st.ec a with|.c (.ptr b _)=>(match look st.bx b with|some l=>l|none=>[])|_=>[])++kG st os
 |i+1,a::os=>(st.ec a).cells++gN st pm i os|_,[]=>[]
def arC (st:St)(i:Nat)(args:List Operand):CV:=match nv args i with|some a=>st.ec a|none=>.c .none
def St.gone (st:St):List AC->St
 |[]=>st|.own id _::l=>{st.gone l with bl:=(id,none)::(st.gone l).bl}
 |_::l=>st.gone l
def tu (f:Bool):(t:Ty)->t.D->List AC->List (Nat×Option fN)×List AC
 |.pair a b,x,l=>((tu f a x.1 l).1++(tu f b x.2 (tu f a x.1 l).2).1,(tu f b x.2 (tu f a x.1 l).2).2)|.unit,_,l=>([],l)|.sl e t,x,.own id _::l=>([(id,some ⟨e,t,x,f,true⟩)],l)|_,_,_::l=>([],l)|_,_,[]=>([],[])
def m2 (m:Nat):Bool:=Nat.beq m 2
def rdM:Nat->Option Bool
 |4=>some true|5=>some false|_=>none
def auY (f:Bool)(rs:List (Ty×Bool))(st:St)(d:Tmp)(r:Args rs)(k:St->Option U):Option U :=
 match rs,r with
 |[a],r=>match look st.bx d with
  |none=>ck (Nat.blt d st.nt&&a.2) (k {(st.put d (.v (.c (.ptr d 0)))) with bx:=(d,ex f a.1 r.1)::st.bx})
  |some _=>none
 |_,_=>none
def adv (rs a:List (Ty×Bool))(m:Nat)(st:St)(c:CV)(d:Tmp)(r:Args rs×Args a)(k:St->Option U):Option U :=
 let q:=lP d (m2 m) rs r.1 0
 ck ((Nat.beq m 2 || Nat.beq m 3)&&fW q.2 st&&Nat.blt d st.nt&&eE rs) (match a,r with
  |[],_=>k {(st.put d (J0 q.1)) with bl:=q.2++(st.gone c.cells).bl}
  |[p],r=>k {(st.put d (J0 q.1)) with bl:=q.2++((tu (m2 m) p.1 r.2.1 c.cells).1++st.bl)}
  |_,_=>none)
def amy (rs a:List (Ty×Bool))(m:Nat)(st:St)(c:CV)(d:Tmp)(r:Args rs×Args a)(k:St->Option U):Option U :=
 match a,r,c with
 |[p],r,.c (.ptr b _)=>match m with
  |0=>ck (Nat.blt d st.nt&&eE rs) (k {(st.put d (J0 (exF false rs r.1))) with bx:=(b,ex false p.1 r.2.1)::st.bx})
  |1=>ck (Nat.blt d st.nt&&eE rs) (k {(st.put d (J0 (exF true rs r.1))) with bx:=(b,ex false p.1 r.2.1)::st.bx})
  |m =>
   let q:=lP d (m2 m) rs r.1 0
   ck ((Nat.beq m 2 || Nat.beq m 3)&&fW q.2 st&&Nat.blt d st.nt&&eE rs) (k {(st.put d (J0 q.1)) with bl:=q.2++st.bl,bx:=(b,ex false p.1 r.2.1)::st.bx})
 |_,_,_=>none
def amz (rs e:List (Ty×Bool))(m:Nat)(st:St)(c:CV)(d:Tmp)(r:Args rs×Args e)(k:St->Option U):Option U :=
 match e,r,c with
 |[p],r,.c (.ptr b _)=>match look st.bx b with
  |some a=>match m with
   |0=>ck (Nat.blt d st.nt&&eE rs) (k {(st.put d (J0 (exF false rs r.1))) with bx:=(b,ex (cj a) p.1 r.2.1)::st.bx})
   |1=>ck (Nat.blt d st.nt&&eE rs) (k {(st.put d (J0 (exF (cj a) rs r.1))) with bx:=(b,ex (cj a) p.1 r.2.1)::st.bx})
   |m =>
    let q:=lP d (cj a) rs r.1 0
    ck (Nat.beq m 2&&fW q.2 st&&Nat.blt d st.nt&&eE rs) (k {(st.put d (J0 q.1)) with bl:=q.2++st.bl,bx:=(b,ex (cj a) p.1 r.2.1)::st.bx})
  |none=>none
 |_,_,_=>none
def aIg (st:St)(con:Pr)(args:List Operand):List AC:=match con.pm with
 |.cur=>(match con.m with|1|2=>[]|_=>gN st .cur con.i args)
 |pm=>gN st pm con.i args
def adw (con:Pr)(st:St)(d:Option Tmp)(args:List Operand)(k:St->Option U):Option U :=
 let a:=st.freeze (aIg st con args)
 match kb a con.pm con.i con.ps args with
 |some x=>(con.g x).bind fun r =>
  match d with
  |none=>none|some d=>match con.pm with
   |.rd=>match rdM con.m with
    |some f=>auY f con.rs a d r.1 k|none=>none
   |.own _=>adv con.rs con.qs con.m a (arC a con.i args) d r k|.box=>amy con.rs con.qs con.m a (arC a con.i args) d r k|.cur=>amz con.rs con.qs con.m a (arC a con.i args) d r k
 |none=>none
def aF1 (a:Ty×Bool):CV:=match a.2 with|true=>.agg (List.replicate a.1.n .any)|false=>.c .none
def aJJ (a:Ty×Bool)(c:CV):Bool:=match a.2,c with
 |true,.agg l=>Nat.beq l.length a.1.n&&ai7 l|true,.c _=>false|false,_=>true
def aF2 (a b q:Ty×Bool)(st:St)(c:CV)(d:Tmp)(n:b.1.D)(y:q.1.D)(k:St->Option U):Option U :=
 ck (Nat.blt d st.nt&&eE [b]&&fW (lP d true [b] (n,()) 0).2 st) (k {(st.put d (.Vf (aF1 a::(lP d true [b] (n,()) 0).1))) with bl:=(lP d true [b] (n,()) 0).2++((tu true q.1 y c.cells).1++st.bl)})
def auZ (con:Sel)(st:St)(d:Option Tmp)(args:List Operand)(k:St->Option U):Option U :=
 let a:=st.freeze (gN st (.own true) con.i args)
 match kb a (.own true) con.i con.ps args with
 |some x=>(con.g x).bind fun r =>
  match d with
  |none=>none|some d=>br (am9 con.b.1 r.2.1) (adv [con.a,con.b] [] 2 a (arC a con.i args) d ((r.1,(aKX con.b.1 r.2.1,())),()) k) (aF2 con.a con.b con.q a (arC a con.i args) d (aKY con.b.1 r.2.1) r.2.2 k)
 |none=>none
def au0 (i:Idx)(st:St)(d:Option Tmp)(args:List Operand)(k:St->Option U):Option U :=
 match args with
 |[s,f]=>match st.ac f with
  |.fnp g b=>match Nat.beq g i.g with
   |true=>match look st.bx b with
    |some l=>match im st i.q l with
     |some (y,[])=>match cy st i.a.1 (st.ac s) with
      |some xs=>st.pk d (.v (.c (.int .i64 (p1 (fun x=>i.p x y) xs 0)))) k
      |none=>none
     |_=>none
    |none=>none
   |false=>none
  |_=>none
 |_=>none
def abH (c:Bool)(st:St):Int->List Operand->Option Int
 |a,[]=>some a|a,d::l=>match st.ac d with
  |.int _ b=>abH c st (match c with|true=>if b>a then b else a|false=>if b<a then b else a) l
  |_=>none
def Vs (st:St)(e:TypeId)(u:Ty):AC->Option (List u.D×Bool×St)
 |.nil=>some ([],true,st)|.own id none=>match st.rI id with
  |some b=>match b.w&&Nat.beq b.e e with
   |true=>if h:b.t.beq u=true then some (ZQ (Ty.beq_eq h) b.xs,b.f,{st with bl:=(id,none)::st.bl}) else none
   |false=>none
  |none=>none
 |_=>none
def Yv (st:St)(u:Ty):AC->Option (List u.D×Bool)
 |.own id len=>match cy st u (.own id len),st.rI id with
  |some a,some b=>some (a,b.f)|_,_=>none
 |.ro f c d a=>match cy st u (.ro f c d a) with
  |some a=>some (a,f)|none=>none
 |.nil=>some ([],true)|_=>none
def aAF (e:TypeId)(u:Ty)(st:St)(d:Option Tmp)(args:List Operand)(k:St->Option U):Option U :=
 match d,args with
 |some d,[s,i,v]=>match st.ac i,st.ac v with
  |.int .i64 n,.own a none=>match st.rI a with
   |some b=>match b.w&&Nat.beq b.e e with
    |true=>if h:b.t.beq u=true then
      match Vs st e u (st.ac s) with
      |some (xs,f,c)=>match look c.bl a with
       |some (some _)=>ck (!Nat.beq u.n 0&&decide (0<=n)&&decide (n<=(xs.length:Int))&&decide (1<=(b.xs.length:Int))&&decide (((xs.length+b.xs.length:Nat):Int)<=1073741824))
         (c.row d ⟨e,u,xs.take n.toNat++ZQ (Ty.beq_eq h) b.xs++xs.drop n.toNat,f&&(b.f || flat u),true⟩ k)
       |_=>none
      |none=>none
     else none
    |false=>none
   |none=>none
  |_,_=>none
 |_,_=>none
def aAG (e:TypeId)(u:Ty)(st:St)(d:Option Tmp)(args:List Operand)(k:St->Option U):Option U :=
 match d,args with
 |some d,[s,i,a]=>match st.ac i,st.ac a with
  |.int .i64 n,.int .i64 m=>match Vs st e u (st.ac s) with
   |some (xs,f,b)=>ck (!Nat.beq u.n 0&&decide (0<=n)&&decide (n<=m)&&decide (m<=(xs.length:Int)))
     (b.row d ⟨e,u,xs.take n.toNat++xs.drop m.toNat,f,true⟩ k)
   |none=>none
  |_,_=>none
 |_,_=>none
def aCP:CV->Bool
 |.c (.int .u8 0)=>true|_=>false
def Ps (st:St)(d:Tmp)(s x:AC)(t c e:TypeId)(u:Ty)(z:CV)(k:St->Option U):Option U :=
 match Vs st e u s with
 |some (xs,f,a)=>match x with
  |.str w=>if h:u.beq (.int .u8)=true then
    match P.underlying c with
    |some .string=>ck (Nat.beq (P.cellsOf e) 1&&Nat.beq (P.bytesOf e) 1&&aCP z&&decide (((xs.length+w.size:Nat):Int)<=F.mem))
      (a.row d ⟨e,.int .u8,ZQ (Ty.beq_eq h) xs++bytesOf w,f,true⟩ k)
    |_=>none
   else none
  |x=>match Yv st u x with
   |some (b,g) =>
    ck (Nat.beq t c&&Nat.beq (P.cellsOf e) u.n&&Nat.beq z.cells.length u.n&&z.kn&& !Nat.beq u.n 0&& !Nat.beq (P.bytesOf e) 0&&decide (((xs.length+b.length:Nat):Int)*(P.bytesOf e:Int)<=F.mem))
     (a.row d ⟨e,u,xs++b,f&&(g || flat u),true⟩ k)
   |none=>none
 |none=>none
def iZ (o:Oper)(st:St)(k:St->Option U):Option U :=
 match o.op with
 |.move x|.assign x=>st.pk o.dst (st.ev x) k|.pick c a b=>match st.ac c with
  |.bool v=>br v ((st.lit c true).pk o.dst (st.ev a) k) ((st.lit c false).pk o.dst (st.ev b) k)|_=>none
 |.box t x=>match o.dst with
  |some d=>match Zd st.rob d with
   |true=>match auW P 20 t with
    |some u=>match im st u (st.ec x).cells with
     |some (y,[])=>ck (Nat.blt d st.nt&&(st.ec x).kn&&o9 st (st.ec x).cells) (k ((st.freeze (st.ec x).cells).put d (.v (.c (.UT (cj (st.ec x).cells) u y 0)))))|_=>none
    |none=>none
   |false=>match look st.bx d with
    |none=>ck (Nat.blt d st.nt&&(st.ec x).kn) (k {(st.put d (.v (.c (.ptr d 0)))) with bx:=(d,(st.ec x).cells)::st.bx})
    |some _=>none
  |none=>none
 |.alloc t=>match o.dst with
  |some d=>match look st.bx d with
   |none=>match tt P t with
    |some z=>ck (Nat.blt d st.nt&&z.kn) (k {(st.put d (.v (.c (.ptr d 0)))) with bx:=(d,z.cells)::st.bx})
    |none=>none
   |some _=>none
  |none=>none
 |.build t parts=>match tt P t,anc P t with
  |some z,some I=>match z.kn,Ca st I z.cells parts.toList with
   |true,some l=>st.pk o.dst (.v (.agg l)) k|_,_=>none
  |_,_=>none
 |.buildSlice t len parts=>match o.dst,E4 P t with
  |some d,some e=>match auW P 20 e with
   |some u=>match iA st u 0 parts.toList with
    |some xs=>match Nat.beq parts.toList.length len&&o9 st (cm st parts.toList)&&(Nat.beq (P.cellsOf e) u.n&& !Nat.beq u.n 0&&Nat.ble (len*u.n) 16777216&&(tt P e).isSome) with
     |true=>(st.freeze (cm st parts.toList)).row d ⟨e,u,xs,cj (cm st parts.toList),true⟩ k|false=>none
    |none=>none
   |none=>none
  |_,_=>none
 |.load t a=>match uu st (st.ac a) with
  |some (l,off) =>
   let q:=x7 (P.cellsOf t) (x8 off l)
   match Nat.beq q.length (P.cellsOf t) with
   |true=>match abG P t with
    |some true=>st.pk o.dst (.v (.agg q)) k|some false=>match q with
     |[x]=>st.pk o.dst (.v (.c x)) k|_=>none
    |none=>none
   |false=>none
  |none=>none
 |.store t a x=>match (st.ec x).kn&&ai7 (st.ec x).cells&&Nat.beq (P.cellsOf t) (st.ec x).cells.length&&(P.info? t).isSome with
  |true=>match st.ac a with
   |.ptr b off=>match look st.bx b with
    |some l=>match Nat.ble (off+(st.ec x).cells.length) l.length with
     |true=>({st with bx:=(b,H2 l off (st.ec x).cells)::st.bx}).pk o.dst (.Vf []) k
     |false=>none
    |none=>none
   |.Mi id i off=>match st.rI id with
    |some b=>match b.w&&o9 st (st.ec x).cells&&aAD id (st.ec x).cells with
     |true=>match BE st b.t (b.xs.getD i.toNat b.t.aC) (off,(st.ec x).cells) with
      |some (y,(0,[])) =>
       let E:=st.freeze (st.ec x).cells
       ({E with bl:=(id,some {b with xs:=b.xs.set i.toNat y,f:=b.f&&cj (st.ec x).cells})::E.bl}).pk o.dst (.Vf []) k
      |_=>none
     |false=>none
    |none=>none
   |_=>none
  |false=>none
 |.nilCheck x=>match st.ac x with
  |.ptr b off=>st.pk o.dst (.v (.c (.ptr b off))) k|_=>none
 |.binOp op G x y _=>match st.ec x,st.ec y with
  |.c a,.c b=>aIf P F op G a b fun r=>st.pk o.dst (.v (.c r)) k
  |.agg l,.agg m=>match op,ana P G l m with
   |.eql,some c=>st.pk o.dst (.v (.c (.bool c))) k|.neq,some c=>st.pk o.dst (.v (.c (.bool (!c)))) k|_,_=>none
  |_,_=>none
 |.unOp op _ x=>match op,st.ac x with
  |.not,.bool b=>st.pk o.dst (.v (.c (.bool (!b)))) k|.neg,.int j n=>st.pk o.dst (.v (.c (.int j (j.wrap (0-n))))) k|_,_=>none
 |.convert src dst x=>match P.underlying src,P.underlying dst,st.ac x with
  |some (.int _),some (.int j),.int _ n=>st.pk o.dst (.v (.c (.int j (j.wrap n)))) k|some .string,some .string,.str s=>st.pk o.dst (.v (.c (.str s))) k|some .string,some (.slice e),.str s=>match P.underlying e with
   |some (.int .u8)=>ck (decide ((s.size:Int)<=F.mem)) (st.pk o.dst (.v (.c (.ro true e (.int .u8) (bytesOf s)))) k)|_=>none
  |some (.slice e),some .string,c=>match P.underlying e,cy st (.int .u8) c with
   |some (.int .u8),some xs=>st.pk o.dst (.v (.c (.str (strOf xs)))) k|_,_=>none
  |_,_,_=>none
 |.makeSlice t a b=>match o.dst,E4 P t,st.ac a,st.ac b with
  |some d,some e,.int .i64 n,.int .i64 m=>match auW P 20 e,tt P e with
   |some u,some z=>match im st u z.cells with
    |some (x,[])=>ck (z.kn&&(Nat.beq (P.cellsOf e) u.n&& !Nat.beq u.n 0&& !Nat.beq (P.bytesOf e) 0)&&decide (0<=n)&&n==m&&decide (n*(P.bytesOf e:Int)<=F.mem))
      (st.row d ⟨e,u,List.replicate n.toNat x,true,true⟩ k)
    |_=>none
   |_,_=>none
  |_,_,_,_=>none
 |.slice t x p B none=>match P.underlying t with
  |some .string=>match st.ac x with
   |.str s=>match wP p st 0,wP B st (s.size:Int) with
    |some l,some h=>ck (decide (0<=l)&&decide (l<=h)&&decide (h<=(s.size:Int))) (st.pk o.dst (.v (.c (.str (s.extract l.toNat h.toNat)))) k)|_,_=>none
   |_=>none
  |some (.slice D)=>match st.ac x with
   |.ro f e u xs=>match wP p st 0,wP B st (xs.length:Int) with
    |some l,some h=>ck (Nat.beq (P.cellsOf D) u.n&& !Nat.beq u.n 0&&(decide (0<=l)&&decide (l<=h)&&decide (h<=(xs.length:Int)))) (st.pk o.dst (.v (.c (.ro f e u ((xs.take h.toNat).drop l.toNat)))) k)|_,_=>none
   |.own id none=>match st.rI id,p with
    |some b,none=>match wP B st (b.xs.length:Int) with
     |some h=>ck (Nat.beq (P.cellsOf D) b.t.n&&(decide (0<=h)&&decide (h<=(b.xs.length:Int)))) (st.pk o.dst (.v (.c (.own id (some h)))) k)|none=>none
    |some b,some p=>match wP (some p) st 0,wP B st (b.xs.length:Int) with
     |some l,some h=>ck (Nat.beq (P.cellsOf D) b.t.n&&(decide (0<=l)&&decide (l<=h)&&decide (h<=(b.xs.length:Int))))
       (({st with bl:=(id,some {b with w:=false})::st.bl}).pk o.dst (.v (.c (.ro b.f b.e b.t ((b.xs.take h.toNat).drop l.toNat)))) k)
     |_,_=>none
    |none,_=>none
   |_=>none
  |_=>none
 |.fieldAddr t x f=>match axM P t f with
  |some q=>match st.ac x with
   |.ptr b off=>st.pk o.dst (.v (.c (.ptr b (off+q)))) k|.Mi id i off=>match st.rI id with
    |some _=>st.pk o.dst (.v (.c (.Mi id i (off+q)))) k|none=>none
   |.UT K u y off=>st.pk o.dst (.v (.c (.UT K u y (off+q)))) k|_=>none
  |none=>none
 |.indexAddr t x i=>match st.ac i with
  |.int _ n=>match P.underlying t with
   |some (.slice e)=>match st.ac x with
    |.own id len=>match st.rI id with
     |some b=>match anb st (.own id len) with
      |some m=>ck (Nat.beq (P.cellsOf e) b.t.n&&(decide (0<=n)&&decide (n<m))) (st.pk o.dst (.v (.c (.Mi id n 0))) k)|none=>none
     |none=>none
    |.ro f _ u xs=>ck (Nat.beq (P.cellsOf e) u.n&& !Nat.beq u.n 0&&(decide (0<=n)&&decide (n<(xs.length:Int)))) (st.pk o.dst (.v (.c (.UT f u (xs.getD n.toNat u.aC) 0))) k)|_=>none
   |some (.array m e)=>match st.ac x with
    |.ptr b off=>ck (!Nat.beq (P.cellsOf e) 0&&(decide (0<=n)&&decide (n<(m:Int)))) (st.pk o.dst (.v (.c (.ptr b (off+n.toNat*P.cellsOf e)))) k)|_=>none
   |_=>none
  |_=>none
 |.index t x i=>match P.underlying t,st.ac x,st.ac i with
  |some .string,.str s,.int _ n=>ck (decide (0<=n)&&decide (n<(s.size:Int))) (st.pk o.dst (.v (.c (.int .u8 (jO s n)))) k)|_,_,_=>none
 |.field t x f=>match auX P t f,st.ec x with
  |some (t,off),.agg l =>
   let q:=x7 (P.cellsOf t) (x8 off l)
   match Nat.beq q.length (P.cellsOf t) with
   |true=>match abG P t with
    |some true=>st.pk o.dst (.v (.agg q)) k|some false=>match q with
     |[x]=>st.pk o.dst (.v (.c x)) k|_=>none
    |none=>none
   |false=>none
  |_,_=>none
 |.extract x i=>match st.ev x with
  |.Vf l=>match nv l i with
   |some v=>st.pk o.dst (.v v) k|none=>none
  |_=>none
 |.call {callee:=.value (.func f),args,..}=>match C f with
  |some (.one A)=>Yu A st o.dst args.toList k|some (.two A)=>adw A st o.dst args.toList k|some (.sel A)=>auZ A st o.dst args.toList k|some (.idx i)=>au0 i st o.dst args.toList k|some (.ins e u)=>aAF e u st o.dst args.toList k|some (.del e u)=>aAG e u st o.dst args.toList k|none=>none
 |.call {callee:=.builtin .len,args,argTypes}=>match args.toList,argTypes.toList with
  |[x],[t]=>match P.underlying t,anb st (st.ac x) with
   |some .string,some n=>match st.ac x with|.str _=>st.pk o.dst (.v (.c (.int .i64 n))) k|_=>none
   |some (.slice _),some n=>match st.ac x with|.str _=>none|_=>st.pk o.dst (.v (.c (.int .i64 n))) k
   |_,_=>none
  |_,_=>none
 |.call {callee:=.builtin .max,args,..}=>match args.toList with
  |x::l=>match st.ac x with
   |.int j a=>match abH true st a l with
    |some r=>st.pk o.dst (.v (.c (.int j r))) k|none=>none
   |_=>none
  |_=>none
 |.call {callee:=.builtin .min,args,..}=>match args.toList with
  |x::l=>match st.ac x with
   |.int j a=>match abH false st a l with
    |some r=>st.pk o.dst (.v (.c (.int j r))) k|none=>none
   |_=>none
  |_=>none
 |.call {callee:=.builtin .append,args,argTypes}=>match o.dst,args.toList,argTypes.toList with
  |some d,[s,x],[t,t2]=>match E4 P t with
   |some e=>match auW P 20 e,tt P e with
    |some u,some z=>Ps P F st d (st.ac s) (st.ac x) t t2 e u z k|_,_=>none
   |none=>none
  |_,_,_=>none
 |.makeFunc (.func g) first L=>match first.toList,L.toList with
  |[],[x]=>match st.ac x with
   |.ptr b 0=>st.pk o.dst (.v (.c (.fnp g b))) k|_=>none
  |_,_=>none
 |_=>none
def ya (all:List Oper):List Oper->St->(St->Option U)->Option U
 |[],st,k=>k st|o::l,st,k=>match o.guard with
  |none=>iZ P C F o st fun st=>ya all l st k
  |some (c,Vt)=>match nv all c with
   |some d=>match d.dst with
    |some a=>match st.get a with
     |.v (.c (.bool b)) =>
      let yes (st:St):Option U:=iZ P C F o st fun st=>ya all l st k
      let no (st:St):Option U:=st.pk o.dst (.Vf []) fun st=>ya all l st k
      br b (let st:=st.put a (.v (.c (.bool true)));match Vt with|true=>yes st|false=>no st)
         (let st:=st.put a (.v (.c (.bool false)));match Vt with|true=>no st|false=>yes st)
     |.Vf []=>st.pk o.dst (.Vf []) fun st=>ya all l st k
     |_=>none
    |none=>none
   |none=>none
def adx (all:List Oper)(o:Oper)(st:St)(k:St->Option U):Option U :=
 match o.guard with
 |none=>iZ P C F o st k|some (c,Vt)=>match nv all c with
  |some d=>match d.dst with
   |some a=>match st.get a with
    |.v (.c (.bool b)) =>
     br b (let st:=st.put a (.v (.c (.bool true)));match Vt with|true=>iZ P C F o st k|false=>st.pk o.dst (.Vf []) k)
        (let st:=st.put a (.v (.c (.bool false)));match Vt with|true=>st.pk o.dst (.Vf []) k|false=>iZ P C F o st k)
    |.Vf []=>st.pk o.dst (.Vf []) k|_=>none
   |none=>none
  |none=>none
def pa (o:Oper):Bool:=match o.op with
 |.move _|.assign _|.pick _ _ _|.load _ _|.nilCheck _|.binOp _ _ _ _ _|.unOp _ _ _|.fieldAddr _ _ _|.indexAddr _ _ _|.index _ _ _|.field _ _ _|.extract _ _|.build _ _|.slice _ _ _ _ _=>true|.convert _ dst _=>match P.underlying dst with|some (.slice _)=>false|_=>true
 |.call {callee:=.builtin .len,..}|.call {callee:=.builtin .min,..}|.call {callee:=.builtin .max,..}=>true|_=>false
def aAH (o:Oper):Bool:=match o.op with
 |.call {callee:=.value (.func f),..}=>match C f with|some (.one _)=>true|_=>false
 |_=>false
def cE (o:Oper):Bool:=match o.guard,o.dst,o.op with
 |none,some _,.alloc t=>match tt P t with|some z=>z.kn|none=>false
 |none,some _,.buildSlice t len parts=>match E4 P t with
  |some e=>match auW P 20 e with
   |some u=>(flat u || Nat.beq len 0)&&Nat.beq parts.toList.length len&&(Nat.beq (P.cellsOf e) u.n&& !Nat.beq u.n 0&&Nat.ble (len*u.n) 16777216&&(tt P e).isSome)|none=>false
  |none=>false
 |_,_,_=>false
def au1 (o:Oper):Bool:=match o.op with
 |.alloc _|.box _ _|.buildSlice _ _ _=>true|_=>false
def as6:Option Tmp->Option Tmp->Bool
 |some a,some b=>Nat.beq a b|_,_=>false
def H3 (o:Oper):Bool:=cE P o&&match o.op with|.buildSlice _ 0 _=>true|_=>false
def abI (o:Oper):Option Tmp:=match o.op with
 |.call {callee:=.builtin .append,args,argTypes}=>match args.toList,argTypes.toList with
  |[.tmp t,_],[a,b]=>match Nat.beq a b with|true=>some t|false=>none
  |_,_=>none
 |_=>none
def Pt (ops:Array Oper)(o:Oper):Bool:=match abI o with
 |some t=>(List.range ops.size).any fun x=>match ops[x]? with
  |some a=>H3 P a&&as6 a.dst (some t)&&o.after.any fun e=>Region.binds .any e&&Nat.beq e.on x
  |none=>false
 |none=>false
def p2 (ops:Array Oper)(o:Oper):Bool:=pa P o || cE P o || aAH C o || au1 o || Pt P ops o
def aLG (o:Oper):Bool:=match o.op with
 |.load _ _|.convert _ _ _=>true|_=>false
def J1 (st:St)(o:Oper):Bool:=match o.op with
 |.load _ a=>match st.ac a with|.UT _ _ _ _=>true|_=>false
 |.convert _ _ _=>false|_=>true
def aCQ (ops:List Oper)(st:St)(o:Oper):Bool:=match o.guard with
 |none=>false|some (a,Vt)=>match nv ops a with
  |some b=>match b.dst with
   |some c=>match st.get c,Vt with
    |.v (.c (.bool true)),false=>true|.v (.c (.bool false)),true=>true|.Vf [],_=>true|_,_=>false
   |none=>false
  |none=>false
def St.drop (st:St)(t:Tmp):St:={st with tm:=st.tm.filter fun p=> !Nat.beq p.1 t}
def tv (ops:Array Oper)(a:Array Bool):List Nat->St->St
 |[],st=>st|i::l,st=>match ops[i]? with
  |some b=>match cE P b&& !a.getD i true,b.dst with
   |true,some d=>(tv ops a l st).drop d|_,_=>tv ops a l st
  |none=>tv ops a l st
def ady (o:Oper)(t:Tmp):Bool:=match o.op with
 |.buildSlice _ _ parts=>parts.toList.any fun p=>match p.2 with|.tmp s=>Nat.beq s t|_=>false
 |_=>false
def Mo (st:St)(o:Oper):Bool:=match o.op with
 |.buildSlice t _ parts=>match E4 P t with
  |some e=>match auW P 20 e with
   |some u=>(iA st u 0 parts.toList).isSome|none=>false
  |none=>false
 |_=>true
def waits (ops:Array Oper)(b:Array Bool)(o:Oper):Bool:=o.after.any fun e=>Region.binds .any e&&match ops[e.on]? with|some a=> !cE P a&& !b.getD e.on true|none=>false
def axN (ops:Array Oper)(b:Array Bool)(st:St):List Nat->Bool
 |[]=>true|y::l=>(match ops[y]? with|some a=> !cE P a || b.getD y true || waits P ops b a || Mo P st a|none=>true)&&axN ops b st l
def ane (ops:Array Oper):Bool:=(List.range ops.size).all fun x=>match ops[x]? with
 |some a=> !cE P a || (List.range ops.size).all fun y=>match ops[y]? with
  |some b=>match b.dst with
   |some t=> !ady a t || (!cE P b&&a.after.any fun e=>Region.binds .any e&&Nat.beq e.on y)
   |none=>true
  |none=>true
 |none=>true
def rJ (ops:Array Oper)(b:Nat):Bool:=ane P ops&&(List.range ops.size).all fun x=>match ops[x]? with
 |some a=> !cE P a || ((match a.dst with|some d=>Nat.blt d b|none=>false)&&(List.range ops.size).all fun y=>Nat.beq y x || match ops[y]? with|some c=> !as6 c.dst a.dst|none=>true)
 |none=>true
def oi (ops:Array Oper)(a:Array Bool)(i:Nat):Nat->Oper->Bool
 |0,_=>false|n+1,b=>b.after.any fun e=>Region.binds .any e&&(e.on==i || (!a.getD e.on true&&match ops[e.on]? with|some c=>oi ops a i n c|none=>false))
def agx (o:Oper):Option Tmp:=match o.op with
 |.call {callee:=.value (.func f),args,..}=>match C f with
  |some (.two a)=>match a.pm with
   |.box|.cur=>match nv args.toList a.i with|some (.tmp t)=>some t|_=>none
   |_=>none
  |_=>none
 |_=>none
def aAI (ops:Array Oper)(c:Array Bool)(t:Tmp):Bool:=(List.range ops.size).all fun a=>match ops[a]? with
 |some b=>c.getD a true || !as6 b.dst (some t)|none=>true
def au2 (ops:Array Oper)(d:Array Bool)(st:St)(i:Nat)(o:Oper):Bool:=match o.op with
 |.load _ x=>match st.ac x with
  |.ptr b _=>(List.range ops.size).all fun c=>match ops[c]? with
   |some a=>p2 P C ops a || d.getD c true || oi ops d i 3 a || (match agx C a with
    |some t=>(match st.get t with|.v (.c (.ptr e 0))=> !Nat.beq e b|_=>false)&&aAI ops d t
    |none=>false)
   |none=>true
  |_=>false
 |_=>false
def adz (ops:Array Oper)(b:Array Bool)(i:Nat):Bool :=
 (List.range ops.size).all fun c=>match ops[c]? with
  |some a=>p2 P C ops a || b.getD c true || oi ops b i 3 a|none=>true
def Vu (ops:Array Oper)(b:Array Bool)(st:St):List Nat->Option (Nat×Oper)
 |[]=>none|i::l=>match ops[i]? with
  |some a=>match pa P a&&Region.free .any ops b i&&(J1 st a || adz P C ops b i || aCQ ops.toList st a || au2 P C ops b st i a) with
   |true=>some (i,a)|false=>Vu ops b st l
  |none=>none
def yb (ops:Array Oper)(x:Nat):List Nat->Array Bool->Array Bool
 |[],l=>l|i::is,l=>match ops[i]? with
  |some a=>match cE P a&& !Nat.beq i x with
   |true=>yb ops x is (l.setIfInBounds i true)|false=>yb ops x is l
  |none=>yb ops x is l
def aF3 (x:Nat):List Nat->Bool
 |[]=>true|j::l=>Nat.beq j x&&aF3 x l
def Vv (ops:Array Oper)(a:Array Bool)(st:St):List Nat->Option (Nat×Oper)
 |[]=>none|i::l=>match ops[i]? with
  |some b=>match aF3 i (Region.ready .any ops (yb P ops i (List.range ops.size) a))&&axN P ops a st (List.range ops.size) with
   |true=>some (i,b)|false=>Vv ops a st l
  |none=>none
def JB (ops:Array Oper)(a:Array Bool):List Nat->Bool
 |[]=>true|i::l=>(match ops[i]? with|some b=> !cE P b || a.getD i true|none=>true)&&JB ops a l
def H4 (ops:Array Oper):Nat->Array Bool->St->(St->Option U)->Option U
 |0,OQ,st,k=>match Region.ready .any ops OQ with
  |[]=>ck (JB P ops OQ (List.range ops.size)) (k st)|_=>none
 |n+1,OQ,st,k=>match Region.ready .any ops OQ with
  |[]=>ck (JB P ops OQ (List.range ops.size)) (k st)|i::r=>let st:=tv P ops OQ (List.range ops.size) st
   match Vu P C ops OQ st (i::r) with
   |some (a,b)=>adx P C F ops.toList b st fun st=>H4 ops n (OQ.setIfInBounds a true) st k
   |none=>match Vv P ops OQ st (i::r) with
    |some (a,b)=>adx P C F ops.toList b st fun st=>H4 ops n (OQ.setIfInBounds a true) st k
    |none=>none
inductive Ex where
 |norm|exit (id:Nat)|ret
structure Hint where
 live:List Tmp
 mat:List (Tmp×TypeId×Ty):=[]
 roT:List Tmp:=[]
 wk:List Tmp:=[]
 yc:List (Nat×Nat×TypeId×Ty):=[]
 xl:List Tmp:=[]
 rl:List Tmp:=[]
 roB:List (Nat×Nat):=[]
 aJ1:Bool:=false
def aKZ (env:List Nat)(c:AC):List Nat:=match c with
 |.own id _|.Mi id _ _=>match Zd env id with|true=>env|false=>env++[id]
 |_=>env
def aF4 (env:List Nat)(l:List AC):List Nat:=l.foldl aKZ env
def AV.cells:AV->List AC
 |.v x=>x.cells|.Vf l=>l.flatMap CV.cells
def idxOf:List Nat->Nat->Nat->Option Nat
 |[],_,_=>none|x::l,n,i=>match Nat.beq x n with|true=>some i|false=>idxOf l n (i+1)
def akz (env d:List Nat):AC->AC
 |.own id len=>match idxOf env id 0 with|some i=>.own (1000000+i) len|none=>.none
 |.Mi id i a=>match idxOf env id 0 with|some e=>.Mi (1000000+e) i a|none=>.none
 |.ptr b a=>match Zd d b with|true=>.ptr b a|false=>.none
 |.fnp _ _=>.none|c=>c
def aIh (env a:List Nat):CV->CV
 |.c x=>.c (akz env a x)|.agg l=>.agg (l.map (akz env a))
def aIi (env a:List Nat):AV->AV
 |.v x=>.v (aIh env a x)|.Vf l=>.Vf (l.map (aIh env a))
def au3 (st:St)(t:Tmp)(e:TypeId)(u:Ty):St:=match st.get t,look st.bl (2000000+t),Nat.beq u.n 0 with
 |.v (.c .nil),none,false=>{(st.put t (.v (.c (.own (2000000+t) none)))) with bl:=(2000000+t,some ⟨e,u,[],true,true⟩)::st.bl}
 |_,_,_=>st
def amA (st:St)(b j:Nat)(e:TypeId)(u:Ty):St:=match look st.bx b,look st.bl (3000000+100*b+j),Nat.beq u.n 0 with
 |some l,none,false=>match nv l j with
  |some .nil=>{st with bx:=(b,OO l j (.own (3000000+100*b+j) none))::st.bx,bl:=(3000000+100*b+j,some ⟨e,u,[],true,true⟩)::st.bl}
  |_=>st
 |_,_,_=>st
def aCR (st:St)(t:Tmp):St:=match st.get t with
 |.v (.c (.own id len))=>match st.rI id with
  |some b=>(st.dD (.own id len)).put t (.v (.c (.ro b.f b.e b.t (JZ b.xs len))))|none=>st
 |_=>st
def au4 (st:St)(b j:Nat):St:=match look st.bx b with
 |some l=>match nv l j with
  |some (.own id len)=>match st.rI id with
   |some a=>{(st.dD (.own id len)) with bx:=(b,OO l j (.ro false a.e a.t (JZ a.xs len)))::(st.dD (.own id len)).bx}
   |none=>st
  |some (.ro _ e t xs)=>{st with bx:=(b,OO l j (.ro false e t xs))::st.bx}
  |_=>st
 |none=>st
def aF5 (st:St):Bool->St
 |true=>{st with sp:=.v (.c .none)}
 |false=>st
def au5 (st:St)(t:Tmp):St:=match st.get t with
 |.v (.c (.ro _ e u xs))=>st.put t (.v (.c (.ro false e u xs)))|.v (.c (.own id len))=>match st.rI id with
  |some b=>{st with bl:=(id,some {b with f:=false})::st.bl}
  |none=>st
 |_=>st
def Vw:List AV->List Nat
 |[]=>[]|.v (.c (.ptr b _))::l=>match Zd (Vw l) b with|true=>Vw l|false=>b::Vw l
 |_::l=>Vw l
def aIj (a:List (Nat×AV))(bx:List (Nat×List AC)):List Nat :=
 bx.foldl (fun env b=>aF4 env b.2) (a.foldl (fun env x=>aF4 env x.2.cells) [])
def aAJ (st:St)(b:Nat):List AC:=match look st.bx b with|some l=>l|none=>[]
def Vx (st:St)(env:List Nat):Nat->List Nat->List (Nat×Option fN)
 |_,[]=>[]|i,id::l=>(1000000+i,match idxOf env id 0 with
  |some a=>match Nat.beq a i with|true=>st.rI id|false=>none
  |none=>none)::Vx st env (i+1) l
def aK0 (st:St)(tm:List (Nat×AV))(a:List Nat)(env:List Nat):St :=
 {nt:=st.nt,tm:=tm.map fun x=>(x.1,aIi env a x.2),bx:=a.map fun b=>(b,(aAJ st b).map (akz env a)),bl:=Vx st env 0 env,sp:=aIi env a st.sp,rob:=st.rob}
def keep (d:List Tmp)(st:St):St :=
 let a:=d.map fun t=>(t,st.get t)
 let c:=Vw (st.sp::a.map (·.2))
 aK0 st a c (aIj ((0,st.sp)::a) (c.map fun b=>(b,aAJ st b)))
def aF6 (h:Hint)(st:St):St :=
 keep h.live (h.wk.foldl au5 (h.roT.foldl aCR (h.roB.foldl (fun st (b,a)=>au4 st b a) (h.yc.foldl (fun st (b,a,e,u)=>amA st b a e u) (h.mat.foldl (fun st (t,e,u)=>au3 st t e u) (aF5 st h.aJ1))))))
def aJ2 (h:Hint)(e:Ex)(st:St):St:=match e with
 |.norm=>st|.exit _=>keep h.xl st|.ret=>keep h.rl st
def au6 (h:Option Hint)(st:St):St:=match h with|some h=>aF6 h st|none=>st
def anf (h:Option Hint)(e:Ex)(st:St):St:=match h with|some h=>aJ2 h e st|none=>st
def aIk (b:St->(Ex->St->Option U)->Option U)(h:Option Hint)(k:Ex->St->Option U):Nat->St->Option U
 |0,_=>none|n+1,st=>b st fun e dd=>match e with
  |.norm=>aIk b h k n (au6 h dd)|.exit a=>k (.exit a) (anf h (.exit a) dd)|.ret=>k .ret (anf h .ret dd)
def rK:Code->Nat
 |.region id _ _=>id|.seq a _=>rK a|.block _ b=>rK b|_=>0
def kH (o:Oper):Bool:=match o.op with
 |.move _|.assign _|.pick _ _ _|.load _ _|.nilCheck _|.binOp _ _ _ _ _|.unOp _ _ _|.fieldAddr _ _ _|.indexAddr _ _ _|.index _ _ _|.field _ _ _|.extract _ _|.build _ _|.slice _ _ _ _ _=>true|.convert _ dst _=>match P.underlying dst with|some (.slice _)=>false|_=>true
 |.call {callee:=.builtin .len,..}|.call {callee:=.builtin .min,..}|.call {callee:=.builtin .max,..}=>true|.call {callee:=.value (.func f),..}=>match C f with|some (.one b)=>Nat.beq b.m 1&&b.rs.all fun a=>flat a.1|_=>false
 |_=>false
def aAK (ops:Array Oper):Bool:=P.follows .mixedOrders&&Region.lexB .any ops&&ops.toList.all fun a=>kH P C a
def au7 (d:Nat)(c:Nat->AC):AC->AC
 |.ptr b a=>match Nat.beq b d with|true=>c a|false=>.ptr b a
 |.fnp g b=>match Nat.beq b d with|true=>.none|false=>.fnp g b
 |x=>x
def aF7 (d:Nat)(c:Nat->AC):CV->CV
 |.c x=>.c (au7 d c x)|.agg l=>.agg (l.map (au7 d c))
def aCS (d:Nat)(c:Nat->AC):AV->AV
 |.v x=>.v (aF7 d c x)|.Vf l=>.Vf (l.map (aF7 d c))
def St.as7 (st:St)(d:Nat)(c:Nat->AC):St :=
 {st with tm:=st.tm.map fun p=>(p.1,aCS d c p.2),bx:=(st.bx.filter fun p=> !Nat.beq p.1 d).map fun p=>(p.1,p.2.map (au7 d c)),sp:=aCS d c st.sp}
def aF8 (d:Nat)(u:Ty)(st:St)(k:St->Option U):Option U:=match look st.bx d with
 |some cells=>match im st u cells with
  |some (y,[])=>ck (o9 st cells) (k ((st.freeze cells).as7 d fun a=>.UT (cj cells) u y a))
  |_=>none
 |none=>none
def aIl:List (Tmp×TypeId×Ty)->St->(St->Option U)->Option U
 |[],st,k=>k st|(d,_,u)::l,st,k=>aF8 d u st fun st=>aIl l st k
def aK1 (H:Nat->Option Hint)(id:Nat):List (Tmp×TypeId×Ty):=match H (900000+id) with|some h=>h.mat|none=>[]
def run (H:Nat->Option Hint):Code->St->(Ex->St->Option U)->Option U
 |.skip,st,k=>k .norm st|.region id ops aIm,st,k=>match (!aIm || aAK P C ops) with
  |true=>ya P C F ops.toList ops.toList st fun st=>k .norm st
  |false=>match P.follows .mixedOrders&&Region.noSelect ops&&rJ P ops st.nt with
   |true=>aIl (aK1 H id) st fun st=>H4 P C F ops ops.size (Array.replicate ops.size false) st fun st=>k .norm st
   |false=>none
 |.seq a b,st,k=>run H a st fun e st=>match e with
  |.norm=>run H b st k|e=>k e st
 |.cond c a b,st,k=>match st.ac c with
  |.bool v=>br v (run H a (st.lit c true) k) (run H b (st.lit c false) k)|_=>none
 |.block id b,st,k=>run H b st fun e st=>match e with
  |.exit d=>match Nat.beq d id with|true=>k .norm st|false=>k (.exit d) st
  |e=>k e st
 |.loop b,st,k=>aIk (fun st k=>run H b st k) (H (rK b)) k F.n (au6 (H (rK b)) st)
 |.exit id,st,k=>k (.exit id) st|.ret,st,k=>k .ret st|_,_,_=>none
def aK2 (ps:List (Ty×Bool))(x:Args ps):List CV:=exF false ps x
def axO:Nat->List CV->List (Nat×AV)
 |_,[]=>[]|i,v::l=>(i,.v v)::axO (i+1) l
def aF9 (st:St):ResultVar->Option CV
 |.tmp t=>some (st.ec (.tmp t))|.cell a t=>match uu st (st.ac (.tmp a)) with
  |some (l,off) =>
   let q:=x7 (P.cellsOf t) (x8 off l)
   match Nat.beq q.length (P.cellsOf t) with
   |true=>match abG P t with
    |some true=>some (.agg q)|some false=>match q with
     |[x]=>some (.c x)|_=>none
    |none=>none
   |false=>none
  |none=>none
def RL (st:St):List ResultVar->Option (List CV)
 |[]=>some []|r::l=>match aF9 P st r with
  |some c=>match RL st l with
   |some cs=>some (c::cs)|none=>none
  |none=>none
def fin (a:Func)(rs:List (Ty×Bool))(m:Nat):Ex->St->Option (Args rs):=fun e st =>
 match e with
 |.exit _=>none|_=>match RL P st a.results.toList with
  |some l=>match gM st m [] (aV l)&&(match m with|2=>x9 st rs l|_=>true) with
   |true=>Cb st rs l|false=>none
  |none=>none
def eW (a : Func) : Code := match a.body with | some c => c | none => .refuse ""
def as8 (H:Nat->Option Hint):List Nat:=match H 999999 with|some h=>h.live|none=>[]
def aJ3 (H:Nat->Option Hint)(a:Func)(ps rs:List (Ty×Bool))(m:Nat)(x:Args ps):Option (Args rs) :=
 ck (Nat.ble ps.length a.ntmps&&eE ps&&eE rs&&Nat.ble m 2) (run P C F H (eW a) {nt:=a.ntmps,tm:=axO 0 (aK2 ps x),bx:=[],bl:=[],rob:=as8 H} (fin P a rs m))
def aJ4 (pm:PM)(a:Ty×Bool)(x:a.1.D):CV×List (Nat×Option fN)×List (Nat×List AC):=match pm with
 |.rd=>(match a.2 with|true=>.agg (ex false a.1 x)|false=>.c (match ex false a.1 x with|[c]=>c|_=>.none),[],[])
 |.own f=>((ex1 62500 f a x 0).1,(ex1 62500 f a x 0).2,[])|.box=>(.c (.ptr 4000000 0),[],[(4000000,ex false a.1 x)])|.cur=>(.c (.ptr 4000000 0),[],[(4000000,ex true a.1 x)])
def exP (pm:PM):Nat->(ps:List (Ty×Bool))->Args ps->List CV×(CV×List (Nat×Option fN)×List (Nat×List AC))
 |0,a::l,x=>((aJ4 pm a x.1).1::exF false l x.2,aJ4 pm a x.1)|i+1,a::l,x=>((match a.2 with|true=>.agg (ex false a.1 x.1)|false=>.c (match ex false a.1 x.1 with|[c]=>c|_=>.none))::(exP pm i l x.2).1,(exP pm i l x.2).2)
 |_,[],_=>([],(.c .none,[],[]))
def agz (nt:Nat)(pm:PM)(i:Nat)(ps:List (Ty×Bool))(x:Args ps):St :=
 {nt:=nt,tm:=axO 0 (exP pm i ps x).1,bx:=(exP pm i ps x).2.2.2,bl:=(exP pm i ps x).2.2.1,sp:=.v (exP pm i ps x).2.1}
def arD (st:St)(pm:PM)(rs a:List (Ty×Bool))(m:Nat)(l:List CV):Option (Args rs×Args a) :=
 match pm with
 |.rd=>match a with
  |[]=>match rdM m with
   |some f=>match l with
    |[.c (.ptr b 0)]=>match look st.bx b with
     |some c=>match gM st (match f with|true=>1|false=>0) [] c&&wQ c with
      |true=>match Cb st rs [.agg c]with|some r=>some (r,())|none=>none
      |false=>none
     |none=>none
    |_=>none
   |none=>none
  |_=>none
 |.box=>match st.sp,a with
  |.v (.c (.ptr b 0)),[q]=>match look st.bx b with
   |some c=>match wQ c&&gM st m [] (aV l)&&(match m with|2|3=>x9 st rs l|_=>true)&&Nat.ble m 3 with
    |true=>match Cb st rs l,imV st q (.agg c) with
     |some r,some y=>some (r,(y,()))|_,_=>none
    |false=>none
   |none=>none
  |_,_=>none
 |.cur=>match st.sp,a with
  |.v (.c (.ptr b 0)),[q]=>match look st.bx b with
   |some c=>match wQ c&&cj c&&gM st m [] (aV l)&&(match m with|2=>x9 st rs l|_=>true)&&Nat.ble m 2 with
    |true=>match Cb st rs l,imV st q (.agg c) with
     |some r,some y=>some (r,(y,()))|_,_=>none
    |false=>none
   |none=>none
  |_,_=>none
 |.own _=>match Nat.beq m 2 || Nat.beq m 3 with
  |true=>match a with
   |[]=>match gM st m [] (aV l)&&x9 st rs l with
    |true=>match Cb st rs l with|some r=>some (r,())|none=>none
    |false=>none
   |[q]=>match st.sp with
    |.v c=>match gM st m [] (aV (l++[c]))&&x9 st rs l&&x9 st [q] [c]with
     |true=>match Cb st rs l,Cb st [q] [c]with
      |some r,some y=>some (r,y)|_,_=>none
     |false=>none
    |_=>none
   |_=>none
  |false=>none
def aK3 (b:Func)(pm:PM)(rs a:List (Ty×Bool))(m:Nat):Ex->St->Option (Args rs×Args a):=fun e st =>
 match e with
 |.exit _=>none|_=>match RL P st b.results.toList with
  |some l=>arD st pm rs a m l|none=>none
def aCT (H:Nat->Option Hint)(a:Func)(ps:List (Ty×Bool))(i:Nat)(pm:PM)(rs b:List (Ty×Bool))(m:Nat)(x:Args ps):Option (Args rs×Args b) :=
 ck (Nat.ble ps.length a.ntmps&&Nat.blt i ps.length&&eE ps&&eE rs) (run P C F H (eW a) {(agz a.ntmps pm i ps x) with rob:=as8 H} (aK3 P a pm rs b m))
def aAL (f:Func)(a b q:Ty×Bool):Ex->St->Option (a.1.D×b.1.D×q.1.D):=fun e st =>
 match e with
 |.exit _=>none|_=>match RL P st f.results.toList with
  |some [d,c]=>match Cb st [b] [c]with
   |some n=>br (am9 b.1 n.1)
     (match arD st (.own true) [a,b] [] 2 [d,c]with|some r=>some (r.1.1,r.1.2.1,q.1.aC)|none=>none)
     (ck (aJJ a d) (match arD st (.own true) [b] [q] 2 [c]with|some r=>some (a.1.aC,r.1.1,r.2.1)|none=>none))
   |none=>none
  |_=>none
def arE (H:Nat->Option Hint)(c:Func)(ps:List (Ty×Bool))(i:Nat)(a b q:Ty×Bool)(x:Args ps):Option (a.1.D×b.1.D×q.1.D) :=
 ck (Nat.ble ps.length c.ntmps&&Nat.blt i ps.length&&eE ps&&eE [a,b]) (run P C F H (eW c) {(agz c.ntmps (.own true) i ps x) with rob:=as8 H} (aAL P c a b q))
end
end Go.Am
namespace Go.Am
inductive At where
 |l|r|b|t|e|i
def sub:List At->Code->Code
 |[],c=>c|.l::p,.seq a _=>sub p a|.r::p,.seq _ b=>sub p b|.b::p,.block _ b=>sub p b|.t::p,.cond _ a _=>sub p a|.e::p,.cond _ _ a=>sub p a|.i::p,.loop a=>sub p a|_,_=>.skip
section
variable (P:Program) (C:FuncId->Option Any) (F:rH) {U:Type} (H:Nat->Option Hint)
def Vy:List At->Code->(Ex->St->Option U)->(Ex->St->Option U)
 |[],_,k=>k|.l::p,.seq a b,k=>Vy p a fun e st=>match e with
  |.norm=>run P C F H b st k|e=>k e st
 |.r::p,.seq _ b,k=>Vy p b k|.b::p,.block id b,k=>Vy p b fun e st=>match e with
  |.exit c=>match Nat.beq c id with|true=>k .norm st|false=>k (.exit c) st
  |e=>k e st
 |.t::p,.cond _ a _,k=>Vy p a k|.e::p,.cond _ _ a,k=>Vy p a k|_,_,k=>k
def lp (b:Code)(k:Ex->St->Option U)(n:Nat)(st:St):Option U :=
 aIk (fun st k=>run P C F H b st k) (H (rK b)) k n st
def itk (b:Code)(k:Ex->St->Option U)(n:Nat):Ex->St->Option U:=fun e dd=>match e with
 |.norm=>lp P C F H b k n (au6 (H (rK b)) dd)|.exit a=>k (.exit a) (anf (H (rK b)) (.exit a) dd)|.ret=>k .ret (anf (H (rK b)) .ret dd)
end
end Go.Am
