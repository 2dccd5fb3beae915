/- Lemmas for the claim. No condition. -/
import Derived.WalkKit
import Derived.KernelRfl
import Derived.Deep.Quiet
import Derived.OrdersHeld
import Derived.Deep.RegionHeld3
set_option linter.all false
namespace Go.Am
abbrev aJ:= @Bool.and_eq_true
abbrev aT:= @List.length_append
abbrev aQ:= @decide_eq_false
abbrev aM:= @decide_eq_true
abbrev bg:= @List.length_cons
abbrev cj:= @beq_eq_false_iff_ne
abbrev ah:= @if_neg
abbrev bB:= @List.length_nil
abbrev bQ:= @List.length_take
abbrev ak:= @if_pos
abbrev aL:= @Bool.not_true
abbrev bz:= @List.length_drop
abbrev aX:= @Nat.zero_le
abbrev cD:= @decide_eq_true_eq
abbrev ew:= @List.length_singleton
abbrev di:= @List.getElem_mem
abbrev bC:= @beq_iff_eq
abbrev cN:= @Nat.le_trans
abbrev cp:= @Nat.le_refl
abbrev mj:= @Option.isSome_iff_exists
abbrev oY:= @List.getElem?_eq_getElem
abbrev eX:= @Bool.not_false
abbrev fQ:= @Option.some.inj
abbrev iJ:= @List.all_eq_true
abbrev jZ:= @List.append_assoc
abbrev ie:= @List.append_nil
abbrev xV:= @List.getElem?_eq_some_iff
abbrev AS:= @Array.getElem?_eq_some_iff
abbrev ml:= @List.mem_singleton
abbrev mm:= @Int.toNat_natCast
abbrev gS:= @List.mem_cons
abbrev tI:= @List.mem_cons_of_mem
abbrev jC:= @List.mem_range
abbrev lX:= @List.mem_append
abbrev nN:= @List.take_length
abbrev ji:= @Bool.true_and
abbrev mn:= @Bool.or_eq_true
abbrev xW:= @Array.toArray_toList
abbrev OB:= @Array.getD_eq_getD_getElem?
abbrev uf:= @of_decide_eq_true
abbrev F4:= @Nat.mul_le_mul_right
abbrev ug:= @List.length_map
abbrev DZ:= @Nat.lt_of_lt_of_le
abbrev YK:= @List.eq_nil_of_length_eq_zero
abbrev Un:= @List.getD_eq_getElem?_getD
abbrev uh:= @List.map_cons
abbrev YL:= @List.mem_of_find?_eq_some
abbrev YM:= @List.drop_eq_getElem_cons
abbrev I5:= @Bool.eq_false_iff
abbrev F5:= @List.cons_append
abbrev gT:= @if_false
abbrev Lr:= @List.take_add_one
abbrev xX:= @List.cons.inj
abbrev OC:= @List.getElem?_take
abbrev F6:= @List.nil_append
abbrev OD:= @List.mem_cons_self
abbrev Sa:= @bne_eq_false_iff_eq
abbrev xf:= @Nat.zero_add
abbrev Ls:= @List.length_set
abbrev Uo:= @Nat.pos_of_ne_zero
abbrev ig:= @if_true
abbrev al0:= @Int.tmod_eq_emod_of_nonneg
abbrev I6:= @Bool.false_or
abbrev Sb:= @Nat.not_lt_zero
abbrev ahR:= @Bool.or_eq_false_iff
abbrev ar1:= @Int.tdiv_eq_ediv_of_nonneg
abbrev Lt:= @List.mem_map
abbrev YN:= @List.drop_length
abbrev D0:= @bne_iff_ne
abbrev ahS:= @List.getElem_of_mem
abbrev aci:= @List.length_range
abbrev ahT:= @List.getElem?_drop
abbrev Lu:= @Nat.add_mul
abbrev acj:= @Array.toList_map
abbrev al1:= @List.mem_of_mem_take
abbrev ack:= @beq_self_eq_true
abbrev Up:= @Nat.add_assoc
abbrev YO:= @Bool.false_and
abbrev Sc:= @Int.pow_succ
abbrev aww:= @Classical.byContradiction
abbrev al2:= @Int.emod_lt_of_pos
abbrev Sd:= @Int.le_refl
abbrev AT:= @congrArg
abbrev aBF:= @Array.getElem?_setIfInBounds
abbrev ahU:= @List.find?_some
abbrev ahV:= @Nat.min_eq_left
abbrev ar2:= @Int.toNat_of_nonneg
abbrev awx:= @List.take_of_length_le
abbrev ar3:= @Bool.false_eq_true
abbrev ar4:= @Nat.eq_zero_or_pos
abbrev ahW:= @List.drop_zero
abbrev ar5:= @of_decide_eq_false
abbrev ahX:= @Bool.and_false
abbrev F7:= @BEq.comm
abbrev awy:= @List.take_append_drop
abbrev awz:= @List.length_filter_le
abbrev al3:= @Int.emod_nonneg
abbrev acm:= @Nat.add_zero
abbrev acn:= @Nat.lt_or_ge
abbrev ar6:= @List.all_eq_false
abbrev afl:= @Bool.not_eq_true'
abbrev Uq:= @Nat.lt_irrefl
abbrev Ur:= @List.sum_cons
abbrev atx:= @Nat.le_mul_of_pos_right
abbrev aty:= @decide_eq_false_iff_not
abbrev QX:= @Nat.one_mul
abbrev al4:= @List.find?_eq_none
abbrev al5:= @Option.toList_some
abbrev atz:= @List.drop_eq_nil_of_le
abbrev afm:= @List.map_append
abbrev Bk:= @Prod.ext
abbrev Bl:= @Eq.trans
abbrev al6:= @bne_self_eq_false
abbrev atA:= @List.getElem?_append
abbrev atB:= @List.mem_iff_getElem
abbrev atC:= @List.mem_of_getElem?
abbrev al7:= @Option.bind_some
abbrev aaB:= @Nat.sub_zero
abbrev azp:= @Array.getElem?_eq_getElem
abbrev azq:= @List.getElem_append_left
abbrev atD:= @Array.any_eq_true'
abbrev azr:= @List.getElem?_cons_succ
abbrev azs:= @List.getElem_cons_zero
abbrev afn:= @Nat.succ_pos
abbrev azt:= @Nat.div_lt_iff_lt_mul
abbrev azu:= @List.set_getElem_self
abbrev aaC:= @Nat.mod_lt
abbrev atE:= @Nat.mod_eq_of_lt
abbrev atF:= @List.countP_cons
abbrev azv:= @List.mem_of_mem_drop
abbrev atG:= @List.take_left'
abbrev al8:= @Nat.zero_mul
abbrev al9:= @Bool.true_or
inductive Ty where
 |int (k:IntKind)|bool|str|unit
 |pair (a b:Ty)
 |sl (e:TypeId) (t:Ty)
@[reducible] def Ty.D:Ty->Type
 |.int _=>Int
 |.bool=>Bool
 |.str=>ByteArray
 |.unit=>Unit
 |.pair a b=>a.D×b.D
 |.sl _ t=>List t.D
def Ty.aF:(t:Ty)->t.D
 |.int _=>(0:Int)
 |.bool=>false
 |.str=>ByteArray.empty
 |.unit=>()
 |.pair a b=>(a.aF,b.aF)
 |.sl _ _=>[]
def Ty.n:Ty->Nat
 |.int _|.bool|.str|.sl _ _=>1
 |.unit=>0
 |.pair a b=>a.n+b.n
def azw:IntKind->IntKind->Bool
 |.i8,.i8|.i16,.i16|.i32,.i32|.i64,.i64|.u8,.u8|.u16,.u16|.u32,.u32|.u64,.u64=>true
 |_,_=>false
theorem aco {a b:IntKind}(h:azw a b=true):a=b:=by cases a<;>cases b<;>first|rfl|cases h
def Ty.beq:Ty->Ty->Bool
 |.int k,.int l=>azw k l
 |.bool,.bool|.str,.str|.unit,.unit=>true
 |.pair a b,.pair c d=>a.beq c&&b.beq d
 |.sl e t,.sl f u=>Nat.beq e f&&t.beq u
 |_,_=>false
theorem Ty.beq_eq:∀{a b:Ty},a.beq b=true->a=b
 |.int k,.int l,h=>by rw[aco (show azw k l=true from h)]
 |.bool,.bool,_|.str,.str,_|.unit,.unit,_=>rfl
 |.pair a b,.pair c d,h=>by have h':(a.beq c&&b.beq d)=true:=h;rw[Bool.and_eq_true]at h';rw[Ty.beq_eq h'.1,Ty.beq_eq h'.2]
 |.sl e t,.sl f u,h=>by have h':(Nat.beq e f&&t.beq u)=true:=h;rw[Bool.and_eq_true]at h';rw[Nat.eq_of_beq_eq_true h'.1,Ty.beq_eq h'.2]
def awA:List Ty->Ty
 |[]=>.unit
 |[a]=>a
 |a::b::l=>.pair a (awA (b::l))
def atH (P:Program):Nat->TypeId->Option Ty
 |0,_=>none
 |n+1,t =>
  match P.underlying t with
  |some (.int k)=>some (.int k)
  |some .bool=>some .bool
  |some .string=>some .str
  |some (.slice e)=>(atH P n e).map (.sl e)
  |some (.struct fs)=>(fs.toList.mapM fun f=>atH P n f.type).map awA
  |some (.array m e)=>(atH P n e).map fun t=>awA (List.replicate m t)
  |_=>none
inductive AC where
 |none
 |int (k:IntKind) (n:Int)
 |bool (b:Bool)
 |str (s:ByteArray)
 |nil
 |ro (f:Bool) (e:TypeId) (t:Ty) (xs:List t.D)
 |own (id:Nat) (len:Option Int)
 |ptr (b:Nat) (off:Nat)
 |Ln (id:Nat) (i:Int) (off:Nat)
 |T5 (f:Bool) (t:Ty) (x:t.D) (off:Nat)
 |fnp (g:Nat) (b:Nat)
 |any
inductive CV where
 |c (x:AC)
 |agg (l:List AC)
inductive AV where
 |v (x:CV)
 |Ul (l:List CV)
def CV.cells:CV->List AC
 |.c x=>[x]
 |.agg l=>l
structure gp where
 e:TypeId
 t:Ty
 xs:List t.D
 f:Bool
 w:Bool
structure St where
 nt:Nat
 tm:List (Nat×AV)
 bx:List (Nat×List AC)
 bl:List (Nat×Option gp)
 sp:AV:=.v (.c .none)
 rob:List Nat:=[]
def look {α:Type}:List (Nat×α)->Nat->Option α
 |[],_=>none
 |(k,v)::l,n=>match Nat.beq k n with|true=>some v|false=>look l n
def St.get (st:St)(t:Nat):AV:=match look st.tm t with|some v=>v|none=>.v (.c .none)
def St.put (st:St)(d:Nat)(v:AV):St:={st with tm:=(d,v)::st.tm}
def St.rS (st:St)(id:Nat):Option gp:=match look st.bl id with|some b=>b|none=>none
def ck {α:Type}(c:Bool)(k:Option α):Option α:=match c with|true=>k|false=>none
def br {α:Type}(c:Bool)(x y:α):α:=match c with|true=>x|false=>y
def Us:Value->AC
 |.int k n=>.int k n
 |.bool b=>.bool b
 |.string s=>.str s
 |.slice none 0 0=>.nil
 |_=>.none
def Lv:Value->CV
 |.agg cs=>.agg (cs.toList.map Us)
 |v=>.c (Us v)
def St.ev (st:St):Operand->AV
 |.tmp t=>st.get t
 |.const v=>.v (Lv v)
 |_=>.v (.c .none)
def St.eP (st:St)(o:Operand):CV:=match st.ev o with|.v x=>x|.Ul _=>.c .none
def St.ac (st:St)(o:Operand):AC:=match st.eP o with|.c x=>x|.agg _=>.none
def CV.kn:CV->Bool
 |.c .none=>false
 |_=>true
def ex (f:Bool):(t:Ty)->t.D->List AC
 |.int k,x=>[.int k x]
 |.bool,x=>[.bool x]
 |.str,x=>[.str x]
 |.unit,_=>[]
 |.pair a b,x=>ex f a x.1++ex f b x.2
 |.sl e t,x=>[.ro f e t x]
def YP {t u:Ty}(h:t=u)(x:List t.D):List u.D:=h▸x
def I7 {α:Type}(xs:List α):Option Int->List α
 |none=>xs
 |some n=>xs.take n.toNat
def de (st:St)(t:Ty):AC->Option (List t.D)
 |.nil=>some []
 |.ro _ _ u xs=>if h:u.beq t=true then some (YP (Ty.beq_eq h) xs) else none
 |.own id len=>match st.rS id with
  |some b=>if h:b.t.beq t=true then some (I7 (YP (Ty.beq_eq h) b.xs) len) else none
  |none=>none
 |_=>none
def im (st:St):(t:Ty)->List AC->Option (t.D×List AC)
 |.int k,.int l n::r=>if azw l k then some (n,r) else none
 |.bool,.bool b::r=>some (b,r)
 |.str,.str s::r=>some (s,r)
 |.unit,r=>some ((),r)
 |.pair a b,r=>match im st a r with
  |some (x,r1)=>match im st b r1 with
   |some (y,r2)=>some ((x,y),r2)
   |none=>none
  |none=>none
 |.sl _ t,c::r=>match de st t c with
  |some xs=>some (xs,r)
  |none=>none
 |_,_=>none
@[reducible] def Args:List (Ty×Bool)->Type
 |[]=>Unit
 |a::l=>a.1.D×Args l
structure Con where
 ps:List (Ty×Bool)
 rs:List (Ty×Bool)
 m:Nat
 g:Args ps->Option (Args rs)
inductive PM where
 |rd|own (f:Bool)|box|cur
structure OE where
 ps:List (Ty×Bool)
 i:Nat
 pm:PM
 rs:List (Ty×Bool)
 m:Nat
 qs:List (Ty×Bool)
 g:Args ps->Option (Args rs×Args qs)
structure Idx where
 g:Nat
 a:Ty×Bool
 q:Ty
 p:a.1.D->q.D->Bool
structure Sel where
 ps:List (Ty×Bool)
 i:Nat
 a:Ty×Bool
 b:Ty×Bool
 q:Ty×Bool
 g:Args ps->Option (a.1.D×b.1.D×q.1.D)
def ama:(t:Ty)->t.D->Bool
 |.bool,x=>x
 |.int _,x=>x==0
 |_,_=>false
def aLi:(t:Ty)->t.D->t.D
 |.bool,_=>true
 |.int _,_=>(0:Int)
 |_,x=>x
def aLj:(t:Ty)->t.D->t.D
 |.bool,_=>false
 |_,x=>x
inductive Any where
 |one (c:Con)|two (c:OE)|sel (c:Sel)|idx (i:Idx)
 |ins (e:TypeId) (u:Ty)
 |del (e:TypeId) (u:Ty)
def qO {α:Type}(p:α->Bool):List α->Int->Int
 |[],_=>-1
 |x::l,i=>match p x with|true=>i|false=>qO p l (i+1)
def flat:Ty->Bool
 |.int _|.bool|.str|.unit=>true
 |.pair a b=>flat a&&flat b
 |.sl _ _=>false
def exR (id:Nat)(f:Bool):(t:Ty)->t.D->Nat->List AC×List (Nat×Option gp)
 |.int k,x,_=>([.int k x],[])
 |.bool,x,_=>([.bool x],[])
 |.str,x,_=>([.str x],[])
 |.unit,_,_=>([],[])
 |.pair a b,x,j=>((exR id f a x.1 j).1++(exR id f b x.2 (j+a.n)).1,(exR id f a x.1 j).2++(exR id f b x.2 (j+a.n)).2)
 |.sl e t,x,j=>([.own (id*64+j) none],[(id*64+j,some ⟨e,t,x,f || flat t,true⟩)])
structure rT where
 n:Nat
 mem:Int
 str:Int
@[reducible] def rT.QY (n:Nat):rT:=⟨n,140737488355328,9223372036854775807⟩
def aI3 {α:Type}(op:BinOp)(kd:IntKind)(a b:Int)(k:AC->Option α):Option α :=
 match op with
 |.add=>k (.int kd (kd.wrap (a+b)))
 |.sub=>k (.int kd (kd.wrap (a-b)))
 |.mul=>k (.int kd (kd.wrap (a*b)))
 |.quo=>ck (!(b==0)) (k (.int kd (kd.wrap (a.tdiv b))))
 |.rem=>ck (!(b==0)) (k (.int kd (a.tmod b)))
 |.and=>k (.int kd (kd.wrap (BitVec.ofInt kd.bits a &&& BitVec.ofInt kd.bits b).toNat))
 |.or=>k (.int kd (kd.wrap (BitVec.ofInt kd.bits a ||| BitVec.ofInt kd.bits b).toNat))
 |.xor=>k (.int kd (kd.wrap (BitVec.ofInt kd.bits a ^^^ BitVec.ofInt kd.bits b).toNat))
 |.eql=>k (.bool (a==b))
 |.neq=>k (.bool (a != b))
 |.lss=>k (.bool (decide (a<b)))
 |.leq=>k (.bool (decide (a<=b)))
 |.gtr=>k (.bool (decide (a>b)))
 |.geq=>k (.bool (decide (a>=b)))
 |_=>none
def aBG {α:Type}(op:BinOp)(kd:IntKind)(a b:Int)(k:AC->Option α):Option α :=
 match op with
 |.shl=>ck (decide (0<=b)) (k (.int kd (kd.wrap (a*2 ^ (min b.toNat kd.bits)))))
 |.shr=>ck (decide (0<=b)) (k (.int kd (a.fdiv (2 ^ (min b.toNat kd.bits)))))
 |_=>none
def aI4 {α:Type}(F:rT)(op:BinOp)(a b:ByteArray)(k:AC->Option α):Option α :=
 match op with
 |.add=>ck (decide (((a.size+b.size:Nat):Int)<=F.str)) (k (.str (a++b)))
 |.eql=>k (.bool (a.toList==b.toList))
 |.neq=>k (.bool (!(a.toList==b.toList)))
 |.lss=>k (.bool (Op.bytesLess a.toList b.toList))
 |.leq=>k (.bool (Op.bytesLess a.toList b.toList || a.toList==b.toList))
 |.gtr=>k (.bool (!(Op.bytesLess a.toList b.toList || a.toList==b.toList)))
 |.geq=>k (.bool (!(Op.bytesLess a.toList b.toList)))
 |_=>none
def aHH {α:Type}(P:Program)(F:rT)(op:BinOp)(xt:TypeId)(x y:AC)(k:AC->Option α):Option α :=
 match x,y with
 |.int kd a,.int ke b=>match op with
  |.shl|.shr=>aBG op kd a b k
  |_=>ck (azw kd ke) (aI3 op kd a b k)
 |.str a,.str b=>aI4 F op a b k
 |.bool a,.bool b=>match P.underlying xt,op with
  |some .bool,.eql=>k (.bool (a==b))
  |some .bool,.neq=>k (.bool (!(a==b)))
  |_,_=>none
 |_,_=>none
def eqFields (P:Program):List Field->Nat->List AC->List AC->Option Bool
 |[],_,[],[]=>some true
 | f :: fs, i, a :: r, b :: s => match Nat.beq f.offset i && !(f.name == "_") with
  |true=>match eqFields P fs (i+1) r s with
   |some c=>match P.underlying f.type,a,b with
    |some (.int _),.int k x,.int l y=>match azw k l with|true=>some ((x==y)&&c)|false=>none
    |some .string,.str x,.str y=>some ((x.toList==y.toList)&&c)
    |some .bool,.bool x,.bool y=>some ((x==y)&&c)
    |_,_,_=>none
   |none=>none
  |false=>none
 |_,_,_,_=>none
def amb (P:Program)(t:TypeId)(l m:List AC):Option Bool :=
 match P.underlying t with
 |some (.struct fs)=>match P.stoodInHeld t || P.eqGuardType P.depth t with
  |false=>eqFields P fs.toList 0 l m
  |true=>none
 |_=>none
def amc (st:St):AC->Option Int
 |.nil=>some 0
 |.ro _ _ _ xs=>some (xs.length:Int)
 |.own _ (some n)=>some n
 |.own id none=>match st.rS id with|some b=>some (b.xs.length:Int)|none=>none
 |.str s=>some (s.size:Int)
 |_=>none
def awB (P:Program)(t:TypeId)(f:Nat):Option Nat :=
 match P.underlying t with
 |some (.struct fs)=>match fs[f]? with
  |some x=>match P.cellsOf x.type with
   |0=>none
   |_=>some x.offset
  |none=>none
 |_=>none
def atI (P:Program)(t:TypeId)(f:Nat):Option (TypeId×Nat) :=
 match P.underlying t with
 |some (.struct fs)=>match fs[f]? with
  |some x=>some (x.type,x.offset)
  |none=>none
 |_=>none
def aaD (P:Program)(t:TypeId):Option Bool :=
 match P.underlying t with
 |some (.struct _)|some (.array _ _)=>some true
 |some _=>some false
 |none=>none
def D7 (P:Program)(t:TypeId):Option TypeId :=
 match P.underlying t with
 |some (.slice e)=>some e
 |_=>none
def NV {α:Type}:List α->Nat->α->List α
 |[],_,_=>[]
 |_::l,0,v=>v::l
 |x::l,n+1,v=>x::NV l n v
def nX {α:Type}:List α->Nat->Option α
 |[],_=>none
 |x::_,0=>some x
 |_::l,n+1=>nX l n
def xY {α:Type}:Nat->List α->List α
 |0,_=>[]
 |_+1,[]=>[]
 |n+1,x::l=>x::xY n l
def xZ {α:Type}:Nat->List α->List α
 |0,l=>l
 |_+1,[]=>[]
 |n+1,_::l=>xZ n l
def G8 {α:Type}:List α->Nat->List α->List α
 |l,_,[]=>l
 |l,n,v::vs=>G8 (NV l n v) (n+1) vs
def AP (st:St):(t:Ty)->t.D->Nat×List AC->Option (t.D×(Nat×List AC))
 |.unit,x,s=>some (x,s)
 |.pair a b,x,s=>match AP st a x.1 s with
  |some (y,s1)=>match AP st b x.2 s1 with
   |some (z,s2)=>some ((y,z),s2)
   |none=>none
  |none=>none
 |.int k,x,(0,c::r)=>match im st (.int k) [c]with|some (n,_)=>some (n,(0,r))|none=>none
 |.bool,x,(0,c::r)=>match im st .bool [c]with|some (n,_)=>some (n,(0,r))|none=>none
 |.str,x,(0,c::r)=>match im st .str [c]with|some (n,_)=>some (n,(0,r))|none=>none
 |.sl e t,x,(0,c::r)=>match im st (.sl e t) [c]with|some (n,_)=>some (n,(0,r))|none=>none
 |.int _,x,(0,[])=>some (x,(0,[]))
 |.bool,x,(0,[])=>some (x,(0,[]))
 |.str,x,(0,[])=>some (x,(0,[]))
 |.sl _ _,x,(0,[])=>some (x,(0,[]))
 |.int _,x,(o+1,l)=>some (x,(o,l))
 |.bool,x,(o+1,l)=>some (x,(o,l))
 |.str,x,(o+1,l)=>some (x,(o,l))
 |.sl _ _,x,(o+1,l)=>some (x,(o,l))
def St.eo (st:St):AC->St
 |.own id _=>match st.rS id with
  |some b=>{st with bl:=(id,some {b with w:=false})::st.bl}
  |none=>st
 |_=>st
def St.freeze (st:St)(l:List AC):St:=l.foldl St.eo st
def ahY:List AC->Bool
 |[]=>true
 |.none::_=>false
 |_::l=>ahY l
def azy (id:Nat):List AC->Bool
 |[]=>true
 |.own i _::l=> !Nat.beq i id&&azy id l
 |_::l=>azy id l
def cV:List AC->Bool
 |[]=>true
 |.ro f _ _ _::l=>f&&cV l
 |_::l=>cV l
def pY (st:St):List AC->Bool
 |[]=>true
 |.own id _::l=>(match st.rS id with|some b=>b.f|none=>false)&&pY st l
 |_::l=>pY st l
def lL (s:ByteArray)(i:Int):Int:=((s.data.toList.getD i.toNat 0).toNat:Int)
def bytesOf (s:ByteArray):List Int:=s.data.toList.map fun b=>(b.toNat:Int)
def strOf (xs:List Int):ByteArray:=⟨(xs.map fun n=>UInt8.ofNat n.toNat).toArray⟩
def St.pk {α:Type}(st:St)(d:Option Tmp)(v:AV)(k:St->Option α):Option α :=
 match d with
 |none=>k st
 |some d=>ck (Nat.blt d st.nt) (k (st.put d v))
def St.lit (st:St)(o:Operand)(b:Bool):St :=
 match o with
 |.tmp t=>st.put t (.v (.c (.bool b)))
 |_=>st
section
variable (P:Program) (C:FuncId->Option Any) (F:rT) {α:Type}
def tR (t:TypeId):Option CV :=
 match P.info? t with
 |some i=>match i.zero with
  |some v=>some (Lv v)
  |none=>none
 |none=>none
def St.row (st:St)(d:Tmp)(b:gp)(k:St->Option α):Option α :=
 match look st.bl (d*64) with
 |some _=>none
 |none=>ck (Nat.blt d st.nt) (k {(st.put d (.v (.c (.own (d*64) none)))) with bl:=(d*64,some b)::st.bl})
def Yd:List Nat->Nat->Bool
 |[],_=>false
 |x::l,n=>match Nat.beq x n with|true=>true|false=>Yd l n
def jk (st:St)(t:Ty):Nat->List (Nat×Operand)->Option (List t.D)
 |_,[]=>some []
 |i,(j,o)::l=>match Nat.beq i j with
  |true=>match im st t (st.eP o).cells with
   |some (x,[])=>match jk st t (i+1) l with
    |some xs=>some (x::xs)
    |none=>none
   |_=>none
  |false=>none
def cY (st:St):List (Nat×Operand)->List AC
 |[]=>[]
 |(_,o)::l=>(st.eP o).cells++cY st l
def amd (t:TypeId):Option (List (Nat×Nat)) :=
 match P.underlying t with
 |some (.struct fs)=>fs.toList.mapM fun f=>(P.info? f.type).map fun i=>(f.offset,i.size)
 |_=>none
def Bm (st:St)(aaE:List (Nat×Nat)):List AC->List (Nat×Operand)->Option (List AC)
 |acc,[]=>some acc
 |acc,(f,o)::l=>match nX aaE f with
  |some (off,size)=>match (st.eP o).kn&&Nat.beq size (st.eP o).cells.length&&Nat.ble (off+(st.eP o).cells.length) acc.length with
   |true=>Bm st aaE (G8 acc off (st.eP o).cells) l
   |false=>none
  |none=>none
def uR (st:St):AC->Option (List AC×Nat)
 |.ptr b off=>match look st.bx b with|some l=>some (l,off)|none=>none
 |.Ln id i off=>match st.rS id with|some b=>some (ex b.f b.t (b.xs.getD i.toNat b.t.aF),off)|none=>none
 |.T5 f t x off=>some (ex f t x,off)
 |_=>none
def xg (o:Option Operand)(st:St)(d:Int):Option Int :=
 match o with
 |none=>some d
 |some x=>match st.ac x with|.int _ n=>some n|_=>none
def kP (st:St):List Operand->List AC
 |[]=>[]
 |o::l=>(st.eP o).cells++kP st l
def imV (st:St)(a:Ty×Bool)(c:CV):Option a.1.D :=
 match c,a.2 with
 |.agg l,true=>match im st a.1 l with
  |some (x,[])=>some x
  |_=>none
 |.c c,false=>match im st a.1 [c]with
  |some (x,[])=>some x
  |_=>none
 |_,_=>none
def im1 (st:St)(a:Ty×Bool)(o:Operand):Option a.1.D:=imV st a (st.eP o)
def NW (st:St):(ps:List (Ty×Bool))->List Operand->Option (Args ps)
 |[],[]=>some ()
 |a::l,o::os=>match im1 st a o with
  |some x=>match NW st l os with
   |some y=>some (x,y)
   |none=>none
  |none=>none
 |_,_=>none
def Bn (st:St):(ps:List (Ty×Bool))->List CV->Option (Args ps)
 |[],[]=>some ()
 |a::l,o::os=>match imV st a o with
  |some x=>match Bn st l os with
   |some y=>some (x,y)
   |none=>none
  |none=>none
 |_,_=>none
def aU:List CV->List AC
 |[]=>[]
 |c::l=>c.cells++aU l
def ex1 (id:Nat)(f:Bool)(a:Ty×Bool)(x:a.1.D)(j:Nat):CV×List (Nat×Option gp) :=
 (match a.2 with|true=>.agg (exR id f a.1 x j).1|false=>.c (match (exR id f a.1 x j).1 with|[c]=>c|_=>.none),(exR id f a.1 x j).2)
def l7 (id:Nat)(f:Bool):(rs:List (Ty×Bool))->Args rs->Nat->List CV×List (Nat×Option gp)
 |[],_,_=>([],[])
 |a::l,x,j=>((ex1 id f a x.1 j).1::(l7 id f l x.2 (j+a.1.n)).1,(ex1 id f a x.1 j).2++(l7 id f l x.2 (j+a.1.n)).2)
def gE:List (Nat×Option gp)->St->Bool
 |[],_=>true
 |(id,_)::l,st=>(match look st.bl id with|some _=>false|none=>true)&&gE l st
def fg:List (Ty×Bool)->Bool
 |[]=>true
 |a::l=>(a.2 || Nat.beq a.1.n 1)&&fg l
def I8:List CV->AV
 |[v]=>.v v
 |l=>.Ul l
def exF (f:Bool):(rs:List (Ty×Bool))->Args rs->List CV
 |[],_=>[]
 |a::l,x=>(match a.2 with|true=>.agg (ex f a.1 x.1)|false=>.c (match ex f a.1 x.1 with|[c]=>c|_=>.none))::exF f l x.2
def Xp (con:Con)(st:St)(d:Option Tmp)(args:List Operand)(k:St->Option α):Option α :=
 match NW st con.ps args with
 |some x=>(con.g x).bind fun r =>
  match d with
  |none=>none
  |some d=>match con.m with
   |0=>ck (Nat.blt d st.nt&&fg con.rs) (k ((st.freeze (kP st args)).put d (I8 (exF (pY st (kP st args)&&cV (kP st args)) con.rs r))))
   |1=>ck (Nat.blt d st.nt&&fg con.rs) (k (st.put d (I8 (exF true con.rs r))))
   |_ =>
    let q:=l7 d true con.rs r 0
    ck (gE q.2 st&&Nat.blt d st.nt&&fg con.rs) (k {(st.put d (I8 q.1)) with bl:=q.2++st.bl})
 |_=>none
def ij (st:St)(m:Nat):List Nat->List AC->Bool
 |_,[]=>true
 |seen,.own id len::l=>match st.rS id with
  |some b=>(b.f || Nat.beq m 0 || Nat.beq m 3)&&(match m with|2|3=>b.w&& !Yd seen id&&(match len with|none=>true|some _=>false)|_=>true)&&ij st m (id::seen) l
  |none=>false
 |seen,.ro f _ _ _::l=>(match m with|2|3=>false|1=>f|_=>true)&&ij st m seen l
 |seen,_::l=>ij st m seen l
def xh:List AC->Bool
 |[]=>true
 |.own _ _::_=>false
 |_::l=>xh l
def Fc (st:St):Ty->List AC->Option (List AC)
 |.sl e _,.own id _::r=>match st.rS id with
  |some b=>match Nat.beq b.e e with|true=>some r|false=>none
  |none=>none
 |.sl _ t,.nil::r=>match Nat.beq t.n 0 with|true=>none|false=>some r
 |.int _,_::r|.bool,_::r|.str,_::r=>some r
 |.unit,r=>some r
 |.pair a b,r=>match Fc st a r with|some r=>Fc st b r|none=>none
 |_,_=>none
def x4 (st:St):List (Ty×Bool)->List CV->Bool
 |[],[]=>true
 |a::l,o::os=>(match Fc st a.1 o.cells with|some []=>true|_=>false)&&x4 st l os
 |_,_=>false
def pmM:Bool->Nat
 |true=>2
 |false=>3
def im2 (st:St)(pm:PM)(a:Ty×Bool)(o:Operand):Option a.1.D:=match pm with
 |.rd=>im1 st a o
 |.own f=>match ij st (pmM f) [] (st.eP o).cells&&x4 st [a] [st.eP o]with|true=>im1 st a o|false=>none
 |.box=>match st.eP o with
  |.c (.ptr b 0)=>match look st.bx b with|some l=>imV st a (.agg l)|none=>none
  |_=>none
 |.cur=>match st.eP o with
  |.c (.ptr b 0)=>match look st.bx b with|some l=>(match xh l with|true=>imV st a (.agg l)|false=>none)|none=>none
  |_=>none
def kr (st:St)(pm:PM):Nat->(ps:List (Ty×Bool))->List Operand->Option (Args ps)
 |0,a::l,o::os=>match im2 st pm a o with
  |some x=>match NW st l os with|some y=>some (x,y)|none=>none
  |none=>none
 |i+1,a::l,o::os=>match im1 st a o with
  |some x=>match kr st pm i l os with|some y=>some (x,y)|none=>none
  |none=>none
 |_,_,_=>none
def ik (st:St)(pm:PM):Nat->List Operand->List AC
 |0,o::os=>(match pm with
  |.rd=>(st.eP o).cells
  |.own _|.cur=>[]
  |.box=>match st.eP o with|.c (.ptr b _)=>(match look st.bx b with|some l=>l|none=>[])|_=>[])++kP st os
 |i+1,o::os=>(st.eP o).cells++ik st pm i os
 |_,[]=>[]
def aqu (st:St)(i:Nat)(args:List Operand):CV:=match nX args i with|some o=>st.eP o|none=>.c .none
def St.gone (st:St):List AC->St
 |[]=>st
 |.own id _::l=>{st.gone l with bl:=(id,none)::(st.gone l).bl}
 |_::l=>st.gone l
def tS (f:Bool):(t:Ty)->t.D->List AC->List (Nat×Option gp)×List AC
 |.pair a b,x,l=>((tS f a x.1 l).1++(tS f b x.2 (tS f a x.1 l).2).1,(tS f b x.2 (tS f a x.1 l).2).2)
 |.unit,_,l=>([],l)
 |.sl e t,x,.own id _::l=>([(id,some ⟨e,t,x,f,true⟩)],l)
 |_,_,_::l=>([],l)
 |_,_,[]=>([],[])
def m2 (m:Nat):Bool:=Nat.beq m 2
def rdM:Nat->Option Bool
 |4=>some true
 |5=>some false
 |_=>none
def atJ (f:Bool)(rs:List (Ty×Bool))(st:St)(d:Tmp)(r:Args rs)(k:St->Option α):Option α :=
 match rs,r with
 |[a],r=>match look st.bx d with
  |none=>ck (Nat.blt d st.nt&&a.2) (k {(st.put d (.v (.c (.ptr d 0)))) with bx:=(d,ex f a.1 r.1)::st.bx})
  |some _=>none
 |_,_=>none
def acp (rs qs:List (Ty×Bool))(m:Nat)(st:St)(c:CV)(d:Tmp)(r:Args rs×Args qs)(k:St->Option α):Option α :=
 let q:=l7 d (m2 m) rs r.1 0
 ck ((Nat.beq m 2 || Nat.beq m 3)&&gE q.2 st&&Nat.blt d st.nt&&fg rs) (match qs,r with
  |[],_=>k {(st.put d (I8 q.1)) with bl:=q.2++(st.gone c.cells).bl}
  |[p],r=>k {(st.put d (I8 q.1)) with bl:=q.2++((tS (m2 m) p.1 r.2.1 c.cells).1++st.bl)}
  |_,_=>none)
def alB (rs qs:List (Ty×Bool))(m:Nat)(st:St)(c:CV)(d:Tmp)(r:Args rs×Args qs)(k:St->Option α):Option α :=
 match qs,r,c with
 |[p],r,.c (.ptr b _)=>match m with
  |0=>ck (Nat.blt d st.nt&&fg rs) (k {(st.put d (I8 (exF false rs r.1))) with bx:=(b,ex false p.1 r.2.1)::st.bx})
  |1=>ck (Nat.blt d st.nt&&fg rs) (k {(st.put d (I8 (exF true rs r.1))) with bx:=(b,ex false p.1 r.2.1)::st.bx})
  |m =>
   let q:=l7 d (m2 m) rs r.1 0
   ck ((Nat.beq m 2 || Nat.beq m 3)&&gE q.2 st&&Nat.blt d st.nt&&fg rs) (k {(st.put d (I8 q.1)) with bl:=q.2++st.bl,bx:=(b,ex false p.1 r.2.1)::st.bx})
 |_,_,_=>none
def alC (rs qs:List (Ty×Bool))(m:Nat)(st:St)(c:CV)(d:Tmp)(r:Args rs×Args qs)(k:St->Option α):Option α :=
 match qs,r,c with
 |[p],r,.c (.ptr b _)=>match look st.bx b with
  |some l0=>match m with
   |0=>ck (Nat.blt d st.nt&&fg rs) (k {(st.put d (I8 (exF false rs r.1))) with bx:=(b,ex (cV l0) p.1 r.2.1)::st.bx})
   |1=>ck (Nat.blt d st.nt&&fg rs) (k {(st.put d (I8 (exF (cV l0) rs r.1))) with bx:=(b,ex (cV l0) p.1 r.2.1)::st.bx})
   |m =>
    let q:=l7 d (cV l0) rs r.1 0
    ck (Nat.beq m 2&&gE q.2 st&&Nat.blt d st.nt&&fg rs) (k {(st.put d (I8 q.1)) with bl:=q.2++st.bl,bx:=(b,ex (cV l0) p.1 r.2.1)::st.bx})
  |none=>none
 |_,_,_=>none
def aHI (st:St)(con:OE)(args:List Operand):List AC:=match con.pm with
 |.cur=>(match con.m with|1|2=>[]|_=>ik st .cur con.i args)
 |pm=>ik st pm con.i args
def acq (con:OE)(st:St)(d:Option Tmp)(args:List Operand)(k:St->Option α):Option α :=
 let ub:=st.freeze (aHI st con args)
 match kr ub con.pm con.i con.ps args with
 |some x=>(con.g x).bind fun r =>
  match d with
  |none=>none
  |some d=>match con.pm with
   |.rd=>match rdM con.m with
    |some f=>atJ f con.rs ub d r.1 k
    |none=>none
   |.own _=>acp con.rs con.qs con.m ub (aqu ub con.i args) d r k
   |.box=>alB con.rs con.qs con.m ub (aqu ub con.i args) d r k
   |.cur=>alC con.rs con.qs con.m ub (aqu ub con.i args) d r k
 |none=>none
def aE2 (a:Ty×Bool):CV:=match a.2 with|true=>.agg (List.replicate a.1.n .any)|false=>.c .none
def aI5 (a:Ty×Bool)(c:CV):Bool:=match a.2,c with
 |true,.agg l=>Nat.beq l.length a.1.n&&ahY l
 |true,.c _=>false
 |false,_=>true
def aE3 (a b q:Ty×Bool)(st:St)(c:CV)(d:Tmp)(n:b.1.D)(y:q.1.D)(k:St->Option α):Option α :=
 ck (Nat.blt d st.nt&&fg [b]&&gE (l7 d true [b] (n,()) 0).2 st) (k {(st.put d (.Ul (aE2 a::(l7 d true [b] (n,()) 0).1))) with bl:=(l7 d true [b] (n,()) 0).2++((tS true q.1 y c.cells).1++st.bl)})
def atK (con:Sel)(st:St)(d:Option Tmp)(args:List Operand)(k:St->Option α):Option α :=
 let ub:=st.freeze (ik st (.own true) con.i args)
 match kr ub (.own true) con.i con.ps args with
 |some x=>(con.g x).bind fun r =>
  match d with
  |none=>none
  |some d=>br (ama con.b.1 r.2.1) (acp [con.a,con.b] [] 2 ub (aqu ub con.i args) d ((r.1,(aLi con.b.1 r.2.1,())),()) k) (aE3 con.a con.b con.q ub (aqu ub con.i args) d (aLj con.b.1 r.2.1) r.2.2 k)
 |none=>none
def atL (i:Idx)(st:St)(d:Option Tmp)(args:List Operand)(k:St->Option α):Option α :=
 match args with
 |[s,f]=>match st.ac f with
  |.fnp g b=>match Nat.beq g i.g with
   |true=>match look st.bx b with
    |some l=>match im st i.q l with
     |some (y,[])=>match de st i.a.1 (st.ac s) with
      |some xs=>st.pk d (.v (.c (.int .i64 (qO (fun x=>i.p x y) xs 0)))) k
      |none=>none
     |_=>none
    |none=>none
   |false=>none
  |_=>none
 |_=>none
def aaF (op:Bool)(st:St):Int->List Operand->Option Int
 |a,[]=>some a
 |a,o::l=>match st.ac o with
  |.int _ b=>aaF op st (match op with|true=>if b>a then b else a|false=>if b<a then b else a) l
  |_=>none
def Ut (st:St)(e:TypeId)(u:Ty):AC->Option (List u.D×Bool×St)
 |.nil=>some ([],true,st)
 |.own id none=>match st.rS id with
  |some b=>match b.w&&Nat.beq b.e e with
   |true=>if h:b.t.beq u=true then some (YP (Ty.beq_eq h) b.xs,b.f,{st with bl:=(id,none)::st.bl}) else none
   |false=>none
  |none=>none
 |_=>none
def Xq (st:St)(u:Ty):AC->Option (List u.D×Bool)
 |.own id len=>match de st u (.own id len),st.rS id with
  |some ys,some b=>some (ys,b.f)
  |_,_=>none
 |.ro f e' t' ys=>match de st u (.ro f e' t' ys) with
  |some ys=>some (ys,f)
  |none=>none
 |.nil=>some ([],true)
 |_=>none
def azA (e:TypeId)(u:Ty)(st:St)(d:Option Tmp)(args:List Operand)(k:St->Option α):Option α :=
 match d,args with
 |some d,[s,i,v]=>match st.ac i,st.ac v with
  |.int .i64 n,.own id2 none=>match st.rS id2 with
   |some b=>match b.w&&Nat.beq b.e e with
    |true=>if h:b.t.beq u=true then
      match Ut st e u (st.ac s) with
      |some (xs,f,ub)=>match look ub.bl id2 with
       |some (some _)=>ck (!Nat.beq u.n 0&&decide (0<=n)&&decide (n<=(xs.length:Int))&&decide (1<=(b.xs.length:Int))&&decide (((xs.length+b.xs.length:Nat):Int)<=1073741824))
         (ub.row d ⟨e,u,xs.take n.toNat++YP (Ty.beq_eq h) b.xs++xs.drop n.toNat,f&&(b.f || flat u),true⟩ k)
       |_=>none
      |none=>none
     else none
    |false=>none
   |none=>none
  |_,_=>none
 |_,_=>none
def azB (e:TypeId)(u:Ty)(st:St)(d:Option Tmp)(args:List Operand)(k:St->Option α):Option α :=
 match d,args with
 |some d,[s,i,j]=>match st.ac i,st.ac j with
  |.int .i64 n,.int .i64 m=>match Ut st e u (st.ac s) with
   |some (xs,f,ub)=>ck (!Nat.beq u.n 0&&decide (0<=n)&&decide (n<=m)&&decide (m<=(xs.length:Int)))
     (ub.row d ⟨e,u,xs.take n.toNat++xs.drop m.toNat,f,true⟩ k)
   |none=>none
  |_,_=>none
 |_,_=>none
def aBI:CV->Bool
 |.c (.int .u8 0)=>true
 |_=>false
def OF (st:St)(d:Tmp)(s x:AC)(t t2 e:TypeId)(u:Ty)(z:CV)(k:St->Option α):Option α :=
 match Ut st e u s with
 |some (xs,f,ub)=>match x with
  |.str w=>if h:u.beq (.int .u8)=true then
    match P.underlying t2 with
    |some .string=>ck (Nat.beq (P.cellsOf e) 1&&Nat.beq (P.bytesOf e) 1&&aBI z&&decide (((xs.length+w.size:Nat):Int)<=F.mem))
      (ub.row d ⟨e,.int .u8,YP (Ty.beq_eq h) xs++bytesOf w,f,true⟩ k)
    |_=>none
   else none
  |x=>match Xq st u x with
   |some (ys,g) =>
    ck (Nat.beq t t2&&Nat.beq (P.cellsOf e) u.n&&Nat.beq z.cells.length u.n&&z.kn&& !Nat.beq u.n 0&& !Nat.beq (P.bytesOf e) 0&&decide (((xs.length+ys.length:Nat):Int)*(P.bytesOf e:Int)<=F.mem))
     (ub.row d ⟨e,u,xs++ys,f&&(g || flat u),true⟩ k)
   |none=>none
 |none=>none
def jD (o:Oper)(st:St)(k:St->Option α):Option α :=
 match o.op with
 |.move x|.assign x=>st.pk o.dst (st.ev x) k
 |.pick c a b=>match st.ac c with
  |.bool v=>br v ((st.lit c true).pk o.dst (st.ev a) k) ((st.lit c false).pk o.dst (st.ev b) k)
  |_=>none
 |.box t x=>match o.dst with
  |some d=>match Yd st.rob d with
   |true=>match atH P 20 t with
    |some u=>match im st u (st.eP x).cells with
     |some (y,[])=>ck (Nat.blt d st.nt&&(st.eP x).kn&&pY st (st.eP x).cells) (k ((st.freeze (st.eP x).cells).put d (.v (.c (.T5 (cV (st.eP x).cells) u y 0)))))
     |_=>none
    |none=>none
   |false=>match look st.bx d with
    |none=>ck (Nat.blt d st.nt&&(st.eP x).kn) (k {(st.put d (.v (.c (.ptr d 0)))) with bx:=(d,(st.eP x).cells)::st.bx})
    |some _=>none
  |none=>none
 |.alloc t=>match o.dst with
  |some d=>match look st.bx d with
   |none=>match tR P t with
    |some z=>ck (Nat.blt d st.nt&&z.kn) (k {(st.put d (.v (.c (.ptr d 0)))) with bx:=(d,z.cells)::st.bx})
    |none=>none
   |some _=>none
  |none=>none
 |.build t parts=>match tR P t,amd P t with
  |some z,some ps=>match z.kn,Bm st ps z.cells parts.toList with
   |true,some l=>st.pk o.dst (.v (.agg l)) k
   |_,_=>none
  |_,_=>none
 |.buildSlice t len parts=>match o.dst,D7 P t with
  |some d,some e=>match atH P 20 e with
   |some u=>match jk st u 0 parts.toList with
    |some xs=>match Nat.beq parts.toList.length len&&pY st (cY st parts.toList)&&(Nat.beq (P.cellsOf e) u.n&& !Nat.beq u.n 0&&Nat.ble (len*u.n) 16777216&&(tR P e).isSome) with
     |true=>(st.freeze (cY st parts.toList)).row d ⟨e,u,xs,cV (cY st parts.toList),true⟩ k
     |false=>none
    |none=>none
   |none=>none
  |_,_=>none
 |.load t a=>match uR st (st.ac a) with
  |some (l,off) =>
   let q:=xY (P.cellsOf t) (xZ off l)
   match Nat.beq q.length (P.cellsOf t) with
   |true=>match aaD P t with
    |some true=>st.pk o.dst (.v (.agg q)) k
    |some false=>match q with
     |[x]=>st.pk o.dst (.v (.c x)) k
     |_=>none
    |none=>none
   |false=>none
  |none=>none
 |.store t a x=>match (st.eP x).kn&&ahY (st.eP x).cells&&Nat.beq (P.cellsOf t) (st.eP x).cells.length&&(P.info? t).isSome with
  |true=>match st.ac a with
   |.ptr b off=>match look st.bx b with
    |some l=>match Nat.ble (off+(st.eP x).cells.length) l.length with
     |true=>({st with bx:=(b,G8 l off (st.eP x).cells)::st.bx}).pk o.dst (.Ul []) k
     |false=>none
    |none=>none
   |.Ln id i off=>match st.rS id with
    |some b=>match b.w&&pY st (st.eP x).cells&&azy id (st.eP x).cells with
     |true=>match AP st b.t (b.xs.getD i.toNat b.t.aF) (off,(st.eP x).cells) with
      |some (y,(0,[])) =>
       let ub:=st.freeze (st.eP x).cells
       ({ub with bl:=(id,some {b with xs:=b.xs.set i.toNat y,f:=b.f&&cV (st.eP x).cells})::ub.bl}).pk o.dst (.Ul []) k
      |_=>none
     |false=>none
    |none=>none
   |_=>none
  |false=>none
 |.nilCheck x=>match st.ac x with
  |.ptr b off=>st.pk o.dst (.v (.c (.ptr b off))) k
  |_=>none
 |.binOp op xt x y _=>match st.eP x,st.eP y with
  |.c a,.c b=>aHH P F op xt a b fun r=>st.pk o.dst (.v (.c r)) k
  |.agg l,.agg m=>match op,amb P xt l m with
   |.eql,some c=>st.pk o.dst (.v (.c (.bool c))) k
   |.neq,some c=>st.pk o.dst (.v (.c (.bool (!c)))) k
   |_,_=>none
  |_,_=>none
 |.unOp op _ x=>match op,st.ac x with
  |.not,.bool b=>st.pk o.dst (.v (.c (.bool (!b)))) k
  |.neg,.int kd n=>st.pk o.dst (.v (.c (.int kd (kd.wrap (0-n))))) k
  |_,_=>none
 |.convert src dst x=>match P.underlying src,P.underlying dst,st.ac x with
  |some (.int _),some (.int kd),.int _ n=>st.pk o.dst (.v (.c (.int kd (kd.wrap n)))) k
  |some .string,some .string,.str s=>st.pk o.dst (.v (.c (.str s))) k
  |some .string,some (.slice e),.str s=>match P.underlying e with
   |some (.int .u8)=>ck (decide ((s.size:Int)<=F.mem)) (st.pk o.dst (.v (.c (.ro true e (.int .u8) (bytesOf s)))) k)
   |_=>none
  |some (.slice e),some .string,c=>match P.underlying e,de st (.int .u8) c with
   |some (.int .u8),some xs=>st.pk o.dst (.v (.c (.str (strOf xs)))) k
   |_,_=>none
  |_,_,_=>none
 |.makeSlice t a b=>match o.dst,D7 P t,st.ac a,st.ac b with
  |some d,some e,.int .i64 n,.int .i64 m=>match atH P 20 e,tR P e with
   |some u,some z=>match im st u z.cells with
    |some (x,[])=>ck (z.kn&&(Nat.beq (P.cellsOf e) u.n&& !Nat.beq u.n 0&& !Nat.beq (P.bytesOf e) 0)&&decide (0<=n)&&n==m&&decide (n*(P.bytesOf e:Int)<=F.mem))
      (st.row d ⟨e,u,List.replicate n.toNat x,true,true⟩ k)
    |_=>none
   |_,_=>none
  |_,_,_,_=>none
 |.slice t x lo hi none=>match P.underlying t with
  |some .string=>match st.ac x with
   |.str s=>match xg lo st 0,xg hi st (s.size:Int) with
    |some l,some h=>ck (decide (0<=l)&&decide (l<=h)&&decide (h<=(s.size:Int))) (st.pk o.dst (.v (.c (.str (s.extract l.toNat h.toNat)))) k)
    |_,_=>none
   |_=>none
  |some (.slice e')=>match st.ac x with
   |.ro f e u xs=>match xg lo st 0,xg hi st (xs.length:Int) with
    |some l,some h=>ck (Nat.beq (P.cellsOf e') u.n&& !Nat.beq u.n 0&&(decide (0<=l)&&decide (l<=h)&&decide (h<=(xs.length:Int)))) (st.pk o.dst (.v (.c (.ro f e u ((xs.take h.toNat).drop l.toNat)))) k)
    |_,_=>none
   |.own id none=>match st.rS id,lo with
    |some b,none=>match xg hi st (b.xs.length:Int) with
     |some h=>ck (Nat.beq (P.cellsOf e') b.t.n&&(decide (0<=h)&&decide (h<=(b.xs.length:Int)))) (st.pk o.dst (.v (.c (.own id (some h)))) k)
     |none=>none
    |some b,some lo=>match xg (some lo) st 0,xg hi st (b.xs.length:Int) with
     |some l,some h=>ck (Nat.beq (P.cellsOf e') b.t.n&&(decide (0<=l)&&decide (l<=h)&&decide (h<=(b.xs.length:Int))))
       (({st with bl:=(id,some {b with w:=false})::st.bl}).pk o.dst (.v (.c (.ro b.f b.e b.t ((b.xs.take h.toNat).drop l.toNat)))) k)
     |_,_=>none
    |none,_=>none
   |_=>none
  |_=>none
 |.fieldAddr t x f=>match awB P t f with
  |some q=>match st.ac x with
   |.ptr b off=>st.pk o.dst (.v (.c (.ptr b (off+q)))) k
   |.Ln id i off=>match st.rS id with
    |some _=>st.pk o.dst (.v (.c (.Ln id i (off+q)))) k
    |none=>none
   |.T5 fl u y off=>st.pk o.dst (.v (.c (.T5 fl u y (off+q)))) k
   |_=>none
  |none=>none
 |.indexAddr t x i=>match st.ac i with
  |.int _ n=>match P.underlying t with
   |some (.slice e)=>match st.ac x with
    |.own id len=>match st.rS id with
     |some b=>match amc st (.own id len) with
      |some m=>ck (Nat.beq (P.cellsOf e) b.t.n&&(decide (0<=n)&&decide (n<m))) (st.pk o.dst (.v (.c (.Ln id n 0))) k)
      |none=>none
     |none=>none
    |.ro f _ u xs=>ck (Nat.beq (P.cellsOf e) u.n&& !Nat.beq u.n 0&&(decide (0<=n)&&decide (n<(xs.length:Int)))) (st.pk o.dst (.v (.c (.T5 f u (xs.getD n.toNat u.aF) 0))) k)
    |_=>none
   |some (.array m e)=>match st.ac x with
    |.ptr b off=>ck (!Nat.beq (P.cellsOf e) 0&&(decide (0<=n)&&decide (n<(m:Int)))) (st.pk o.dst (.v (.c (.ptr b (off+n.toNat*P.cellsOf e)))) k)
    |_=>none
   |_=>none
  |_=>none
 |.index t x i=>match P.underlying t,st.ac x,st.ac i with
  |some .string,.str s,.int _ n=>ck (decide (0<=n)&&decide (n<(s.size:Int))) (st.pk o.dst (.v (.c (.int .u8 (lL s n)))) k)
  |_,_,_=>none
 |.field t x f=>match atI P t f,st.eP x with
  |some (t,off),.agg l =>
   let q:=xY (P.cellsOf t) (xZ off l)
   match Nat.beq q.length (P.cellsOf t) with
   |true=>match aaD P t with
    |some true=>st.pk o.dst (.v (.agg q)) k
    |some false=>match q with
     |[x]=>st.pk o.dst (.v (.c x)) k
     |_=>none
    |none=>none
   |false=>none
  |_,_=>none
 |.extract x i=>match st.ev x with
  |.Ul l=>match nX l i with
   |some v=>st.pk o.dst (.v v) k
   |none=>none
  |_=>none
 |.call {callee:=.value (.func f),args,..}=>match C f with
  |some (.one con)=>Xp con st o.dst args.toList k
  |some (.two con)=>acq con st o.dst args.toList k
  |some (.sel con)=>atK con st o.dst args.toList k
  |some (.idx i)=>atL i st o.dst args.toList k
  |some (.ins e u)=>azA e u st o.dst args.toList k
  |some (.del e u)=>azB e u st o.dst args.toList k
  |none=>none
 |.call {callee:=.builtin .len,args,argTypes}=>match args.toList,argTypes.toList with
  |[x],[t]=>match P.underlying t,amc st (st.ac x) with
   |some .string,some n=>match st.ac x with|.str _=>st.pk o.dst (.v (.c (.int .i64 n))) k|_=>none
   |some (.slice _),some n=>match st.ac x with|.str _=>none|_=>st.pk o.dst (.v (.c (.int .i64 n))) k
   |_,_=>none
  |_,_=>none
 |.call {callee:=.builtin .max,args,..}=>match args.toList with
  |x::l=>match st.ac x with
   |.int kd a=>match aaF true st a l with
    |some r=>st.pk o.dst (.v (.c (.int kd r))) k
    |none=>none
   |_=>none
  |_=>none
 |.call {callee:=.builtin .min,args,..}=>match args.toList with
  |x::l=>match st.ac x with
   |.int kd a=>match aaF false st a l with
    |some r=>st.pk o.dst (.v (.c (.int kd r))) k
    |none=>none
   |_=>none
  |_=>none
 |.call {callee:=.builtin .append,args,argTypes}=>match o.dst,args.toList,argTypes.toList with
  |some d,[s,x],[t,t2]=>match D7 P t with
   |some e=>match atH P 20 e,tR P e with
    |some u,some z=>OF P F st d (st.ac s) (st.ac x) t t2 e u z k
    |_,_=>none
   |none=>none
  |_,_,_=>none
 |.makeFunc (.func g) first aqv=>match first.toList,aqv.toList with
  |[],[x]=>match st.ac x with
   |.ptr b 0=>st.pk o.dst (.v (.c (.fnp g b))) k
   |_=>none
  |_,_=>none
 |_=>none
def x5 (all:List Oper):List Oper->St->(St->Option α)->Option α
 |[],st,k=>k st
 |o::l,st,k=>match o.guard with
  |none=>jD P C F o st fun st=>x5 all l st k
  |some (j,Uu)=>match nX all j with
   |some oj=>match oj.dst with
    |some dj=>match st.get dj with
     |.v (.c (.bool b)) =>
      let yes (st:St):Option α:=jD P C F o st fun st=>x5 all l st k
      let no (st:St):Option α:=st.pk o.dst (.Ul []) fun st=>x5 all l st k
      br b (let st:=st.put dj (.v (.c (.bool true)));match Uu with|true=>yes st|false=>no st)
         (let st:=st.put dj (.v (.c (.bool false)));match Uu with|true=>no st|false=>yes st)
     |.Ul []=>st.pk o.dst (.Ul []) fun st=>x5 all l st k
     |_=>none
    |none=>none
   |none=>none
def acr (all:List Oper)(o:Oper)(st:St)(k:St->Option α):Option α :=
 match o.guard with
 |none=>jD P C F o st k
 |some (j,Uu)=>match nX all j with
  |some oj=>match oj.dst with
   |some dj=>match st.get dj with
    |.v (.c (.bool b)) =>
     br b (let st:=st.put dj (.v (.c (.bool true)));match Uu with|true=>jD P C F o st k|false=>st.pk o.dst (.Ul []) k)
        (let st:=st.put dj (.v (.c (.bool false)));match Uu with|true=>st.pk o.dst (.Ul []) k|false=>jD P C F o st k)
    |.Ul []=>st.pk o.dst (.Ul []) k
    |_=>none
   |none=>none
  |none=>none
def pZ (o:Oper):Bool:=match o.op with
 |.move _|.assign _|.pick _ _ _|.load _ _|.nilCheck _|.binOp _ _ _ _ _|.unOp _ _ _|.fieldAddr _ _ _|.indexAddr _ _ _|.index _ _ _|.field _ _ _|.extract _ _|.build _ _|.slice _ _ _ _ _=>true
 |.convert _ dst _=>match P.underlying dst with|some (.slice _)=>false|_=>true
 |.call {callee:=.builtin .len,..}|.call {callee:=.builtin .min,..}|.call {callee:=.builtin .max,..}=>true
 |_=>false
def azC (o:Oper):Bool:=match o.op with
 |.call {callee:=.value (.func f),..}=>match C f with|some (.one _)=>true|_=>false
 |_=>false
def dn (o:Oper):Bool:=match o.guard,o.dst,o.op with
 |none,some _,.alloc t=>match tR P t with|some z=>z.kn|none=>false
 |none,some _,.buildSlice t len parts=>match D7 P t with
  |some e=>match atH P 20 e with
   |some u=>(flat u || Nat.beq len 0)&&Nat.beq parts.toList.length len&&(Nat.beq (P.cellsOf e) u.n&& !Nat.beq u.n 0&&Nat.ble (len*u.n) 16777216&&(tR P e).isSome)
   |none=>false
  |none=>false
 |_,_,_=>false
def atM (o:Oper):Bool:=match o.op with
 |.alloc _|.box _ _|.buildSlice _ _ _=>true
 |_=>false
def ar7:Option Tmp->Option Tmp->Bool
 |some a,some b=>Nat.beq a b
 |_,_=>false
def G9 (o:Oper):Bool:=dn P o&&match o.op with|.buildSlice _ 0 _=>true|_=>false
def aaG (o:Oper):Option Tmp:=match o.op with
 |.call {callee:=.builtin .append,args,argTypes}=>match args.toList,argTypes.toList with
  |[.tmp t,_],[a,b]=>match Nat.beq a b with|true=>some t|false=>none
  |_,_=>none
 |_=>none
def OG (ops:Array Oper)(o:Oper):Bool:=match aaG o with
 |some t=>(List.range ops.size).any fun x=>match ops[x]? with
  |some ox=>G9 P ox&&ar7 ox.dst (some t)&&o.after.any fun e=>Region.binds .any e&&Nat.beq e.on x
  |none=>false
 |none=>false
def qP (ops:Array Oper)(o:Oper):Bool:=pZ P o || dn P o || azC C o || atM o || OG P ops o
def aNn (o:Oper):Bool:=match o.op with
 |.load _ _|.convert _ _ _=>true
 |_=>false
def I9 (st:St)(o:Oper):Bool:=match o.op with
 |.load _ a=>match st.ac a with|.T5 _ _ _ _=>true|_=>false
 |.convert _ _ _=>false
 |_=>true
def aBJ (ops:List Oper)(st:St)(o:Oper):Bool:=match o.guard with
 |none=>false
 |some (j,Uu)=>match nX ops j with
  |some oj=>match oj.dst with
   |some dj=>match st.get dj,Uu with
    |.v (.c (.bool true)),false=>true
    |.v (.c (.bool false)),true=>true
    |.Ul [],_=>true
    |_,_=>false
   |none=>false
  |none=>false
def St.drop (st:St)(t:Tmp):St:={st with tm:=st.tm.filter fun p=> !Nat.beq p.1 t}
def tT (ops:Array Oper)(listed:Array Bool):List Nat->St->St
 |[],st=>st
 |i::l,st=>match ops[i]? with
  |some o=>match dn P o&& !listed.getD i true,o.dst with
   |true,some d=>(tT ops listed l st).drop d
   |_,_=>tT ops listed l st
  |none=>tT ops listed l st
def acs (o:Oper)(t:Tmp):Bool:=match o.op with
 |.buildSlice _ _ parts=>parts.toList.any fun p=>match p.2 with|.tmp s=>Nat.beq s t|_=>false
 |_=>false
def Lw (st:St)(o:Oper):Bool:=match o.op with
 |.buildSlice t _ parts=>match D7 P t with
  |some e=>match atH P 20 e with
   |some u=>(jk st u 0 parts.toList).isSome
   |none=>false
  |none=>false
 |_=>true
def waits (ops:Array Oper)(listed:Array Bool)(o:Oper):Bool:=o.after.any fun e=>Region.binds .any e&&match ops[e.on]? with|some oe=> !dn P oe&& !listed.getD e.on true|none=>false
def awC (ops:Array Oper)(listed:Array Bool)(st:St):List Nat->Bool
 |[]=>true
 |y::l=>(match ops[y]? with|some o=> !dn P o || listed.getD y true || waits P ops listed o || Lw P st o|none=>true)&&awC ops listed st l
def ame (ops:Array Oper):Bool:=(List.range ops.size).all fun x=>match ops[x]? with
 |some o=> !dn P o || (List.range ops.size).all fun y=>match ops[y]? with
  |some o'=>match o'.dst with
   |some t=> !acs o t || (!dn P o'&&o.after.any fun e=>Region.binds .any e&&Nat.beq e.on y)
   |none=>true
  |none=>true
 |none=>true
def rU (ops:Array Oper)(nt:Nat):Bool:=ame P ops&&(List.range ops.size).all fun x=>match ops[x]? with
 |some o=> !dn P o || ((match o.dst with|some d=>Nat.blt d nt|none=>false)&&(List.range ops.size).all fun y=>Nat.beq y x || match ops[y]? with|some o'=> !ar7 o'.dst o.dst|none=>true)
 |none=>true
def oZ (ops:Array Oper)(listed:Array Bool)(i:Nat):Nat->Oper->Bool
 |0,_=>false
 |n+1,o=>o.after.any fun e=>Region.binds .any e&&(e.on==i || (!listed.getD e.on true&&match ops[e.on]? with|some oe=>oZ ops listed i n oe|none=>false))
def afo (o:Oper):Option Tmp:=match o.op with
 |.call {callee:=.value (.func f),args,..}=>match C f with
  |some (.two con)=>match con.pm with
   |.box|.cur=>match nX args.toList con.i with|some (.tmp t)=>some t|_=>none
   |_=>none
  |_=>none
 |_=>none
def azD (ops:Array Oper)(listed:Array Bool)(t:Tmp):Bool:=(List.range ops.size).all fun j=>match ops[j]? with
 |some oj=>listed.getD j true || !ar7 oj.dst (some t)
 |none=>true
def atN (ops:Array Oper)(listed:Array Bool)(st:St)(i:Nat)(o:Oper):Bool:=match o.op with
 |.load _ x=>match st.ac x with
  |.ptr b _=>(List.range ops.size).all fun c=>match ops[c]? with
   |some oc=>qP P C ops oc || listed.getD c true || oZ ops listed i 3 oc || (match afo C oc with
    |some t=>(match st.get t with|.v (.c (.ptr bb 0))=> !Nat.beq bb b|_=>false)&&azD ops listed t
    |none=>false)
   |none=>true
  |_=>false
 |_=>false
def acu (ops:Array Oper)(listed:Array Bool)(i:Nat):Bool :=
 (List.range ops.size).all fun c=>match ops[c]? with
  |some o=>qP P C ops o || listed.getD c true || oZ ops listed i 3 o
  |none=>true
def Uv (ops:Array Oper)(listed:Array Bool)(st:St):List Nat->Option (Nat×Oper)
 |[]=>none
 |i::l=>match ops[i]? with
  |some o=>match pZ P o&&Region.free .any ops listed i&&(I9 st o || acu P C ops listed i || aBJ ops.toList st o || atN P C ops listed st i o) with
   |true=>some (i,o)
   |false=>Uv ops listed st l
  |none=>none
def x6 (ops:Array Oper)(x:Nat):List Nat->Array Bool->Array Bool
 |[],l=>l
 |i::is,l=>match ops[i]? with
  |some o=>match dn P o&& !Nat.beq i x with
   |true=>x6 ops x is (l.setIfInBounds i true)
   |false=>x6 ops x is l
  |none=>x6 ops x is l
def aE4 (x:Nat):List Nat->Bool
 |[]=>true
 |j::l=>Nat.beq j x&&aE4 x l
def Uw (ops:Array Oper)(listed:Array Bool)(st:St):List Nat->Option (Nat×Oper)
 |[]=>none
 |i::l=>match ops[i]? with
  |some o=>match aE4 i (Region.ready .any ops (x6 P ops i (List.range ops.size) listed))&&awC P ops listed st (List.range ops.size) with
   |true=>some (i,o)
   |false=>Uw ops listed st l
  |none=>none
def IK (ops:Array Oper)(listed:Array Bool):List Nat->Bool
 |[]=>true
 |i::l=>(match ops[i]? with|some o=> !dn P o || listed.getD i true|none=>true)&&IK ops listed l
def Ha (ops:Array Oper):Nat->Array Bool->St->(St->Option α)->Option α
 |0,listed,st,k=>match Region.ready .any ops listed with
  |[]=>ck (IK P ops listed (List.range ops.size)) (k st)
  |_=>none
 |n+1,listed,st,k=>match Region.ready .any ops listed with
  |[]=>ck (IK P ops listed (List.range ops.size)) (k st)
  |i::r=>let st:=tT P ops listed (List.range ops.size) st
   match Uv P C ops listed st (i::r) with
   |some (j,o)=>acr P C F ops.toList o st fun st=>Ha ops n (listed.setIfInBounds j true) st k
   |none=>match Uw P ops listed st (i::r) with
    |some (j,o)=>acr P C F ops.toList o st fun st=>Ha ops n (listed.setIfInBounds j true) st k
    |none=>none
inductive Ex where
 |norm|exit (id:Nat)|ret
structure Hint where
 live:List Tmp
 mat:List (Tmp×TypeId×Ty):=[]
 roT:List Tmp:=[]
 wk:List Tmp:=[]
 x7:List (Nat×Nat×TypeId×Ty):=[]
 xl:List Tmp:=[]
 rl:List Tmp:=[]
 roB:List (Nat×Nat):=[]
 aJN:Bool:=false
def aLl (env:List Nat)(c:AC):List Nat:=match c with
 |.own id _|.Ln id _ _=>match Yd env id with|true=>env|false=>env++[id]
 |_=>env
def aE5 (env:List Nat)(l:List AC):List Nat:=l.foldl aLl env
def AV.cells:AV->List AC
 |.v x=>x.cells
 |.Ul l=>l.flatMap CV.cells
def idxOf:List Nat->Nat->Nat->Option Nat
 |[],_,_=>none
 |x::l,n,i=>match Nat.beq x n with|true=>some i|false=>idxOf l n (i+1)
def ajB (env bs:List Nat):AC->AC
 |.own id len=>match idxOf env id 0 with|some i=>.own (1000000+i) len|none=>.none
 |.Ln id i o=>match idxOf env id 0 with|some j=>.Ln (1000000+j) i o|none=>.none
 |.ptr b o=>match Yd bs b with|true=>.ptr b o|false=>.none
 |.fnp _ _=>.none
 |c=>c
def aHJ (env bs:List Nat):CV->CV
 |.c x=>.c (ajB env bs x)
 |.agg l=>.agg (l.map (ajB env bs))
def aHK (env bs:List Nat):AV->AV
 |.v x=>.v (aHJ env bs x)
 |.Ul l=>.Ul (l.map (aHJ env bs))
def atO (st:St)(t:Tmp)(e:TypeId)(u:Ty):St:=match st.get t,look st.bl (2000000+t),Nat.beq u.n 0 with
 |.v (.c .nil),none,false=>{(st.put t (.v (.c (.own (2000000+t) none)))) with bl:=(2000000+t,some ⟨e,u,[],true,true⟩)::st.bl}
 |_,_,_=>st
def alD (st:St)(b j:Nat)(e:TypeId)(u:Ty):St:=match look st.bx b,look st.bl (3000000+100*b+j),Nat.beq u.n 0 with
 |some l,none,false=>match nX l j with
  |some .nil=>{st with bx:=(b,NV l j (.own (3000000+100*b+j) none))::st.bx,bl:=(3000000+100*b+j,some ⟨e,u,[],true,true⟩)::st.bl}
  |_=>st
 |_,_,_=>st
def aBK (st:St)(t:Tmp):St:=match st.get t with
 |.v (.c (.own id len))=>match st.rS id with
  |some b=>(st.eo (.own id len)).put t (.v (.c (.ro b.f b.e b.t (I7 b.xs len))))
  |none=>st
 |_=>st
def atP (st:St)(b j:Nat):St:=match look st.bx b with
 |some l=>match nX l j with
  |some (.own id len)=>match st.rS id with
   |some bk=>{(st.eo (.own id len)) with bx:=(b,NV l j (.ro false bk.e bk.t (I7 bk.xs len)))::(st.eo (.own id len)).bx}
   |none=>st
  |some (.ro _ e t xs)=>{st with bx:=(b,NV l j (.ro false e t xs))::st.bx}
  |_=>st
 |none=>st
def aE6 (st:St):Bool->St
 |true=>{st with sp:=.v (.c .none)}
 |false=>st
def atQ (st:St)(t:Tmp):St:=match st.get t with
 |.v (.c (.ro _ e u xs))=>st.put t (.v (.c (.ro false e u xs)))
 |.v (.c (.own id len))=>match st.rS id with
  |some b=>{st with bl:=(id,some {b with f:=false})::st.bl}
  |none=>st
 |_=>st
def Ux:List AV->List Nat
 |[]=>[]
 |.v (.c (.ptr b _))::l=>match Yd (Ux l) b with|true=>Ux l|false=>b::Ux l
 |_::l=>Ux l
def aHL (tm:List (Nat×AV))(bx:List (Nat×List AC)):List Nat :=
 bx.foldl (fun env b=>aE5 env b.2) (tm.foldl (fun env x=>aE5 env x.2.cells) [])
def azE (st:St)(b:Nat):List AC:=match look st.bx b with|some l=>l|none=>[]
def Uy (st:St)(env:List Nat):Nat->List Nat->List (Nat×Option gp)
 |_,[]=>[]
 |i,id::l=>(1000000+i,match idxOf env id 0 with
  |some j=>match Nat.beq j i with|true=>st.rS id|false=>none
  |none=>none)::Uy st env (i+1) l
def aLm (st:St)(tm:List (Nat×AV))(bs:List Nat)(env:List Nat):St :=
 {nt:=st.nt,tm:=tm.map fun x=>(x.1,aHK env bs x.2),bx:=bs.map fun b=>(b,(azE st b).map (ajB env bs)),bl:=Uy st env 0 env,sp:=aHK env bs st.sp,rob:=st.rob}
def keep (live:List Tmp)(st:St):St :=
 let tm:=live.map fun t=>(t,st.get t)
 let bs:=Ux (st.sp::tm.map (·.2))
 aLm st tm bs (aHL ((0,st.sp)::tm) (bs.map fun b=>(b,azE st b)))
def aE7 (h:Hint)(st:St):St :=
 keep h.live (h.wk.foldl atQ (h.roT.foldl aBK (h.roB.foldl (fun st (b,j)=>atP st b j) (h.x7.foldl (fun st (b,j,e,u)=>alD st b j e u) (h.mat.foldl (fun st (t,e,u)=>atO st t e u) (aE6 st h.aJN))))))
def aJO (h:Hint)(e:Ex)(st:St):St:=match e with
 |.norm=>st
 |.exit _=>keep h.xl st
 |.ret=>keep h.rl st
def atS (h:Option Hint)(st:St):St:=match h with|some h=>aE7 h st|none=>st
def amf (h:Option Hint)(e:Ex)(st:St):St:=match h with|some h=>aJO h e st|none=>st
def aHM (body:St->(Ex->St->Option α)->Option α)(h:Option Hint)(k:Ex->St->Option α):Nat->St->Option α
 |0,_=>none
 |n+1,st=>body st fun e dK=>match e with
  |.norm=>aHM body h k n (atS h dK)
  |.exit j=>k (.exit j) (amf h (.exit j) dK)
  |.ret=>k .ret (amf h .ret dK)
def rV:Code->Nat
 |.region id _ _=>id
 |.seq a _=>rV a
 |.block _ b=>rV b
 |_=>0
def kQ (o:Oper):Bool:=match o.op with
 |.move _|.assign _|.pick _ _ _|.load _ _|.nilCheck _|.binOp _ _ _ _ _|.unOp _ _ _|.fieldAddr _ _ _|.indexAddr _ _ _|.index _ _ _|.field _ _ _|.extract _ _|.build _ _|.slice _ _ _ _ _=>true
 |.convert _ dst _=>match P.underlying dst with|some (.slice _)=>false|_=>true
 |.call {callee:=.builtin .len,..}|.call {callee:=.builtin .min,..}|.call {callee:=.builtin .max,..}=>true
 |.call {callee:=.value (.func f),..}=>match C f with|some (.one con)=>Nat.beq con.m 1&&con.rs.all fun a=>flat a.1|_=>false
 |_=>false
def azF (ops:Array Oper):Bool:=P.follows .mixedOrders&&Region.lexB .any ops&&ops.toList.all fun o=>kQ P C o
def atT (d:Nat)(c:Nat->AC):AC->AC
 |.ptr b o=>match Nat.beq b d with|true=>c o|false=>.ptr b o
 |.fnp g b=>match Nat.beq b d with|true=>.none|false=>.fnp g b
 |x=>x
def aE8 (d:Nat)(c:Nat->AC):CV->CV
 |.c x=>.c (atT d c x)
 |.agg l=>.agg (l.map (atT d c))
def aBL (d:Nat)(c:Nat->AC):AV->AV
 |.v x=>.v (aE8 d c x)
 |.Ul l=>.Ul (l.map (aE8 d c))
def St.ar8 (st:St)(d:Nat)(c:Nat->AC):St :=
 {st with tm:=st.tm.map fun p=>(p.1,aBL d c p.2),bx:=(st.bx.filter fun p=> !Nat.beq p.1 d).map fun p=>(p.1,p.2.map (atT d c)),sp:=aBL d c st.sp}
def aE9 (d:Nat)(u:Ty)(st:St)(k:St->Option α):Option α:=match look st.bx d with
 |some cells=>match im st u cells with
  |some (y,[])=>ck (pY st cells) (k ((st.freeze cells).ar8 d fun o=>.T5 (cV cells) u y o))
  |_=>none
 |none=>none
def aHN:List (Tmp×TypeId×Ty)->St->(St->Option α)->Option α
 |[],st,k=>k st
 |(d,_,u)::l,st,k=>aE9 d u st fun st=>aHN l st k
def aLn (H:Nat->Option Hint)(id:Nat):List (Tmp×TypeId×Ty):=match H (900000+id) with|some h=>h.mat|none=>[]
def run (H:Nat->Option Hint):Code->St->(Ex->St->Option α)->Option α
 |.skip,st,k=>k .norm st
 |.region id ops aHO,st,k=>match (!aHO || azF P C ops) with
  |true=>x5 P C F ops.toList ops.toList st fun st=>k .norm st
  |false=>match P.follows .mixedOrders&&Region.noSelect ops&&rU P ops st.nt with
   |true=>aHN (aLn H id) st fun st=>Ha P C F ops ops.size (Array.replicate ops.size false) st fun st=>k .norm st
   |false=>none
 |.seq a b,st,k=>run H a st fun e st=>match e with
  |.norm=>run H b st k
  |e=>k e st
 |.cond c a b,st,k=>match st.ac c with
  |.bool v=>br v (run H a (st.lit c true) k) (run H b (st.lit c false) k)
  |_=>none
 |.block id b,st,k=>run H b st fun e st=>match e with
  |.exit j=>match Nat.beq j id with|true=>k .norm st|false=>k (.exit j) st
  |e=>k e st
 |.loop b,st,k=>aHM (fun st k=>run H b st k) (H (rV b)) k F.n (atS (H (rV b)) st)
 |.exit id,st,k=>k (.exit id) st
 |.ret,st,k=>k .ret st
 |_,_,_=>none
def aLo (ps:List (Ty×Bool))(x:Args ps):List CV:=exF false ps x
def awD:Nat->List CV->List (Nat×AV)
 |_,[]=>[]
 |i,v::l=>(i,.v v)::awD (i+1) l
def aFa (st:St):ResultVar->Option CV
 |.tmp t=>some (st.eP (.tmp t))
 |.cell a t=>match uR st (st.ac (.tmp a)) with
  |some (l,off) =>
   let q:=xY (P.cellsOf t) (xZ off l)
   match Nat.beq q.length (P.cellsOf t) with
   |true=>match aaD P t with
    |some true=>some (.agg q)
    |some false=>match q with
     |[x]=>some (.c x)
     |_=>none
    |none=>none
   |false=>none
  |none=>none
def QZ (st:St):List ResultVar->Option (List CV)
 |[]=>some []
 |r::l=>match aFa P st r with
  |some c=>match QZ st l with
   |some cs=>some (c::cs)
   |none=>none
  |none=>none
def fin (fn:Func)(rs:List (Ty×Bool))(m:Nat):Ex->St->Option (Args rs):=fun e st =>
 match e with
 |.exit _=>none
 |_=>match QZ P st fn.results.toList with
  |some l=>match ij st m [] (aU l)&&(match m with|2=>x4 st rs l|_=>true) with
   |true=>Bn st rs l
   |false=>none
  |none=>none
def j1 (fn : Func) : Code := match fn.body with | some c => c | none => .refuse ""
def ar9 (H:Nat->Option Hint):List Nat:=match H 999999 with|some h=>h.live|none=>[]
def aJP (H:Nat->Option Hint)(fn:Func)(ps rs:List (Ty×Bool))(m:Nat)(x:Args ps):Option (Args rs) :=
 ck (Nat.ble ps.length fn.ntmps&&fg ps&&fg rs&&Nat.ble m 2) (run P C F H (j1 fn) {nt:=fn.ntmps,tm:=awD 0 (aLo ps x),bx:=[],bl:=[],rob:=ar9 H} (fin P fn rs m))
def aJQ (pm:PM)(a:Ty×Bool)(x:a.1.D):CV×List (Nat×Option gp)×List (Nat×List AC):=match pm with
 |.rd=>(match a.2 with|true=>.agg (ex false a.1 x)|false=>.c (match ex false a.1 x with|[c]=>c|_=>.none),[],[])
 |.own f=>((ex1 62500 f a x 0).1,(ex1 62500 f a x 0).2,[])
 |.box=>(.c (.ptr 4000000 0),[],[(4000000,ex false a.1 x)])
 |.cur=>(.c (.ptr 4000000 0),[],[(4000000,ex true a.1 x)])
def exP (pm:PM):Nat->(ps:List (Ty×Bool))->Args ps->List CV×(CV×List (Nat×Option gp)×List (Nat×List AC))
 |0,a::l,x=>((aJQ pm a x.1).1::exF false l x.2,aJQ pm a x.1)
 |i+1,a::l,x=>((match a.2 with|true=>.agg (ex false a.1 x.1)|false=>.c (match ex false a.1 x.1 with|[c]=>c|_=>.none))::(exP pm i l x.2).1,(exP pm i l x.2).2)
 |_,[],_=>([],(.c .none,[],[]))
def afp (nt:Nat)(pm:PM)(i:Nat)(ps:List (Ty×Bool))(x:Args ps):St :=
 {nt:=nt,tm:=awD 0 (exP pm i ps x).1,bx:=(exP pm i ps x).2.2.2,bl:=(exP pm i ps x).2.2.1,sp:=.v (exP pm i ps x).2.1}
def aqw (st:St)(pm:PM)(rs qs:List (Ty×Bool))(m:Nat)(l:List CV):Option (Args rs×Args qs) :=
 match pm with
 |.rd=>match qs with
  |[]=>match rdM m with
   |some f=>match l with
    |[.c (.ptr b 0)]=>match look st.bx b with
     |some c=>match ij st (match f with|true=>1|false=>0) [] c&&xh c with
      |true=>match Bn st rs [.agg c]with|some r=>some (r,())|none=>none
      |false=>none
     |none=>none
    |_=>none
   |none=>none
  |_=>none
 |.box=>match st.sp,qs with
  |.v (.c (.ptr b 0)),[q]=>match look st.bx b with
   |some c=>match xh c&&ij st m [] (aU l)&&(match m with|2|3=>x4 st rs l|_=>true)&&Nat.ble m 3 with
    |true=>match Bn st rs l,imV st q (.agg c) with
     |some r,some y=>some (r,(y,()))
     |_,_=>none
    |false=>none
   |none=>none
  |_,_=>none
 |.cur=>match st.sp,qs with
  |.v (.c (.ptr b 0)),[q]=>match look st.bx b with
   |some c=>match xh c&&cV c&&ij st m [] (aU l)&&(match m with|2=>x4 st rs l|_=>true)&&Nat.ble m 2 with
    |true=>match Bn st rs l,imV st q (.agg c) with
     |some r,some y=>some (r,(y,()))
     |_,_=>none
    |false=>none
   |none=>none
  |_,_=>none
 |.own _=>match Nat.beq m 2 || Nat.beq m 3 with
  |true=>match qs with
   |[]=>match ij st m [] (aU l)&&x4 st rs l with
    |true=>match Bn st rs l with|some r=>some (r,())|none=>none
    |false=>none
   |[q]=>match st.sp with
    |.v c=>match ij st m [] (aU (l++[c]))&&x4 st rs l&&x4 st [q] [c]with
     |true=>match Bn st rs l,Bn st [q] [c]with
      |some r,some y=>some (r,y)
      |_,_=>none
     |false=>none
    |_=>none
   |_=>none
  |false=>none
def aLp (fn:Func)(pm:PM)(rs qs:List (Ty×Bool))(m:Nat):Ex->St->Option (Args rs×Args qs):=fun e st =>
 match e with
 |.exit _=>none
 |_=>match QZ P st fn.results.toList with
  |some l=>aqw st pm rs qs m l
  |none=>none
def aBM (H:Nat->Option Hint)(fn:Func)(ps:List (Ty×Bool))(i:Nat)(pm:PM)(rs qs:List (Ty×Bool))(m:Nat)(x:Args ps):Option (Args rs×Args qs) :=
 ck (Nat.ble ps.length fn.ntmps&&Nat.blt i ps.length&&fg ps&&fg rs) (run P C F H (j1 fn) {(afp fn.ntmps pm i ps x) with rob:=ar9 H} (aLp P fn pm rs qs m))
def azG (fn:Func)(a b q:Ty×Bool):Ex->St->Option (a.1.D×b.1.D×q.1.D):=fun e st =>
 match e with
 |.exit _=>none
 |_=>match QZ P st fn.results.toList with
  |some [ca,cb]=>match Bn st [b] [cb]with
   |some n=>br (ama b.1 n.1)
     (match aqw st (.own true) [a,b] [] 2 [ca,cb]with|some r=>some (r.1.1,r.1.2.1,q.1.aF)|none=>none)
     (ck (aI5 a ca) (match aqw st (.own true) [b] [q] 2 [cb]with|some r=>some (a.1.aF,r.1.1,r.2.1)|none=>none))
   |none=>none
  |_=>none
def aqx (H:Nat->Option Hint)(fn:Func)(ps:List (Ty×Bool))(i:Nat)(a b q:Ty×Bool)(x:Args ps):Option (a.1.D×b.1.D×q.1.D) :=
 ck (Nat.ble ps.length fn.ntmps&&Nat.blt i ps.length&&fg ps&&fg [a,b]) (run P C F H (j1 fn) {(afp fn.ntmps (.own true) i ps x) with rob:=ar9 H} (azG P fn a b q))
end
end Go.Am
namespace Go.Am
inductive At where
 |l|r|b|t|e|i
def sub:List At->Code->Code
 |[],c=>c
 |.l::p,.seq a _=>sub p a
 |.r::p,.seq _ b=>sub p b
 |.b::p,.block _ b=>sub p b
 |.t::p,.cond _ a _=>sub p a
 |.e::p,.cond _ _ a=>sub p a
 |.i::p,.loop a=>sub p a
 |_,_=>.skip
section
variable (P:Program) (C:FuncId->Option Any) (F:rT) {α:Type} (H:Nat->Option Hint)
def afq:List At->Code->(Ex->St->Option α)->(Ex->St->Option α)
 |[],_,k=>k
 |.l::p,.seq a b,k=>afq p a fun e st=>match e with
  |.norm=>run P C F H b st k
  |e=>k e st
 |.r::p,.seq _ b,k=>afq p b k
 |.b::p,.block id b,k=>afq p b fun e st=>match e with
  |.exit j=>match Nat.beq j id with|true=>k .norm st|false=>k (.exit j) st
  |e=>k e st
 |.t::p,.cond _ a _,k=>afq p a k
 |.e::p,.cond _ _ a,k=>afq p a k
 |_,_,k=>k
def lp (b:Code)(k:Ex->St->Option α)(n:Nat)(st:St):Option α :=
 aHM (fun st k=>run P C F H b st k) (H (rV b)) k n st
def itk (b:Code)(k:Ex->St->Option α)(n:Nat):Ex->St->Option α:=fun e dK=>match e with
 |.norm=>lp P C F H b k n (atS (H (rV b)) dK)
 |.exit j=>k (.exit j) (amf (H (rV b)) (.exit j) dK)
 |.ret=>k .ret (amf (H (rV b)) .ret dK)
end
end Go.Am
