/- No condition. -/
import Derived.WalkKit
import Derived.KernelRfl
import Derived.Deep.Quiet
import Derived.OrdersHeld
import Derived.Deep.RegionHeld3
set_option linter.all false
namespace Go.Am
abbrev aL:= @List.length_append
abbrev aI:= @Bool.and_eq_true
abbrev aR:= @decide_eq_false
abbrev aN:= @decide_eq_true
abbrev aZ:= @List.length_cons
abbrev ah:= @if_neg
abbrev ct:= @beq_eq_false_iff_ne
abbrev bE:= @List.length_nil
abbrev ai:= @if_pos
abbrev bV:= @List.length_take
abbrev aO:= @Bool.not_true
abbrev bB:= @List.length_drop
abbrev cA:= @decide_eq_true_eq
abbrev aT:= @Nat.zero_le
abbrev dM:= @List.length_singleton
abbrev cX:= @List.getElem_mem
abbrev bC:= @beq_iff_eq
abbrev bZ:= @Nat.le_refl
abbrev cR:= @Nat.le_trans
abbrev dE:= @List.mem_cons
abbrev mA:= @Option.isSome_iff_exists
abbrev hU:= @List.mem_singleton
abbrev ka:= @List.mem_cons_of_mem
abbrev pc:= @List.getElem?_eq_getElem
abbrev fJ:= @Option.some.inj
abbrev ff:= @Bool.not_false
abbrev iT:= @List.append_assoc
abbrev jw:= @Int.toNat_natCast
abbrev iU:= @List.all_eq_true
abbrev xJ:= @List.getElem?_eq_some_iff
abbrev iz:= @List.append_nil
abbrev Bj:= @Array.getElem?_eq_some_iff
abbrev jx:= @List.mem_append
abbrev hY:= @Bool.true_and
abbrev nW:= @of_decide_eq_true
abbrev kE:= @Bool.or_eq_true
abbrev Gr:= @List.getD_eq_getElem?_getD
abbrev mB:= @List.take_length
abbrev kb:= @List.mem_range
abbrev qU:= @List.mem_cons_self
abbrev yr:= @Array.toArray_toList
abbrev OP:= @Array.getD_eq_getD_getElem?
abbrev qV:= @List.length_map
abbrev Gs:= @Nat.mul_le_mul_right
abbrev Ev:= @Nat.lt_of_lt_of_le
abbrev Za:= @List.eq_nil_of_length_eq_zero
abbrev US:= @List.mem_of_find?_eq_some
abbrev UT:= @List.drop_eq_getElem_cons
abbrev tW:= @List.map_cons
abbrev LM:= @Int.toNat_of_nonneg
abbrev Bk:= @List.nil_append
abbrev uE:= @List.cons.inj
abbrev Jp:= @Bool.eq_false_iff
abbrev Gt:= @List.cons_append
abbrev Gu:= @List.countP_cons
abbrev hZ:= @if_false
abbrev LN:= @List.take_add_one
abbrev OQ:= @List.getElem?_take
abbrev Gv:= @List.length_set
abbrev SC:= @bne_eq_false_iff_eq
abbrev xK:= @Nat.zero_add
abbrev Zb:= @List.mem_of_mem_take
abbrev SD:= @List.length_range
abbrev UU:= @Nat.pos_of_ne_zero
abbrev iA:= @if_true
abbrev acL:= @List.take_append_drop
abbrev amA:= @Int.tmod_eq_emod_of_nonneg
abbrev amB:= @Int.tdiv_eq_ediv_of_nonneg
abbrev Jq:= @Bool.false_or
abbrev SE:= @Nat.not_lt_zero
abbrev UW:= @List.drop_length
abbrev Jr:= @List.mem_map
abbrev aip:= @Bool.or_eq_false_iff
abbrev qd:= @congrArg
abbrev as9:= @List.getElem?_append_right
abbrev LO:= @Nat.lt_or_ge
abbrev amC:= @List.take_of_length_le
abbrev Zc:= @beq_self_eq_true
abbrev Ew:= @bne_iff_ne
abbrev aiq:= @List.getElem_of_mem
abbrev air:= @List.getElem?_drop
abbrev LP:= @Nat.add_mul
abbrev acM:= @Array.toList_map
abbrev UX:= @Nat.add_assoc
abbrev Zd:= @Bool.false_and
abbrev ais:= @Bool.not_eq_true'
abbrev SF:= @Int.pow_succ
abbrev axP:= @Classical.byContradiction
abbrev amD:= @Nat.eq_zero_or_pos
abbrev amE:= @Int.emod_lt_of_pos
abbrev acN:= @List.drop_zero
abbrev aC6:= @List.take_append_of_le_length
abbrev ata:= @List.mem_of_getElem?
abbrev axQ:= @decide_eq_false_iff_not
abbrev aC7:= @Array.getElem?_setIfInBounds
abbrev ait:= @List.map_append
abbrev aiu:= @List.find?_some
abbrev aiv:= @Nat.min_eq_left
abbrev aiw:= @Int.emod_nonneg
abbrev UY:= @Int.le_refl
abbrev afN:= @Bool.false_eq_true
abbrev afO:= @of_decide_eq_false
abbrev UZ:= @Bool.and_false
abbrev uf:= @BEq.comm
abbrev ug:= @Prod.ext
abbrev amF:= @List.length_filter_le
abbrev Ri:= @Nat.add_zero
abbrev afP:= @List.all_eq_false
abbrev U0:= @Nat.lt_irrefl
abbrev auO:= @Nat.le_mul_of_pos_right
abbrev Rl:= @Nat.one_mul
abbrev amG:= @List.find?_eq_none
abbrev U1:= @Nat.sub_zero
abbrev amH:= @Option.toList_some
abbrev auP:= @List.drop_eq_nil_of_le
abbrev BC:= @Eq.trans
abbrev amI:= @bne_self_eq_false
abbrev auQ:= @List.getElem?_append
abbrev auR:= @List.mem_iff_getElem
abbrev afQ:= @List.take_left
abbrev auS:= @List.mem_of_mem_drop
abbrev amJ:= @Option.bind_some
abbrev amK:= @List.not_mem_nil
abbrev aAS:= @Array.getElem?_eq_getElem
abbrev aAT:= @List.pairwise_iff_getElem
abbrev aAU:= @List.getElem_append_left
abbrev amL:= @List.foldl_cons
abbrev amM:= @List.take_left'
abbrev auT:= @Array.any_eq_true'
abbrev amN:= @List.drop_drop
abbrev auU:= @List.getElem?_map
abbrev afR:= @Nat.succ_pos
abbrev amO:= @List.drop_left
abbrev aAV:= @Nat.div_lt_iff_lt_mul
abbrev aAW:= @List.mem_append_right
abbrev aAX:= @List.countP_mono_left
abbrev aAY:= @List.set_getElem_self
abbrev aa0:= @Nat.mod_lt
abbrev auV:= @Nat.mod_eq_of_lt
abbrev auW:= @List.any_eq_true
abbrev auX:= @List.take_append
abbrev amP:= @Bool.or_false
abbrev amQ:= @List.sum_cons
abbrev auY:= @List.nodup_cons
abbrev amR:= @Nat.zero_mul
abbrev amS:= @Bool.true_or
abbrev amT:= @Int.le_trans
inductive Ty where
 |int (k:IntKind)|bool|str|unit
 |pair (a b:Ty)
 |sl (e:TypeId) (t:Ty)
@[reducible] def Ty.D:Ty->Type
 |.int _=>Int|.bool=>Bool|.str=>ByteArray|.unit=>Unit|.pair a b=>a.D×b.D|.sl _ t=>List t.D
def Ty.aG:(t:Ty)->t.D
 |.int _=>(0:Int)|.bool=>false|.str=>ByteArray.empty|.unit=>()|.pair a b=>(a.aG,b.aG)|.sl _ _=>[]
def Ty.n:Ty->Nat
 |.int _|.bool|.str|.sl _ _=>1|.unit=>0|.pair a b=>a.n+b.n
def aAZ:IntKind->IntKind->Bool
 |.i8,.i8|.i16,.i16|.i32,.i32|.i64,.i64|.u8,.u8|.u16,.u16|.u32,.u32|.u64,.u64=>true|_,_=>false
def acO {a b:IntKind}(h:aAZ a b=true):a=b:=by cases a<;>cases b<;>first|rfl|cases h
def Ty.beq:Ty->Ty->Bool
 |.int k,.int l=>aAZ k l|.bool,.bool|.str,.str|.unit,.unit=>true|.pair a b,.pair c d=>a.beq c&&b.beq d|.sl e t,.sl f u=>Nat.beq e f&&t.beq u|_,_=>false
def Ty.beq_eq:∀{a b:Ty},a.beq b=true->a=b
 |.int k,.int l,h=>by rw[acO (show aAZ k l=true from h)]
 |.bool,.bool,_|.str,.str,_|.unit,.unit,_=>rfl|.pair a b,.pair c d,h=>by have h':(a.beq c&&b.beq d)=true:=h;rw[Bool.and_eq_true]at h';rw[Ty.beq_eq h'.1,Ty.beq_eq h'.2]
 |.sl e t,.sl f u,h=>by have h':(Nat.beq e f&&t.beq u)=true:=h;rw[Bool.and_eq_true]at h';rw[Nat.eq_of_beq_eq_true h'.1,Ty.beq_eq h'.2]
def axR:List Ty->Ty
 |[]=>.unit|[a]=>a|a::b::l=>.pair a (axR (b::l))
def auZ (P:Program):Nat->TypeId->Option Ty
 |0,_=>none
 |n+1,t =>
  match P.underlying t with
  |some (.int k)=>some (.int k)|some .bool=>some .bool|some .string=>some .str|some (.slice e)=>(auZ P n e).map (.sl e)|some (.struct fs)=>(fs.toList.mapM fun f=>auZ P n f.type).map axR
  |some (.array m e)=>(auZ P n e).map fun t=>axR (List.replicate m t)
  |_=>none
inductive AC where
 |none
 |int (k:IntKind) (n:Int)
 |bool (b:Bool)
 |str (s:ByteArray)
 |nil
 |ro (f:Bool) (e:TypeId) (t:Ty) (xs:List t.D)
 |own (id:Nat) (len:Option Int)
 |ptr (b:Nat) (off:Nat)
 |LI (id:Nat) (i:Int) (off:Nat)
 |UA (f:Bool) (t:Ty) (x:t.D) (off:Nat)
 |fnp (g:Nat) (b:Nat)
 |any
inductive CV where
 |c (x:AC)
 |agg (l:List AC)
inductive AV where
 |v (x:CV)
 |UO (l:List CV)
def CV.cells:CV->List AC
 |.c x=>[x]|.agg l=>l
structure gB where
 e:TypeId
 t:Ty
 xs:List t.D
 f:Bool
 w:Bool
structure St where
 nt:Nat
 tm:List (Nat×AV)
 bx:List (Nat×List AC)
 bl:List (Nat×Option gB)
 sp:AV:=.v (.c .none)
 rob:List Nat:=[]
def look {U:Type}:List (Nat×U)->Nat->Option U
 |[],_=>none|(k,v)::l,n=>match Nat.beq k n with|true=>some v|false=>look l n
def St.get (st:St)(t:Nat):AV:=match look st.tm t with|some v=>v|none=>.v (.c .none)
def St.put (st:St)(d:Nat)(v:AV):St:={st with tm:=(d,v)::st.tm}
def St.rZ (st:St)(id:Nat):Option gB:=match look st.bl id with|some b=>b|none=>none
def ck {U:Type}(c:Bool)(k:Option U):Option U:=match c with|true=>k|false=>none
def br {U:Type}(c:Bool)(x y:U):U:=match c with|true=>x|false=>y
def U2:Value->AC
 |.int k n=>.int k n|.bool b=>.bool b|.string s=>.str s|.slice none 0 0=>.nil|_=>.none
def LQ:Value->CV
 |.agg cs=>.agg (cs.toList.map U2)|v=>.c (U2 v)
def St.ev (st:St):Operand->AV
 |.tmp t=>st.get t|.const v=>.v (LQ v)|_=>.v (.c .none)
def St.eZ (st:St)(o:Operand):CV:=match st.ev o with|.v x=>x|.UO _=>.c .none
def St.ac (st:St)(o:Operand):AC:=match st.eZ o with|.c x=>x|.agg _=>.none
def CV.kn:CV->Bool
 |.c .none=>false|_=>true
def ex (f:Bool):(t:Ty)->t.D->List AC
 |.int k,x=>[.int k x]|.bool,x=>[.bool x]|.str,x=>[.str x]|.unit,_=>[]|.pair a b,x=>ex f a x.1++ex f b x.2|.sl e t,x=>[.ro f e t x]
def Ze {t u:Ty}(h:t=u)(x:List t.D):List u.D:=h▸x
def Js {U:Type}(xs:List U):Option Int->List U
 |none=>xs|some n=>xs.take n.toNat
def dm (st:St)(t:Ty):AC->Option (List t.D)
 |.nil=>some []|.ro _ _ u xs=>if h:u.beq t=true then some (Ze (Ty.beq_eq h) xs) else none|.own id len=>match st.rZ id with
  |some b=>if h:b.t.beq t=true then some (Js (Ze (Ty.beq_eq h) b.xs) len) else none|none=>none
 |_=>none
def im (st:St):(t:Ty)->List AC->Option (t.D×List AC)
 |.int k,.int l n::r=>if aAZ l k then some (n,r) else none|.bool,.bool b::r=>some (b,r)|.str,.str s::r=>some (s,r)|.unit,r=>some ((),r)|.pair a b,r=>match im st a r with
  |some (x,r1)=>match im st b r1 with
   |some (y,r2)=>some ((x,y),r2)|none=>none
  |none=>none
 |.sl _ t,c::r=>match dm st t c with
  |some xs=>some (xs,r)|none=>none
 |_,_=>none
@[reducible] def Args:List (Ty×Bool)->Type
 |[]=>Unit|a::l=>a.1.D×Args l
structure Con where
 ps:List (Ty×Bool)
 rs:List (Ty×Bool)
 m:Nat
 g:Args ps->Option (Args rs)
inductive PM where
 |rd|own (f:Bool)|box|cur
structure OR where
 ps:List (Ty×Bool)
 i:Nat
 pm:PM
 rs:List (Ty×Bool)
 m:Nat
 qs:List (Ty×Bool)
 g:Args ps->Option (Args rs×Args qs)
structure Idx where
 g:Nat
 a:Ty×Bool
 q:Ty
 p:a.1.D->q.D->Bool
structure Sel where
 ps:List (Ty×Bool)
 i:Nat
 a:Ty×Bool
 b:Ty×Bool
 q:Ty×Bool
 g:Args ps->Option (a.1.D×b.1.D×q.1.D)
def amU:(t:Ty)->t.D->Bool
 |.bool,x=>x|.int _,x=>x==0|_,_=>false
def aNq:(t:Ty)->t.D->t.D
 |.bool,_=>true|.int _,_=>(0:Int)|_,x=>x
def aNr:(t:Ty)->t.D->t.D
 |.bool,_=>false|_,x=>x
inductive Any where
 |one (c:Con)|two (c:OR)|sel (c:Sel)|idx (i:Idx)
 |ins (e:TypeId) (u:Ty)
 |del (e:TypeId) (u:Ty)
def qW {U:Type}(p:U->Bool):List U->Int->Int
 |[],_=>-1|x::l,i=>match p x with|true=>i|false=>qW p l (i+1)
def flat:Ty->Bool
 |.int _|.bool|.str|.unit=>true|.pair a b=>flat a&&flat b|.sl _ _=>false
def exR (id:Nat)(f:Bool):(t:Ty)->t.D->Nat->List AC×List (Nat×Option gB)
 |.int k,x,_=>([.int k x],[])|.bool,x,_=>([.bool x],[])|.str,x,_=>([.str x],[])|.unit,_,_=>([],[])|.pair a b,x,j=>((exR id f a x.1 j).1++(exR id f b x.2 (j+a.n)).1,(exR id f a x.1 j).2++(exR id f b x.2 (j+a.n)).2)|.sl e t,x,j=>([.own (id*64+j) none],[(id*64+j,some ⟨e,t,x,f || flat t,true⟩)])
structure sd where
 n:Nat
 mem:Int
 str:Int
@[reducible] def sd.Rm (n:Nat):sd:=⟨n,140737488355328,9223372036854775807⟩
def aK4 {U:Type}(op:BinOp)(kd:IntKind)(a b:Int)(k:AC->Option U):Option U :=
 match op with
 |.add=>k (.int kd (kd.wrap (a+b)))|.sub=>k (.int kd (kd.wrap (a-b)))|.mul=>k (.int kd (kd.wrap (a*b)))|.quo=>ck (!(b==0)) (k (.int kd (kd.wrap (a.tdiv b))))|.rem=>ck (!(b==0)) (k (.int kd (a.tmod b)))|.and=>k (.int kd (kd.wrap (BitVec.ofInt kd.bits a &&& BitVec.ofInt kd.bits b).toNat))|.or=>k (.int kd (kd.wrap (BitVec.ofInt kd.bits a ||| BitVec.ofInt kd.bits b).toNat))|.xor=>k (.int kd (kd.wrap (BitVec.ofInt kd.bits a ^^^ BitVec.ofInt kd.bits b).toNat))|.eql=>k (.bool (a==b))|.neq=>k (.bool (a != b))|.lss=>k (.bool (decide (a<b)))|.leq=>k (.bool (decide (a<=b)))|.gtr=>k (.bool (decide (a>b)))|.geq=>k (.bool (decide (a>=b)))|_=>none
def aC8 {U:Type}(op:BinOp)(kd:IntKind)(a b:Int)(k:AC->Option U):Option U :=
 match op with
 |.shl=>ck (decide (0<=b)) (k (.int kd (kd.wrap (a*2 ^ (min b.toNat kd.bits)))))|.shr=>ck (decide (0<=b)) (k (.int kd (a.fdiv (2 ^ (min b.toNat kd.bits)))))|_=>none
def aK5 {U:Type}(F:sd)(op:BinOp)(a b:ByteArray)(k:AC->Option U):Option U :=
 match op with
 |.add=>ck (decide (((a.size+b.size:Nat):Int)<=F.str)) (k (.str (a++b)))|.eql=>k (.bool (a.toList==b.toList))|.neq=>k (.bool (!(a.toList==b.toList)))|.lss=>k (.bool (Op.bytesLess a.toList b.toList))|.leq=>k (.bool (Op.bytesLess a.toList b.toList || a.toList==b.toList))|.gtr=>k (.bool (!(Op.bytesLess a.toList b.toList || a.toList==b.toList)))|.geq=>k (.bool (!(Op.bytesLess a.toList b.toList)))|_=>none
def aJz {U:Type}(P:Program)(F:sd)(op:BinOp)(xt:TypeId)(x y:AC)(k:AC->Option U):Option U :=
 match x,y with
 |.int kd a,.int ke b=>match op with
  |.shl|.shr=>aC8 op kd a b k|_=>ck (aAZ kd ke) (aK4 op kd a b k)
 |.str a,.str b=>aK5 F op a b k|.bool a,.bool b=>match P.underlying xt,op with
  |some .bool,.eql=>k (.bool (a==b))|some .bool,.neq=>k (.bool (!(a==b)))|_,_=>none
 |_,_=>none
def eqFields (P:Program):List Field->Nat->List AC->List AC->Option Bool
 |[],_,[],[]=>some true
 | f :: fs, i, a :: r, b :: s => match Nat.beq f.offset i && !(f.name == "_") with
  |true=>match eqFields P fs (i+1) r s with
   |some c=>match P.underlying f.type,a,b with
    |some (.int _),.int k x,.int l y=>match aAZ k l with|true=>some ((x==y)&&c)|false=>none
    |some .string,.str x,.str y=>some ((x.toList==y.toList)&&c)|some .bool,.bool x,.bool y=>some ((x==y)&&c)|_,_,_=>none
   |none=>none
  |false=>none
 |_,_,_,_=>none
def amV (P:Program)(t:TypeId)(l m:List AC):Option Bool :=
 match P.underlying t with
 |some (.struct fs)=>match P.stoodInHeld t || P.eqGuardType P.depth t with
  |false=>eqFields P fs.toList 0 l m|true=>none
 |_=>none
def amW (st:St):AC->Option Int
 |.nil=>some 0|.ro _ _ _ xs=>some (xs.length:Int)|.own _ (some n)=>some n|.own id none=>match st.rZ id with|some b=>some (b.xs.length:Int)|none=>none
 |.str s=>some (s.size:Int)|_=>none
def axS (P:Program)(t:TypeId)(f:Nat):Option Nat :=
 match P.underlying t with
 |some (.struct fs)=>match fs[f]? with
  |some x=>match P.cellsOf x.type with
   |0=>none|_=>some x.offset
  |none=>none
 |_=>none
def au0 (P:Program)(t:TypeId)(f:Nat):Option (TypeId×Nat) :=
 match P.underlying t with
 |some (.struct fs)=>match fs[f]? with
  |some x=>some (x.type,x.offset)|none=>none
 |_=>none
def aa1 (P:Program)(t:TypeId):Option Bool :=
 match P.underlying t with
 |some (.struct _)|some (.array _ _)=>some true|some _=>some false|none=>none
def Ey (P:Program)(t:TypeId):Option TypeId :=
 match P.underlying t with
 |some (.slice e)=>some e|_=>none
def Od {U:Type}:List U->Nat->U->List U
 |[],_,_=>[]|_::l,0,v=>v::l|x::l,n+1,v=>x::Od l n v
def og {U:Type}:List U->Nat->Option U
 |[],_=>none|x::_,0=>some x|_::l,n+1=>og l n
def yu {U:Type}:Nat->List U->List U
 |0,_=>[]|_+1,[]=>[]|n+1,x::l=>x::yu n l
def yv {U:Type}:Nat->List U->List U
 |0,l=>l|_+1,[]=>[]|n+1,_::l=>yv n l
def Hs {U:Type}:List U->Nat->List U->List U
 |l,_,[]=>l|l,n,v::vs=>Hs (Od l n v) (n+1) vs
def Be (st:St):(t:Ty)->t.D->Nat×List AC->Option (t.D×(Nat×List AC))
 |.unit,x,s=>some (x,s)|.pair a b,x,s=>match Be st a x.1 s with
  |some (y,s1)=>match Be st b x.2 s1 with
   |some (z,s2)=>some ((y,z),s2)|none=>none
  |none=>none
 |.int k,x,(0,c::r)=>match im st (.int k) [c]with|some (n,_)=>some (n,(0,r))|none=>none
 |.bool,x,(0,c::r)=>match im st .bool [c]with|some (n,_)=>some (n,(0,r))|none=>none
 |.str,x,(0,c::r)=>match im st .str [c]with|some (n,_)=>some (n,(0,r))|none=>none
 |.sl e t,x,(0,c::r)=>match im st (.sl e t) [c]with|some (n,_)=>some (n,(0,r))|none=>none
 |.int _,x,(0,[])=>some (x,(0,[]))|.bool,x,(0,[])=>some (x,(0,[]))|.str,x,(0,[])=>some (x,(0,[]))|.sl _ _,x,(0,[])=>some (x,(0,[]))|.int _,x,(o+1,l)=>some (x,(o,l))|.bool,x,(o+1,l)=>some (x,(o,l))|.str,x,(o+1,l)=>some (x,(o,l))|.sl _ _,x,(o+1,l)=>some (x,(o,l))
def St.eF (st:St):AC->St
 |.own id _=>match st.rZ id with
  |some b=>{st with bl:=(id,some {b with w:=false})::st.bl}
  |none=>st
 |_=>st
def St.freeze (st:St)(l:List AC):St:=l.foldl St.eF st
def aix:List AC->Bool
 |[]=>true|.none::_=>false|_::l=>aix l
def aA1 (id:Nat):List AC->Bool
 |[]=>true|.own i _::l=> !Nat.beq i id&&aA1 id l|_::l=>aA1 id l
def cZ:List AC->Bool
 |[]=>true|.ro f _ _ _::l=>f&&cZ l|_::l=>cZ l
def p7 (st:St):List AC->Bool
 |[]=>true|.own id _::l=>(match st.rZ id with|some b=>b.f|none=>false)&&p7 st l
 |_::l=>p7 st l
def kc (s:ByteArray)(i:Int):Int:=((s.data.toList.getD i.toNat 0).toNat:Int)
def bytesOf (s:ByteArray):List Int:=s.data.toList.map fun b=>(b.toNat:Int)
def strOf (xs:List Int):ByteArray:=⟨(xs.map fun n=>UInt8.ofNat n.toNat).toArray⟩
def St.pk {U:Type}(st:St)(d:Option Tmp)(v:AV)(k:St->Option U):Option U :=
 match d with
 |none=>k st|some d=>ck (Nat.blt d st.nt) (k (st.put d v))
def St.lit (st:St)(o:Operand)(b:Bool):St :=
 match o with
 |.tmp t=>st.put t (.v (.c (.bool b)))|_=>st
section
variable (P:Program) (C:FuncId->Option Any) (F:sd) {U:Type}
def uh (t:TypeId):Option CV :=
 match P.info? t with
 |some i=>match i.zero with
  |some v=>some (LQ v)|none=>none
 |none=>none
def St.row (st:St)(d:Tmp)(b:gB)(k:St->Option U):Option U :=
 match look st.bl (d*64) with
 |some _=>none|none=>ck (Nat.blt d st.nt) (k {(st.put d (.v (.c (.own (d*64) none)))) with bl:=(d*64,some b)::st.bl})
def YI:List Nat->Nat->Bool
 |[],_=>false|x::l,n=>match Nat.beq x n with|true=>true|false=>YI l n
def jy (st:St)(t:Ty):Nat->List (Nat×Operand)->Option (List t.D)
 |_,[]=>some []|i,(j,o)::l=>match Nat.beq i j with
  |true=>match im st t (st.eZ o).cells with
   |some (x,[])=>match jy st t (i+1) l with
    |some xs=>some (x::xs)|none=>none
   |_=>none
  |false=>none
def c8 (st:St):List (Nat×Operand)->List AC
 |[]=>[]|(_,o)::l=>(st.eZ o).cells++c8 st l
def amX (t:TypeId):Option (List (Nat×Nat)) :=
 match P.underlying t with
 |some (.struct fs)=>fs.toList.mapM fun f=>(P.info? f.type).map fun i=>(f.offset,i.size)
 |_=>none
def BD (st:St)(aa2:List (Nat×Nat)):List AC->List (Nat×Operand)->Option (List AC)
 |acc,[]=>some acc|acc,(f,o)::l=>match og aa2 f with
  |some (off,size)=>match (st.eZ o).kn&&Nat.beq size (st.eZ o).cells.length&&Nat.ble (off+(st.eZ o).cells.length) acc.length with
   |true=>BD st aa2 (Hs acc off (st.eZ o).cells) l|false=>none
  |none=>none
def u9 (st:St):AC->Option (List AC×Nat)
 |.ptr b off=>match look st.bx b with|some l=>some (l,off)|none=>none
 |.LI id i off=>match st.rZ id with|some b=>some (ex b.f b.t (b.xs.getD i.toNat b.t.aG),off)|none=>none
 |.UA f t x off=>some (ex f t x,off)|_=>none
def xL (o:Option Operand)(st:St)(d:Int):Option Int :=
 match o with
 |none=>some d|some x=>match st.ac x with|.int _ n=>some n|_=>none
def kZ (st:St):List Operand->List AC
 |[]=>[]|o::l=>(st.eZ o).cells++kZ st l
def imV (st:St)(a:Ty×Bool)(c:CV):Option a.1.D :=
 match c,a.2 with
 |.agg l,true=>match im st a.1 l with
  |some (x,[])=>some x|_=>none
 |.c c,false=>match im st a.1 [c]with
  |some (x,[])=>some x|_=>none
 |_,_=>none
def im1 (st:St)(a:Ty×Bool)(o:Operand):Option a.1.D:=imV st a (st.eZ o)
def Oe (st:St):(ps:List (Ty×Bool))->List Operand->Option (Args ps)
 |[],[]=>some ()|a::l,o::os=>match im1 st a o with
  |some x=>match Oe st l os with
   |some y=>some (x,y)|none=>none
  |none=>none
 |_,_=>none
def BE (st:St):(ps:List (Ty×Bool))->List CV->Option (Args ps)
 |[],[]=>some ()|a::l,o::os=>match imV st a o with
  |some x=>match BE st l os with
   |some y=>some (x,y)|none=>none
  |none=>none
 |_,_=>none
def aW:List CV->List AC
 |[]=>[]|c::l=>c.cells++aW l
def ex1 (id:Nat)(f:Bool)(a:Ty×Bool)(x:a.1.D)(j:Nat):CV×List (Nat×Option gB) :=
 (match a.2 with|true=>.agg (exR id f a.1 x j).1|false=>.c (match (exR id f a.1 x j).1 with|[c]=>c|_=>.none),(exR id f a.1 x j).2)
def mq (id:Nat)(f:Bool):(rs:List (Ty×Bool))->Args rs->Nat->List CV×List (Nat×Option gB)
 |[],_,_=>([],[])|a::l,x,j=>((ex1 id f a x.1 j).1::(mq id f l x.2 (j+a.1.n)).1,(ex1 id f a x.1 j).2++(mq id f l x.2 (j+a.1.n)).2)
def gN:List (Nat×Option gB)->St->Bool
 |[],_=>true|(id,_)::l,st=>(match look st.bl id with|some _=>false|none=>true)&&gN l st
def fu:List (Ty×Bool)->Bool
 |[]=>true|a::l=>(a.2 || Nat.beq a.1.n 1)&&fu l
def Jt:List CV->AV
 |[v]=>.v v|l=>.UO l
def exF (f:Bool):(rs:List (Ty×Bool))->Args rs->List CV
 |[],_=>[]|a::l,x=>(match a.2 with|true=>.agg (ex f a.1 x.1)|false=>.c (match ex f a.1 x.1 with|[c]=>c|_=>.none))::exF f l x.2
def XZ (con:Con)(st:St)(d:Option Tmp)(args:List Operand)(k:St->Option U):Option U :=
 match Oe st con.ps args with
 |some x=>(con.g x).bind fun r =>
  match d with
  |none=>none|some d=>match con.m with
   |0=>ck (Nat.blt d st.nt&&fu con.rs) (k ((st.freeze (kZ st args)).put d (Jt (exF (p7 st (kZ st args)&&cZ (kZ st args)) con.rs r))))|1=>ck (Nat.blt d st.nt&&fu con.rs) (k (st.put d (Jt (exF true con.rs r))))
   |_ =>
    let q:=mq d true con.rs r 0
    ck (gN q.2 st&&Nat.blt d st.nt&&fu con.rs) (k {(st.put d (Jt q.1)) with bl:=q.2++st.bl})
 |_=>none
def iB (st:St)(m:Nat):List Nat->List AC->Bool
 |_,[]=>true|seen,.own id len::l=>match st.rZ id with
  |some b=>(b.f || Nat.beq m 0 || Nat.beq m 3)&&(match m with|2|3=>b.w&& !YI seen id&&(match len with|none=>true|some _=>false)|_=>true)&&iB st m (id::seen) l
  |none=>false
 |seen,.ro f _ _ _::l=>(match m with|2|3=>false|1=>f|_=>true)&&iB st m seen l
 |seen,_::l=>iB st m seen l
def xM:List AC->Bool
 |[]=>true|.own _ _::_=>false|_::l=>xM l
def Fx (st:St):Ty->List AC->Option (List AC)
 |.sl e _,.own id _::r=>match st.rZ id with
  |some b=>match Nat.beq b.e e with|true=>some r|false=>none
  |none=>none
 |.sl _ t,.nil::r=>match Nat.beq t.n 0 with|true=>none|false=>some r
 |.int _,_::r|.bool,_::r|.str,_::r=>some r|.unit,r=>some r|.pair a b,r=>match Fx st a r with|some r=>Fx st b r|none=>none
 |_,_=>none
def yw (st:St):List (Ty×Bool)->List CV->Bool
 |[],[]=>true|a::l,o::os=>(match Fx st a.1 o.cells with|some []=>true|_=>false)&&yw st l os
 |_,_=>false
def pmM:Bool->Nat
 |true=>2|false=>3
def im2 (st:St)(pm:PM)(a:Ty×Bool)(o:Operand):Option a.1.D:=match pm with
 |.rd=>im1 st a o|.own f=>match iB st (pmM f) [] (st.eZ o).cells&&yw st [a] [st.eZ o]with|true=>im1 st a o|false=>none
 |.box=>match st.eZ o with
  |.c (.ptr b 0)=>match look st.bx b with|some l=>imV st a (.agg l)|none=>none
  |_=>none
 |.cur=>match st.eZ o with
  |.c (.ptr b 0)=>match look st.bx b with|some l=>(match xM l with|true=>imV st a (.agg l)|false=>none)|none=>none
  |_=>none
def ky (st:St)(pm:PM):Nat->(ps:List (Ty×Bool))->List Operand->Option (Args ps)
 |0,a::l,o::os=>match im2 st pm a o with
  |some x=>match Oe st l os with|some y=>some (x,y)|none=>none
  |none=>none
 |i+1,a::l,o::os=>match im1 st a o with
  |some x=>match ky st pm i l os with|some y=>some (x,y)|none=>none
  |none=>none
 |_,_,_=>none
def iC (st:St)(pm:PM):Nat->List Operand->List AC
 |0,o::os=>(match pm with
  |.rd=>(st.eZ o).cells|.own _|.cur=>[]|.box=>match st.eZ o with|.c (.ptr b _)=>(match look st.bx b with|some l=>l|none=>[])|_=>[])++kZ st os
 |i+1,o::os=>(st.eZ o).cells++iC st pm i os|_,[]=>[]
def arC (st:St)(i:Nat)(args:List Operand):CV:=match og args i with|some o=>st.eZ o|none=>.c .none
def St.gone (st:St):List AC->St
 |[]=>st|.own id _::l=>{st.gone l with bl:=(id,none)::(st.gone l).bl}
 |_::l=>st.gone l
def ui (f:Bool):(t:Ty)->t.D->List AC->List (Nat×Option gB)×List AC
 |.pair a b,x,l=>((ui f a x.1 l).1++(ui f b x.2 (ui f a x.1 l).2).1,(ui f b x.2 (ui f a x.1 l).2).2)|.unit,_,l=>([],l)|.sl e t,x,.own id _::l=>([(id,some ⟨e,t,x,f,true⟩)],l)|_,_,_::l=>([],l)|_,_,[]=>([],[])
def m2 (m:Nat):Bool:=Nat.beq m 2
def rdM:Nat->Option Bool
 |4=>some true|5=>some false|_=>none
def au1 (f:Bool)(rs:List (Ty×Bool))(st:St)(d:Tmp)(r:Args rs)(k:St->Option U):Option U :=
 match rs,r with
 |[a],r=>match look st.bx d with
  |none=>ck (Nat.blt d st.nt&&a.2) (k {(st.put d (.v (.c (.ptr d 0)))) with bx:=(d,ex f a.1 r.1)::st.bx})
  |some _=>none
 |_,_=>none
def acP (rs qs:List (Ty×Bool))(m:Nat)(st:St)(c:CV)(d:Tmp)(r:Args rs×Args qs)(k:St->Option U):Option U :=
 let q:=mq d (m2 m) rs r.1 0
 ck ((Nat.beq m 2 || Nat.beq m 3)&&gN q.2 st&&Nat.blt d st.nt&&fu rs) (match qs,r with
  |[],_=>k {(st.put d (Jt q.1)) with bl:=q.2++(st.gone c.cells).bl}
  |[p],r=>k {(st.put d (Jt q.1)) with bl:=q.2++((ui (m2 m) p.1 r.2.1 c.cells).1++st.bl)}
  |_,_=>none)
def ama (rs qs:List (Ty×Bool))(m:Nat)(st:St)(c:CV)(d:Tmp)(r:Args rs×Args qs)(k:St->Option U):Option U :=
 match qs,r,c with
 |[p],r,.c (.ptr b _)=>match m with
  |0=>ck (Nat.blt d st.nt&&fu rs) (k {(st.put d (Jt (exF false rs r.1))) with bx:=(b,ex false p.1 r.2.1)::st.bx})
  |1=>ck (Nat.blt d st.nt&&fu rs) (k {(st.put d (Jt (exF true rs r.1))) with bx:=(b,ex false p.1 r.2.1)::st.bx})
  |m =>
   let q:=mq d (m2 m) rs r.1 0
   ck ((Nat.beq m 2 || Nat.beq m 3)&&gN q.2 st&&Nat.blt d st.nt&&fu rs) (k {(st.put d (Jt q.1)) with bl:=q.2++st.bl,bx:=(b,ex false p.1 r.2.1)::st.bx})
 |_,_,_=>none
def amb (rs qs:List (Ty×Bool))(m:Nat)(st:St)(c:CV)(d:Tmp)(r:Args rs×Args qs)(k:St->Option U):Option U :=
 match qs,r,c with
 |[p],r,.c (.ptr b _)=>match look st.bx b with
  |some l0=>match m with
   |0=>ck (Nat.blt d st.nt&&fu rs) (k {(st.put d (Jt (exF false rs r.1))) with bx:=(b,ex (cZ l0) p.1 r.2.1)::st.bx})
   |1=>ck (Nat.blt d st.nt&&fu rs) (k {(st.put d (Jt (exF (cZ l0) rs r.1))) with bx:=(b,ex (cZ l0) p.1 r.2.1)::st.bx})
   |m =>
    let q:=mq d (cZ l0) rs r.1 0
    ck (Nat.beq m 2&&gN q.2 st&&Nat.blt d st.nt&&fu rs) (k {(st.put d (Jt q.1)) with bl:=q.2++st.bl,bx:=(b,ex (cZ l0) p.1 r.2.1)::st.bx})
  |none=>none
 |_,_,_=>none
def aJA (st:St)(con:OR)(args:List Operand):List AC:=match con.pm with
 |.cur=>(match con.m with|1|2=>[]|_=>iC st .cur con.i args)
 |pm=>iC st pm con.i args
def acQ (con:OR)(st:St)(d:Option Tmp)(args:List Operand)(k:St->Option U):Option U :=
 let uB:=st.freeze (aJA st con args)
 match ky uB con.pm con.i con.ps args with
 |some x=>(con.g x).bind fun r =>
  match d with
  |none=>none|some d=>match con.pm with
   |.rd=>match rdM con.m with
    |some f=>au1 f con.rs uB d r.1 k|none=>none
   |.own _=>acP con.rs con.qs con.m uB (arC uB con.i args) d r k|.box=>ama con.rs con.qs con.m uB (arC uB con.i args) d r k|.cur=>amb con.rs con.qs con.m uB (arC uB con.i args) d r k
 |none=>none
def aGF (a:Ty×Bool):CV:=match a.2 with|true=>.agg (List.replicate a.1.n .any)|false=>.c .none
def aK6 (a:Ty×Bool)(c:CV):Bool:=match a.2,c with
 |true,.agg l=>Nat.beq l.length a.1.n&&aix l|true,.c _=>false|false,_=>true
def aGG (a b q:Ty×Bool)(st:St)(c:CV)(d:Tmp)(n:b.1.D)(y:q.1.D)(k:St->Option U):Option U :=
 ck (Nat.blt d st.nt&&fu [b]&&gN (mq d true [b] (n,()) 0).2 st) (k {(st.put d (.UO (aGF a::(mq d true [b] (n,()) 0).1))) with bl:=(mq d true [b] (n,()) 0).2++((ui true q.1 y c.cells).1++st.bl)})
def au2 (con:Sel)(st:St)(d:Option Tmp)(args:List Operand)(k:St->Option U):Option U :=
 let uB:=st.freeze (iC st (.own true) con.i args)
 match ky uB (.own true) con.i con.ps args with
 |some x=>(con.g x).bind fun r =>
  match d with
  |none=>none|some d=>br (amU con.b.1 r.2.1) (acP [con.a,con.b] [] 2 uB (arC uB con.i args) d ((r.1,(aNq con.b.1 r.2.1,())),()) k) (aGG con.a con.b con.q uB (arC uB con.i args) d (aNr con.b.1 r.2.1) r.2.2 k)
 |none=>none
def au3 (i:Idx)(st:St)(d:Option Tmp)(args:List Operand)(k:St->Option U):Option U :=
 match args with
 |[s,f]=>match st.ac f with
  |.fnp g b=>match Nat.beq g i.g with
   |true=>match look st.bx b with
    |some l=>match im st i.q l with
     |some (y,[])=>match dm st i.a.1 (st.ac s) with
      |some xs=>st.pk d (.v (.c (.int .i64 (qW (fun x=>i.p x y) xs 0)))) k
      |none=>none
     |_=>none
    |none=>none
   |false=>none
  |_=>none
 |_=>none
def aa3 (op:Bool)(st:St):Int->List Operand->Option Int
 |a,[]=>some a|a,o::l=>match st.ac o with
  |.int _ b=>aa3 op st (match op with|true=>if b>a then b else a|false=>if b<a then b else a) l
  |_=>none
def U3 (st:St)(e:TypeId)(u:Ty):AC->Option (List u.D×Bool×St)
 |.nil=>some ([],true,st)|.own id none=>match st.rZ id with
  |some b=>match b.w&&Nat.beq b.e e with
   |true=>if h:b.t.beq u=true then some (Ze (Ty.beq_eq h) b.xs,b.f,{st with bl:=(id,none)::st.bl}) else none
   |false=>none
  |none=>none
 |_=>none
def X0 (st:St)(u:Ty):AC->Option (List u.D×Bool)
 |.own id len=>match dm st u (.own id len),st.rZ id with
  |some ys,some b=>some (ys,b.f)|_,_=>none
 |.ro f e' t' ys=>match dm st u (.ro f e' t' ys) with
  |some ys=>some (ys,f)|none=>none
 |.nil=>some ([],true)|_=>none
def aA3 (e:TypeId)(u:Ty)(st:St)(d:Option Tmp)(args:List Operand)(k:St->Option U):Option U :=
 match d,args with
 |some d,[s,i,v]=>match st.ac i,st.ac v with
  |.int .i64 n,.own id2 none=>match st.rZ id2 with
   |some b=>match b.w&&Nat.beq b.e e with
    |true=>if h:b.t.beq u=true then
      match U3 st e u (st.ac s) with
      |some (xs,f,uB)=>match look uB.bl id2 with
       |some (some _)=>ck (!Nat.beq u.n 0&&decide (0<=n)&&decide (n<=(xs.length:Int))&&decide (1<=(b.xs.length:Int))&&decide (((xs.length+b.xs.length:Nat):Int)<=1073741824))
         (uB.row d ⟨e,u,xs.take n.toNat++Ze (Ty.beq_eq h) b.xs++xs.drop n.toNat,f&&(b.f || flat u),true⟩ k)
       |_=>none
      |none=>none
     else none
    |false=>none
   |none=>none
  |_,_=>none
 |_,_=>none
def aA4 (e:TypeId)(u:Ty)(st:St)(d:Option Tmp)(args:List Operand)(k:St->Option U):Option U :=
 match d,args with
 |some d,[s,i,j]=>match st.ac i,st.ac j with
  |.int .i64 n,.int .i64 m=>match U3 st e u (st.ac s) with
   |some (xs,f,uB)=>ck (!Nat.beq u.n 0&&decide (0<=n)&&decide (n<=m)&&decide (m<=(xs.length:Int)))
     (uB.row d ⟨e,u,xs.take n.toNat++xs.drop m.toNat,f,true⟩ k)
   |none=>none
  |_,_=>none
 |_,_=>none
def aDa:CV->Bool
 |.c (.int .u8 0)=>true|_=>false
def OS (st:St)(d:Tmp)(s x:AC)(t t2 e:TypeId)(u:Ty)(z:CV)(k:St->Option U):Option U :=
 match U3 st e u s with
 |some (xs,f,uB)=>match x with
  |.str w=>if h:u.beq (.int .u8)=true then
    match P.underlying t2 with
    |some .string=>ck (Nat.beq (P.cellsOf e) 1&&Nat.beq (P.bytesOf e) 1&&aDa z&&decide (((xs.length+w.size:Nat):Int)<=F.mem))
      (uB.row d ⟨e,.int .u8,Ze (Ty.beq_eq h) xs++bytesOf w,f,true⟩ k)
    |_=>none
   else none
  |x=>match X0 st u x with
   |some (ys,g) =>
    ck (Nat.beq t t2&&Nat.beq (P.cellsOf e) u.n&&Nat.beq z.cells.length u.n&&z.kn&& !Nat.beq u.n 0&& !Nat.beq (P.bytesOf e) 0&&decide (((xs.length+ys.length:Nat):Int)*(P.bytesOf e:Int)<=F.mem))
     (uB.row d ⟨e,u,xs++ys,f&&(g || flat u),true⟩ k)
   |none=>none
 |none=>none
def jP (o:Oper)(st:St)(k:St->Option U):Option U :=
 match o.op with
 |.move x|.assign x=>st.pk o.dst (st.ev x) k|.pick c a b=>match st.ac c with
  |.bool v=>br v ((st.lit c true).pk o.dst (st.ev a) k) ((st.lit c false).pk o.dst (st.ev b) k)|_=>none
 |.box t x=>match o.dst with
  |some d=>match YI st.rob d with
   |true=>match auZ P 20 t with
    |some u=>match im st u (st.eZ x).cells with
     |some (y,[])=>ck (Nat.blt d st.nt&&(st.eZ x).kn&&p7 st (st.eZ x).cells) (k ((st.freeze (st.eZ x).cells).put d (.v (.c (.UA (cZ (st.eZ x).cells) u y 0)))))|_=>none
    |none=>none
   |false=>match look st.bx d with
    |none=>ck (Nat.blt d st.nt&&(st.eZ x).kn) (k {(st.put d (.v (.c (.ptr d 0)))) with bx:=(d,(st.eZ x).cells)::st.bx})
    |some _=>none
  |none=>none
 |.alloc t=>match o.dst with
  |some d=>match look st.bx d with
   |none=>match uh P t with
    |some z=>ck (Nat.blt d st.nt&&z.kn) (k {(st.put d (.v (.c (.ptr d 0)))) with bx:=(d,z.cells)::st.bx})
    |none=>none
   |some _=>none
  |none=>none
 |.build t parts=>match uh P t,amX P t with
  |some z,some ps=>match z.kn,BD st ps z.cells parts.toList with
   |true,some l=>st.pk o.dst (.v (.agg l)) k|_,_=>none
  |_,_=>none
 |.buildSlice t len parts=>match o.dst,Ey P t with
  |some d,some e=>match auZ P 20 e with
   |some u=>match jy st u 0 parts.toList with
    |some xs=>match Nat.beq parts.toList.length len&&p7 st (c8 st parts.toList)&&(Nat.beq (P.cellsOf e) u.n&& !Nat.beq u.n 0&&Nat.ble (len*u.n) 16777216&&(uh P e).isSome) with
     |true=>(st.freeze (c8 st parts.toList)).row d ⟨e,u,xs,cZ (c8 st parts.toList),true⟩ k|false=>none
    |none=>none
   |none=>none
  |_,_=>none
 |.load t a=>match u9 st (st.ac a) with
  |some (l,off) =>
   let q:=yu (P.cellsOf t) (yv off l)
   match Nat.beq q.length (P.cellsOf t) with
   |true=>match aa1 P t with
    |some true=>st.pk o.dst (.v (.agg q)) k|some false=>match q with
     |[x]=>st.pk o.dst (.v (.c x)) k|_=>none
    |none=>none
   |false=>none
  |none=>none
 |.store t a x=>match (st.eZ x).kn&&aix (st.eZ x).cells&&Nat.beq (P.cellsOf t) (st.eZ x).cells.length&&(P.info? t).isSome with
  |true=>match st.ac a with
   |.ptr b off=>match look st.bx b with
    |some l=>match Nat.ble (off+(st.eZ x).cells.length) l.length with
     |true=>({st with bx:=(b,Hs l off (st.eZ x).cells)::st.bx}).pk o.dst (.UO []) k
     |false=>none
    |none=>none
   |.LI id i off=>match st.rZ id with
    |some b=>match b.w&&p7 st (st.eZ x).cells&&aA1 id (st.eZ x).cells with
     |true=>match Be st b.t (b.xs.getD i.toNat b.t.aG) (off,(st.eZ x).cells) with
      |some (y,(0,[])) =>
       let uB:=st.freeze (st.eZ x).cells
       ({uB with bl:=(id,some {b with xs:=b.xs.set i.toNat y,f:=b.f&&cZ (st.eZ x).cells})::uB.bl}).pk o.dst (.UO []) k
      |_=>none
     |false=>none
    |none=>none
   |_=>none
  |false=>none
 |.nilCheck x=>match st.ac x with
  |.ptr b off=>st.pk o.dst (.v (.c (.ptr b off))) k|_=>none
 |.binOp op xt x y _=>match st.eZ x,st.eZ y with
  |.c a,.c b=>aJz P F op xt a b fun r=>st.pk o.dst (.v (.c r)) k
  |.agg l,.agg m=>match op,amV P xt l m with
   |.eql,some c=>st.pk o.dst (.v (.c (.bool c))) k|.neq,some c=>st.pk o.dst (.v (.c (.bool (!c)))) k|_,_=>none
  |_,_=>none
 |.unOp op _ x=>match op,st.ac x with
  |.not,.bool b=>st.pk o.dst (.v (.c (.bool (!b)))) k|.neg,.int kd n=>st.pk o.dst (.v (.c (.int kd (kd.wrap (0-n))))) k|_,_=>none
 |.convert src dst x=>match P.underlying src,P.underlying dst,st.ac x with
  |some (.int _),some (.int kd),.int _ n=>st.pk o.dst (.v (.c (.int kd (kd.wrap n)))) k|some .string,some .string,.str s=>st.pk o.dst (.v (.c (.str s))) k|some .string,some (.slice e),.str s=>match P.underlying e with
   |some (.int .u8)=>ck (decide ((s.size:Int)<=F.mem)) (st.pk o.dst (.v (.c (.ro true e (.int .u8) (bytesOf s)))) k)|_=>none
  |some (.slice e),some .string,c=>match P.underlying e,dm st (.int .u8) c with
   |some (.int .u8),some xs=>st.pk o.dst (.v (.c (.str (strOf xs)))) k|_,_=>none
  |_,_,_=>none
 |.makeSlice t a b=>match o.dst,Ey P t,st.ac a,st.ac b with
  |some d,some e,.int .i64 n,.int .i64 m=>match auZ P 20 e,uh P e with
   |some u,some z=>match im st u z.cells with
    |some (x,[])=>ck (z.kn&&(Nat.beq (P.cellsOf e) u.n&& !Nat.beq u.n 0&& !Nat.beq (P.bytesOf e) 0)&&decide (0<=n)&&n==m&&decide (n*(P.bytesOf e:Int)<=F.mem))
      (st.row d ⟨e,u,List.replicate n.toNat x,true,true⟩ k)
    |_=>none
   |_,_=>none
  |_,_,_,_=>none
 |.slice t x lo hi none=>match P.underlying t with
  |some .string=>match st.ac x with
   |.str s=>match xL lo st 0,xL hi st (s.size:Int) with
    |some l,some h=>ck (decide (0<=l)&&decide (l<=h)&&decide (h<=(s.size:Int))) (st.pk o.dst (.v (.c (.str (s.extract l.toNat h.toNat)))) k)|_,_=>none
   |_=>none
  |some (.slice e')=>match st.ac x with
   |.ro f e u xs=>match xL lo st 0,xL hi st (xs.length:Int) with
    |some l,some h=>ck (Nat.beq (P.cellsOf e') u.n&& !Nat.beq u.n 0&&(decide (0<=l)&&decide (l<=h)&&decide (h<=(xs.length:Int)))) (st.pk o.dst (.v (.c (.ro f e u ((xs.take h.toNat).drop l.toNat)))) k)|_,_=>none
   |.own id none=>match st.rZ id,lo with
    |some b,none=>match xL hi st (b.xs.length:Int) with
     |some h=>ck (Nat.beq (P.cellsOf e') b.t.n&&(decide (0<=h)&&decide (h<=(b.xs.length:Int)))) (st.pk o.dst (.v (.c (.own id (some h)))) k)|none=>none
    |some b,some lo=>match xL (some lo) st 0,xL hi st (b.xs.length:Int) with
     |some l,some h=>ck (Nat.beq (P.cellsOf e') b.t.n&&(decide (0<=l)&&decide (l<=h)&&decide (h<=(b.xs.length:Int))))
       (({st with bl:=(id,some {b with w:=false})::st.bl}).pk o.dst (.v (.c (.ro b.f b.e b.t ((b.xs.take h.toNat).drop l.toNat)))) k)
     |_,_=>none
    |none,_=>none
   |_=>none
  |_=>none
 |.fieldAddr t x f=>match axS P t f with
  |some q=>match st.ac x with
   |.ptr b off=>st.pk o.dst (.v (.c (.ptr b (off+q)))) k|.LI id i off=>match st.rZ id with
    |some _=>st.pk o.dst (.v (.c (.LI id i (off+q)))) k|none=>none
   |.UA fl u y off=>st.pk o.dst (.v (.c (.UA fl u y (off+q)))) k|_=>none
  |none=>none
 |.indexAddr t x i=>match st.ac i with
  |.int _ n=>match P.underlying t with
   |some (.slice e)=>match st.ac x with
    |.own id len=>match st.rZ id with
     |some b=>match amW st (.own id len) with
      |some m=>ck (Nat.beq (P.cellsOf e) b.t.n&&(decide (0<=n)&&decide (n<m))) (st.pk o.dst (.v (.c (.LI id n 0))) k)|none=>none
     |none=>none
    |.ro f _ u xs=>ck (Nat.beq (P.cellsOf e) u.n&& !Nat.beq u.n 0&&(decide (0<=n)&&decide (n<(xs.length:Int)))) (st.pk o.dst (.v (.c (.UA f u (xs.getD n.toNat u.aG) 0))) k)|_=>none
   |some (.array m e)=>match st.ac x with
    |.ptr b off=>ck (!Nat.beq (P.cellsOf e) 0&&(decide (0<=n)&&decide (n<(m:Int)))) (st.pk o.dst (.v (.c (.ptr b (off+n.toNat*P.cellsOf e)))) k)|_=>none
   |_=>none
  |_=>none
 |.index t x i=>match P.underlying t,st.ac x,st.ac i with
  |some .string,.str s,.int _ n=>ck (decide (0<=n)&&decide (n<(s.size:Int))) (st.pk o.dst (.v (.c (.int .u8 (kc s n)))) k)|_,_,_=>none
 |.field t x f=>match au0 P t f,st.eZ x with
  |some (t,off),.agg l =>
   let q:=yu (P.cellsOf t) (yv off l)
   match Nat.beq q.length (P.cellsOf t) with
   |true=>match aa1 P t with
    |some true=>st.pk o.dst (.v (.agg q)) k|some false=>match q with
     |[x]=>st.pk o.dst (.v (.c x)) k|_=>none
    |none=>none
   |false=>none
  |_,_=>none
 |.extract x i=>match st.ev x with
  |.UO l=>match og l i with
   |some v=>st.pk o.dst (.v v) k|none=>none
  |_=>none
 |.call {callee:=.value (.func f),args,..}=>match C f with
  |some (.one con)=>XZ con st o.dst args.toList k|some (.two con)=>acQ con st o.dst args.toList k|some (.sel con)=>au2 con st o.dst args.toList k|some (.idx i)=>au3 i st o.dst args.toList k|some (.ins e u)=>aA3 e u st o.dst args.toList k|some (.del e u)=>aA4 e u st o.dst args.toList k|none=>none
 |.call {callee:=.builtin .len,args,argTypes}=>match args.toList,argTypes.toList with
  |[x],[t]=>match P.underlying t,amW st (st.ac x) with
   |some .string,some n=>match st.ac x with|.str _=>st.pk o.dst (.v (.c (.int .i64 n))) k|_=>none
   |some (.slice _),some n=>match st.ac x with|.str _=>none|_=>st.pk o.dst (.v (.c (.int .i64 n))) k
   |_,_=>none
  |_,_=>none
 |.call {callee:=.builtin .max,args,..}=>match args.toList with
  |x::l=>match st.ac x with
   |.int kd a=>match aa3 true st a l with
    |some r=>st.pk o.dst (.v (.c (.int kd r))) k|none=>none
   |_=>none
  |_=>none
 |.call {callee:=.builtin .min,args,..}=>match args.toList with
  |x::l=>match st.ac x with
   |.int kd a=>match aa3 false st a l with
    |some r=>st.pk o.dst (.v (.c (.int kd r))) k|none=>none
   |_=>none
  |_=>none
 |.call {callee:=.builtin .append,args,argTypes}=>match o.dst,args.toList,argTypes.toList with
  |some d,[s,x],[t,t2]=>match Ey P t with
   |some e=>match auZ P 20 e,uh P e with
    |some u,some z=>OS P F st d (st.ac s) (st.ac x) t t2 e u z k|_,_=>none
   |none=>none
  |_,_,_=>none
 |.makeFunc (.func g) first arD=>match first.toList,arD.toList with
  |[],[x]=>match st.ac x with
   |.ptr b 0=>st.pk o.dst (.v (.c (.fnp g b))) k|_=>none
  |_,_=>none
 |_=>none
def yx (all:List Oper):List Oper->St->(St->Option U)->Option U
 |[],st,k=>k st|o::l,st,k=>match o.guard with
  |none=>jP P C F o st fun st=>yx all l st k
  |some (j,U4)=>match og all j with
   |some oj=>match oj.dst with
    |some dj=>match st.get dj with
     |.v (.c (.bool b)) =>
      let yes (st:St):Option U:=jP P C F o st fun st=>yx all l st k
      let no (st:St):Option U:=st.pk o.dst (.UO []) fun st=>yx all l st k
      br b (let st:=st.put dj (.v (.c (.bool true)));match U4 with|true=>yes st|false=>no st)
         (let st:=st.put dj (.v (.c (.bool false)));match U4 with|true=>no st|false=>yes st)
     |.UO []=>st.pk o.dst (.UO []) fun st=>yx all l st k
     |_=>none
    |none=>none
   |none=>none
def acR (all:List Oper)(o:Oper)(st:St)(k:St->Option U):Option U :=
 match o.guard with
 |none=>jP P C F o st k|some (j,U4)=>match og all j with
  |some oj=>match oj.dst with
   |some dj=>match st.get dj with
    |.v (.c (.bool b)) =>
     br b (let st:=st.put dj (.v (.c (.bool true)));match U4 with|true=>jP P C F o st k|false=>st.pk o.dst (.UO []) k)
        (let st:=st.put dj (.v (.c (.bool false)));match U4 with|true=>st.pk o.dst (.UO []) k|false=>jP P C F o st k)
    |.UO []=>st.pk o.dst (.UO []) k|_=>none
   |none=>none
  |none=>none
def p8 (o:Oper):Bool:=match o.op with
 |.move _|.assign _|.pick _ _ _|.load _ _|.nilCheck _|.binOp _ _ _ _ _|.unOp _ _ _|.fieldAddr _ _ _|.indexAddr _ _ _|.index _ _ _|.field _ _ _|.extract _ _|.build _ _|.slice _ _ _ _ _=>true|.convert _ dst _=>match P.underlying dst with|some (.slice _)=>false|_=>true
 |.call {callee:=.builtin .len,..}|.call {callee:=.builtin .min,..}|.call {callee:=.builtin .max,..}=>true|_=>false
def aA5 (o:Oper):Bool:=match o.op with
 |.call {callee:=.value (.func f),..}=>match C f with|some (.one _)=>true|_=>false
 |_=>false
def dt (o:Oper):Bool:=match o.guard,o.dst,o.op with
 |none,some _,.alloc t=>match uh P t with|some z=>z.kn|none=>false
 |none,some _,.buildSlice t len parts=>match Ey P t with
  |some e=>match auZ P 20 e with
   |some u=>(flat u || Nat.beq len 0)&&Nat.beq parts.toList.length len&&(Nat.beq (P.cellsOf e) u.n&& !Nat.beq u.n 0&&Nat.ble (len*u.n) 16777216&&(uh P e).isSome)|none=>false
  |none=>false
 |_,_,_=>false
def au4 (o:Oper):Bool:=match o.op with
 |.alloc _|.box _ _|.buildSlice _ _ _=>true|_=>false
def atb:Option Tmp->Option Tmp->Bool
 |some a,some b=>Nat.beq a b|_,_=>false
def Ht (o:Oper):Bool:=dt P o&&match o.op with|.buildSlice _ 0 _=>true|_=>false
def aa4 (o:Oper):Option Tmp:=match o.op with
 |.call {callee:=.builtin .append,args,argTypes}=>match args.toList,argTypes.toList with
  |[.tmp t,_],[a,b]=>match Nat.beq a b with|true=>some t|false=>none
  |_,_=>none
 |_=>none
def OT (ops:Array Oper)(o:Oper):Bool:=match aa4 o with
 |some t=>(List.range ops.size).any fun x=>match ops[x]? with
  |some ox=>Ht P ox&&atb ox.dst (some t)&&o.after.any fun e=>Region.binds .any e&&Nat.beq e.on x
  |none=>false
 |none=>false
def qX (ops:Array Oper)(o:Oper):Bool:=p8 P o || dt P o || aA5 C o || au4 o || OT P ops o
def aPu (o:Oper):Bool:=match o.op with
 |.load _ _|.convert _ _ _=>true|_=>false
def Ju (st:St)(o:Oper):Bool:=match o.op with
 |.load _ a=>match st.ac a with|.UA _ _ _ _=>true|_=>false
 |.convert _ _ _=>false|_=>true
def aDb (ops:List Oper)(st:St)(o:Oper):Bool:=match o.guard with
 |none=>false|some (j,U4)=>match og ops j with
  |some oj=>match oj.dst with
   |some dj=>match st.get dj,U4 with
    |.v (.c (.bool true)),false=>true|.v (.c (.bool false)),true=>true|.UO [],_=>true|_,_=>false
   |none=>false
  |none=>false
def St.drop (st:St)(t:Tmp):St:={st with tm:=st.tm.filter fun p=> !Nat.beq p.1 t}
def uj (ops:Array Oper)(listed:Array Bool):List Nat->St->St
 |[],st=>st|i::l,st=>match ops[i]? with
  |some o=>match dt P o&& !listed.getD i true,o.dst with
   |true,some d=>(uj ops listed l st).drop d|_,_=>uj ops listed l st
  |none=>uj ops listed l st
def acS (o:Oper)(t:Tmp):Bool:=match o.op with
 |.buildSlice _ _ parts=>parts.toList.any fun p=>match p.2 with|.tmp s=>Nat.beq s t|_=>false
 |_=>false
def LR (st:St)(o:Oper):Bool:=match o.op with
 |.buildSlice t _ parts=>match Ey P t with
  |some e=>match auZ P 20 e with
   |some u=>(jy st u 0 parts.toList).isSome|none=>false
  |none=>false
 |_=>true
def waits (ops:Array Oper)(listed:Array Bool)(o:Oper):Bool:=o.after.any fun e=>Region.binds .any e&&match ops[e.on]? with|some oe=> !dt P oe&& !listed.getD e.on true|none=>false
def axT (ops:Array Oper)(listed:Array Bool)(st:St):List Nat->Bool
 |[]=>true|y::l=>(match ops[y]? with|some o=> !dt P o || listed.getD y true || waits P ops listed o || LR P st o|none=>true)&&axT ops listed st l
def amY (ops:Array Oper):Bool:=(List.range ops.size).all fun x=>match ops[x]? with
 |some o=> !dt P o || (List.range ops.size).all fun y=>match ops[y]? with
  |some o'=>match o'.dst with
   |some t=> !acS o t || (!dt P o'&&o.after.any fun e=>Region.binds .any e&&Nat.beq e.on y)
   |none=>true
  |none=>true
 |none=>true
def se (ops:Array Oper)(nt:Nat):Bool:=amY P ops&&(List.range ops.size).all fun x=>match ops[x]? with
 |some o=> !dt P o || ((match o.dst with|some d=>Nat.blt d nt|none=>false)&&(List.range ops.size).all fun y=>Nat.beq y x || match ops[y]? with|some o'=> !atb o'.dst o.dst|none=>true)
 |none=>true
def pe (ops:Array Oper)(listed:Array Bool)(i:Nat):Nat->Oper->Bool
 |0,_=>false|n+1,o=>o.after.any fun e=>Region.binds .any e&&(e.on==i || (!listed.getD e.on true&&match ops[e.on]? with|some oe=>pe ops listed i n oe|none=>false))
def afS (o:Oper):Option Tmp:=match o.op with
 |.call {callee:=.value (.func f),args,..}=>match C f with
  |some (.two con)=>match con.pm with
   |.box|.cur=>match og args.toList con.i with|some (.tmp t)=>some t|_=>none
   |_=>none
  |_=>none
 |_=>none
def aA6 (ops:Array Oper)(listed:Array Bool)(t:Tmp):Bool:=(List.range ops.size).all fun j=>match ops[j]? with
 |some oj=>listed.getD j true || !atb oj.dst (some t)|none=>true
def au5 (ops:Array Oper)(listed:Array Bool)(st:St)(i:Nat)(o:Oper):Bool:=match o.op with
 |.load _ x=>match st.ac x with
  |.ptr b _=>(List.range ops.size).all fun c=>match ops[c]? with
   |some oc=>qX P C ops oc || listed.getD c true || pe ops listed i 3 oc || (match afS C oc with
    |some t=>(match st.get t with|.v (.c (.ptr bb 0))=> !Nat.beq bb b|_=>false)&&aA6 ops listed t
    |none=>false)
   |none=>true
  |_=>false
 |_=>false
def acT (ops:Array Oper)(listed:Array Bool)(i:Nat):Bool :=
 (List.range ops.size).all fun c=>match ops[c]? with
  |some o=>qX P C ops o || listed.getD c true || pe ops listed i 3 o|none=>true
def U5 (ops:Array Oper)(listed:Array Bool)(st:St):List Nat->Option (Nat×Oper)
 |[]=>none|i::l=>match ops[i]? with
  |some o=>match p8 P o&&Region.free .any ops listed i&&(Ju st o || acT P C ops listed i || aDb ops.toList st o || au5 P C ops listed st i o) with
   |true=>some (i,o)|false=>U5 ops listed st l
  |none=>none
def yy (ops:Array Oper)(x:Nat):List Nat->Array Bool->Array Bool
 |[],l=>l|i::is,l=>match ops[i]? with
  |some o=>match dt P o&& !Nat.beq i x with
   |true=>yy ops x is (l.setIfInBounds i true)|false=>yy ops x is l
  |none=>yy ops x is l
def aGH (x:Nat):List Nat->Bool
 |[]=>true|j::l=>Nat.beq j x&&aGH x l
def U6 (ops:Array Oper)(listed:Array Bool)(st:St):List Nat->Option (Nat×Oper)
 |[]=>none|i::l=>match ops[i]? with
  |some o=>match aGH i (Region.ready .any ops (yy P ops i (List.range ops.size) listed))&&axT P ops listed st (List.range ops.size) with
   |true=>some (i,o)|false=>U6 ops listed st l
  |none=>none
def I4 (ops:Array Oper)(listed:Array Bool):List Nat->Bool
 |[]=>true|i::l=>(match ops[i]? with|some o=> !dt P o || listed.getD i true|none=>true)&&I4 ops listed l
def Hu (ops:Array Oper):Nat->Array Bool->St->(St->Option U)->Option U
 |0,listed,st,k=>match Region.ready .any ops listed with
  |[]=>ck (I4 P ops listed (List.range ops.size)) (k st)|_=>none
 |n+1,listed,st,k=>match Region.ready .any ops listed with
  |[]=>ck (I4 P ops listed (List.range ops.size)) (k st)|i::r=>let st:=uj P ops listed (List.range ops.size) st
   match U5 P C ops listed st (i::r) with
   |some (j,o)=>acR P C F ops.toList o st fun st=>Hu ops n (listed.setIfInBounds j true) st k
   |none=>match U6 P ops listed st (i::r) with
    |some (j,o)=>acR P C F ops.toList o st fun st=>Hu ops n (listed.setIfInBounds j true) st k
    |none=>none
inductive Ex where
 |norm|exit (id:Nat)|ret
structure Hint where
 live:List Tmp
 mat:List (Tmp×TypeId×Ty):=[]
 roT:List Tmp:=[]
 wk:List Tmp:=[]
 yz:List (Nat×Nat×TypeId×Ty):=[]
 xl:List Tmp:=[]
 rl:List Tmp:=[]
 roB:List (Nat×Nat):=[]
 aLP:Bool:=false
def aNt (env:List Nat)(c:AC):List Nat:=match c with
 |.own id _|.LI id _ _=>match YI env id with|true=>env|false=>env++[id]
 |_=>env
def aGI (env:List Nat)(l:List AC):List Nat:=l.foldl aNt env
def AV.cells:AV->List AC
 |.v x=>x.cells|.UO l=>l.flatMap CV.cells
def idxOf:List Nat->Nat->Nat->Option Nat
 |[],_,_=>none|x::l,n,i=>match Nat.beq x n with|true=>some i|false=>idxOf l n (i+1)
def akb (env bs:List Nat):AC->AC
 |.own id len=>match idxOf env id 0 with|some i=>.own (1000000+i) len|none=>.none
 |.LI id i o=>match idxOf env id 0 with|some j=>.LI (1000000+j) i o|none=>.none
 |.ptr b o=>match YI bs b with|true=>.ptr b o|false=>.none
 |.fnp _ _=>.none|c=>c
def aJB (env bs:List Nat):CV->CV
 |.c x=>.c (akb env bs x)|.agg l=>.agg (l.map (akb env bs))
def aJC (env bs:List Nat):AV->AV
 |.v x=>.v (aJB env bs x)|.UO l=>.UO (l.map (aJB env bs))
def au6 (st:St)(t:Tmp)(e:TypeId)(u:Ty):St:=match st.get t,look st.bl (2000000+t),Nat.beq u.n 0 with
 |.v (.c .nil),none,false=>{(st.put t (.v (.c (.own (2000000+t) none)))) with bl:=(2000000+t,some ⟨e,u,[],true,true⟩)::st.bl}
 |_,_,_=>st
def amc (st:St)(b j:Nat)(e:TypeId)(u:Ty):St:=match look st.bx b,look st.bl (3000000+100*b+j),Nat.beq u.n 0 with
 |some l,none,false=>match og l j with
  |some .nil=>{st with bx:=(b,Od l j (.own (3000000+100*b+j) none))::st.bx,bl:=(3000000+100*b+j,some ⟨e,u,[],true,true⟩)::st.bl}
  |_=>st
 |_,_,_=>st
def aDc (st:St)(t:Tmp):St:=match st.get t with
 |.v (.c (.own id len))=>match st.rZ id with
  |some b=>(st.eF (.own id len)).put t (.v (.c (.ro b.f b.e b.t (Js b.xs len))))|none=>st
 |_=>st
def au7 (st:St)(b j:Nat):St:=match look st.bx b with
 |some l=>match og l j with
  |some (.own id len)=>match st.rZ id with
   |some bk=>{(st.eF (.own id len)) with bx:=(b,Od l j (.ro false bk.e bk.t (Js bk.xs len)))::(st.eF (.own id len)).bx}
   |none=>st
  |some (.ro _ e t xs)=>{st with bx:=(b,Od l j (.ro false e t xs))::st.bx}
  |_=>st
 |none=>st
def aGJ (st:St):Bool->St
 |true=>{st with sp:=.v (.c .none)}
 |false=>st
def au8 (st:St)(t:Tmp):St:=match st.get t with
 |.v (.c (.ro _ e u xs))=>st.put t (.v (.c (.ro false e u xs)))|.v (.c (.own id len))=>match st.rZ id with
  |some b=>{st with bl:=(id,some {b with f:=false})::st.bl}
  |none=>st
 |_=>st
def U7:List AV->List Nat
 |[]=>[]|.v (.c (.ptr b _))::l=>match YI (U7 l) b with|true=>U7 l|false=>b::U7 l
 |_::l=>U7 l
def aJD (tm:List (Nat×AV))(bx:List (Nat×List AC)):List Nat :=
 bx.foldl (fun env b=>aGI env b.2) (tm.foldl (fun env x=>aGI env x.2.cells) [])
def aA7 (st:St)(b:Nat):List AC:=match look st.bx b with|some l=>l|none=>[]
def U8 (st:St)(env:List Nat):Nat->List Nat->List (Nat×Option gB)
 |_,[]=>[]|i,id::l=>(1000000+i,match idxOf env id 0 with
  |some j=>match Nat.beq j i with|true=>st.rZ id|false=>none
  |none=>none)::U8 st env (i+1) l
def aNu (st:St)(tm:List (Nat×AV))(bs:List Nat)(env:List Nat):St :=
 {nt:=st.nt,tm:=tm.map fun x=>(x.1,aJC env bs x.2),bx:=bs.map fun b=>(b,(aA7 st b).map (akb env bs)),bl:=U8 st env 0 env,sp:=aJC env bs st.sp,rob:=st.rob}
def keep (live:List Tmp)(st:St):St :=
 let tm:=live.map fun t=>(t,st.get t)
 let bs:=U7 (st.sp::tm.map (·.2))
 aNu st tm bs (aJD ((0,st.sp)::tm) (bs.map fun b=>(b,aA7 st b)))
def aGK (h:Hint)(st:St):St :=
 keep h.live (h.wk.foldl au8 (h.roT.foldl aDc (h.roB.foldl (fun st (b,j)=>au7 st b j) (h.yz.foldl (fun st (b,j,e,u)=>amc st b j e u) (h.mat.foldl (fun st (t,e,u)=>au6 st t e u) (aGJ st h.aLP))))))
def aLQ (h:Hint)(e:Ex)(st:St):St:=match e with
 |.norm=>st|.exit _=>keep h.xl st|.ret=>keep h.rl st
def au9 (h:Option Hint)(st:St):St:=match h with|some h=>aGK h st|none=>st
def amZ (h:Option Hint)(e:Ex)(st:St):St:=match h with|some h=>aLQ h e st|none=>st
def aJE (body:St->(Ex->St->Option U)->Option U)(h:Option Hint)(k:Ex->St->Option U):Nat->St->Option U
 |0,_=>none|n+1,st=>body st fun e dV=>match e with
  |.norm=>aJE body h k n (au9 h dV)|.exit j=>k (.exit j) (amZ h (.exit j) dV)|.ret=>k .ret (amZ h .ret dV)
def sf:Code->Nat
 |.region id _ _=>id|.seq a _=>sf a|.block _ b=>sf b|_=>0
def k9 (o:Oper):Bool:=match o.op with
 |.move _|.assign _|.pick _ _ _|.load _ _|.nilCheck _|.binOp _ _ _ _ _|.unOp _ _ _|.fieldAddr _ _ _|.indexAddr _ _ _|.index _ _ _|.field _ _ _|.extract _ _|.build _ _|.slice _ _ _ _ _=>true|.convert _ dst _=>match P.underlying dst with|some (.slice _)=>false|_=>true
 |.call {callee:=.builtin .len,..}|.call {callee:=.builtin .min,..}|.call {callee:=.builtin .max,..}=>true|.call {callee:=.value (.func f),..}=>match C f with|some (.one con)=>Nat.beq con.m 1&&con.rs.all fun a=>flat a.1|_=>false
 |_=>false
def aA8 (ops:Array Oper):Bool:=P.follows .mixedOrders&&Region.lexB .any ops&&ops.toList.all fun o=>k9 P C o
def ava (d:Nat)(c:Nat->AC):AC->AC
 |.ptr b o=>match Nat.beq b d with|true=>c o|false=>.ptr b o
 |.fnp g b=>match Nat.beq b d with|true=>.none|false=>.fnp g b
 |x=>x
def aGL (d:Nat)(c:Nat->AC):CV->CV
 |.c x=>.c (ava d c x)|.agg l=>.agg (l.map (ava d c))
def aDd (d:Nat)(c:Nat->AC):AV->AV
 |.v x=>.v (aGL d c x)|.UO l=>.UO (l.map (aGL d c))
def St.atc (st:St)(d:Nat)(c:Nat->AC):St :=
 {st with tm:=st.tm.map fun p=>(p.1,aDd d c p.2),bx:=(st.bx.filter fun p=> !Nat.beq p.1 d).map fun p=>(p.1,p.2.map (ava d c)),sp:=aDd d c st.sp}
def aGM (d:Nat)(u:Ty)(st:St)(k:St->Option U):Option U:=match look st.bx d with
 |some cells=>match im st u cells with
  |some (y,[])=>ck (p7 st cells) (k ((st.freeze cells).atc d fun o=>.UA (cZ cells) u y o))
  |_=>none
 |none=>none
def aJF:List (Tmp×TypeId×Ty)->St->(St->Option U)->Option U
 |[],st,k=>k st|(d,_,u)::l,st,k=>aGM d u st fun st=>aJF l st k
def aNv (H:Nat->Option Hint)(id:Nat):List (Tmp×TypeId×Ty):=match H (900000+id) with|some h=>h.mat|none=>[]
def run (H:Nat->Option Hint):Code->St->(Ex->St->Option U)->Option U
 |.skip,st,k=>k .norm st|.region id ops aJG,st,k=>match (!aJG || aA8 P C ops) with
  |true=>yx P C F ops.toList ops.toList st fun st=>k .norm st
  |false=>match P.follows .mixedOrders&&Region.noSelect ops&&se P ops st.nt with
   |true=>aJF (aNv H id) st fun st=>Hu P C F ops ops.size (Array.replicate ops.size false) st fun st=>k .norm st
   |false=>none
 |.seq a b,st,k=>run H a st fun e st=>match e with
  |.norm=>run H b st k|e=>k e st
 |.cond c a b,st,k=>match st.ac c with
  |.bool v=>br v (run H a (st.lit c true) k) (run H b (st.lit c false) k)|_=>none
 |.block id b,st,k=>run H b st fun e st=>match e with
  |.exit j=>match Nat.beq j id with|true=>k .norm st|false=>k (.exit j) st
  |e=>k e st
 |.loop b,st,k=>aJE (fun st k=>run H b st k) (H (sf b)) k F.n (au9 (H (sf b)) st)
 |.exit id,st,k=>k (.exit id) st|.ret,st,k=>k .ret st|_,_,_=>none
def aNw (ps:List (Ty×Bool))(x:Args ps):List CV:=exF false ps x
def axU:Nat->List CV->List (Nat×AV)
 |_,[]=>[]|i,v::l=>(i,.v v)::axU (i+1) l
def aGN (st:St):ResultVar->Option CV
 |.tmp t=>some (st.eZ (.tmp t))|.cell a t=>match u9 st (st.ac (.tmp a)) with
  |some (l,off) =>
   let q:=yu (P.cellsOf t) (yv off l)
   match Nat.beq q.length (P.cellsOf t) with
   |true=>match aa1 P t with
    |some true=>some (.agg q)|some false=>match q with
     |[x]=>some (.c x)|_=>none
    |none=>none
   |false=>none
  |none=>none
def Rn (st:St):List ResultVar->Option (List CV)
 |[]=>some []|r::l=>match aGN P st r with
  |some c=>match Rn st l with
   |some cs=>some (c::cs)|none=>none
  |none=>none
def fin (fn:Func)(rs:List (Ty×Bool))(m:Nat):Ex->St->Option (Args rs):=fun e st =>
 match e with
 |.exit _=>none|_=>match Rn P st fn.results.toList with
  |some l=>match iB st m [] (aW l)&&(match m with|2=>yw st rs l|_=>true) with
   |true=>BE st rs l|false=>none
  |none=>none
def oh (fn : Func) : Code := match fn.body with | some c => c | none => .refuse ""
def atd (H:Nat->Option Hint):List Nat:=match H 999999 with|some h=>h.live|none=>[]
def aLR (H:Nat->Option Hint)(fn:Func)(ps rs:List (Ty×Bool))(m:Nat)(x:Args ps):Option (Args rs) :=
 ck (Nat.ble ps.length fn.ntmps&&fu ps&&fu rs&&Nat.ble m 2) (run P C F H (oh fn) {nt:=fn.ntmps,tm:=axU 0 (aNw ps x),bx:=[],bl:=[],rob:=atd H} (fin P fn rs m))
def aLS (pm:PM)(a:Ty×Bool)(x:a.1.D):CV×List (Nat×Option gB)×List (Nat×List AC):=match pm with
 |.rd=>(match a.2 with|true=>.agg (ex false a.1 x)|false=>.c (match ex false a.1 x with|[c]=>c|_=>.none),[],[])
 |.own f=>((ex1 62500 f a x 0).1,(ex1 62500 f a x 0).2,[])|.box=>(.c (.ptr 4000000 0),[],[(4000000,ex false a.1 x)])|.cur=>(.c (.ptr 4000000 0),[],[(4000000,ex true a.1 x)])
def exP (pm:PM):Nat->(ps:List (Ty×Bool))->Args ps->List CV×(CV×List (Nat×Option gB)×List (Nat×List AC))
 |0,a::l,x=>((aLS pm a x.1).1::exF false l x.2,aLS pm a x.1)|i+1,a::l,x=>((match a.2 with|true=>.agg (ex false a.1 x.1)|false=>.c (match ex false a.1 x.1 with|[c]=>c|_=>.none))::(exP pm i l x.2).1,(exP pm i l x.2).2)
 |_,[],_=>([],(.c .none,[],[]))
def afT (nt:Nat)(pm:PM)(i:Nat)(ps:List (Ty×Bool))(x:Args ps):St :=
 {nt:=nt,tm:=axU 0 (exP pm i ps x).1,bx:=(exP pm i ps x).2.2.2,bl:=(exP pm i ps x).2.2.1,sp:=.v (exP pm i ps x).2.1}
def arE (st:St)(pm:PM)(rs qs:List (Ty×Bool))(m:Nat)(l:List CV):Option (Args rs×Args qs) :=
 match pm with
 |.rd=>match qs with
  |[]=>match rdM m with
   |some f=>match l with
    |[.c (.ptr b 0)]=>match look st.bx b with
     |some c=>match iB st (match f with|true=>1|false=>0) [] c&&xM c with
      |true=>match BE st rs [.agg c]with|some r=>some (r,())|none=>none
      |false=>none
     |none=>none
    |_=>none
   |none=>none
  |_=>none
 |.box=>match st.sp,qs with
  |.v (.c (.ptr b 0)),[q]=>match look st.bx b with
   |some c=>match xM c&&iB st m [] (aW l)&&(match m with|2|3=>yw st rs l|_=>true)&&Nat.ble m 3 with
    |true=>match BE st rs l,imV st q (.agg c) with
     |some r,some y=>some (r,(y,()))|_,_=>none
    |false=>none
   |none=>none
  |_,_=>none
 |.cur=>match st.sp,qs with
  |.v (.c (.ptr b 0)),[q]=>match look st.bx b with
   |some c=>match xM c&&cZ c&&iB st m [] (aW l)&&(match m with|2=>yw st rs l|_=>true)&&Nat.ble m 2 with
    |true=>match BE st rs l,imV st q (.agg c) with
     |some r,some y=>some (r,(y,()))|_,_=>none
    |false=>none
   |none=>none
  |_,_=>none
 |.own _=>match Nat.beq m 2 || Nat.beq m 3 with
  |true=>match qs with
   |[]=>match iB st m [] (aW l)&&yw st rs l with
    |true=>match BE st rs l with|some r=>some (r,())|none=>none
    |false=>none
   |[q]=>match st.sp with
    |.v c=>match iB st m [] (aW (l++[c]))&&yw st rs l&&yw st [q] [c]with
     |true=>match BE st rs l,BE st [q] [c]with
      |some r,some y=>some (r,y)|_,_=>none
     |false=>none
    |_=>none
   |_=>none
  |false=>none
def aNx (fn:Func)(pm:PM)(rs qs:List (Ty×Bool))(m:Nat):Ex->St->Option (Args rs×Args qs):=fun e st =>
 match e with
 |.exit _=>none|_=>match Rn P st fn.results.toList with
  |some l=>arE st pm rs qs m l|none=>none
def aDe (H:Nat->Option Hint)(fn:Func)(ps:List (Ty×Bool))(i:Nat)(pm:PM)(rs qs:List (Ty×Bool))(m:Nat)(x:Args ps):Option (Args rs×Args qs) :=
 ck (Nat.ble ps.length fn.ntmps&&Nat.blt i ps.length&&fu ps&&fu rs) (run P C F H (oh fn) {(afT fn.ntmps pm i ps x) with rob:=atd H} (aNx P fn pm rs qs m))
def aA9 (fn:Func)(a b q:Ty×Bool):Ex->St->Option (a.1.D×b.1.D×q.1.D):=fun e st =>
 match e with
 |.exit _=>none|_=>match Rn P st fn.results.toList with
  |some [ca,cb]=>match BE st [b] [cb]with
   |some n=>br (amU b.1 n.1)
     (match arE st (.own true) [a,b] [] 2 [ca,cb]with|some r=>some (r.1.1,r.1.2.1,q.1.aG)|none=>none)
     (ck (aK6 a ca) (match arE st (.own true) [b] [q] 2 [cb]with|some r=>some (a.1.aG,r.1.1,r.2.1)|none=>none))
   |none=>none
  |_=>none
def arF (H:Nat->Option Hint)(fn:Func)(ps:List (Ty×Bool))(i:Nat)(a b q:Ty×Bool)(x:Args ps):Option (a.1.D×b.1.D×q.1.D) :=
 ck (Nat.ble ps.length fn.ntmps&&Nat.blt i ps.length&&fu ps&&fu [a,b]) (run P C F H (oh fn) {(afT fn.ntmps (.own true) i ps x) with rob:=atd H} (aA9 P fn a b q))
end
end Go.Am
namespace Go.Am
inductive At where
 |l|r|b|t|e|i
def sub:List At->Code->Code
 |[],c=>c|.l::p,.seq a _=>sub p a|.r::p,.seq _ b=>sub p b|.b::p,.block _ b=>sub p b|.t::p,.cond _ a _=>sub p a|.e::p,.cond _ _ a=>sub p a|.i::p,.loop a=>sub p a|_,_=>.skip
section
variable (P:Program) (C:FuncId->Option Any) (F:sd) {U:Type} (H:Nat->Option Hint)
def am0:List At->Code->(Ex->St->Option U)->(Ex->St->Option U)
 |[],_,k=>k|.l::p,.seq a b,k=>am0 p a fun e st=>match e with
  |.norm=>run P C F H b st k|e=>k e st
 |.r::p,.seq _ b,k=>am0 p b k|.b::p,.block id b,k=>am0 p b fun e st=>match e with
  |.exit j=>match Nat.beq j id with|true=>k .norm st|false=>k (.exit j) st
  |e=>k e st
 |.t::p,.cond _ a _,k=>am0 p a k|.e::p,.cond _ _ a,k=>am0 p a k|_,_,k=>k
def lp (b:Code)(k:Ex->St->Option U)(n:Nat)(st:St):Option U :=
 aJE (fun st k=>run P C F H b st k) (H (sf b)) k n st
def itk (b:Code)(k:Ex->St->Option U)(n:Nat):Ex->St->Option U:=fun e dV=>match e with
 |.norm=>lp P C F H b k n (au9 (H (sf b)) dV)|.exit j=>k (.exit j) (amZ (H (sf b)) (.exit j) dV)|.ret=>k .ret (amZ (H (sf b)) .ret dV)
end
end Go.Am
