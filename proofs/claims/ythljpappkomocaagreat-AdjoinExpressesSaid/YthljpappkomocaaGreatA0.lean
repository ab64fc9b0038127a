/- An evaluator of the code in the model, proved sound, and residuals of code as Lean functions. -/
import GoSem.Step
import Derived.Calls
import Derived.Laws.Sem
import Derived.Laws.World
import Derived.Laws.Rows
import Derived.Laws.Cells
import Derived.Laws.Small
import Derived.Laws.Slices
import Derived.Laws.Append
import Derived.Laws.StructEq
import Derived.Laws.Strings
import Derived.Laws.BytesString
import Derived.Lib.ConvBytes
import Derived.Laws.Tables
import Derived.Laws.Externs
import Derived.Laws.Cover3
set_option linter.all false
namespace Go.Proofs.Ev
def aA:=@Option.some.injEq
def aB:=@List.getElem?_eq_getElem
def aC:=@if_pos
def aD:=@List.getD_eq_getElem?_getD
def aE:=@Nat.le_refl
def aF:=@if_neg
def aH:=@Nat.ble_eq_true_of_le
def aI:=@List.length_map
def aJ:=@Prod.mk.injEq
def aK:=@Nat.mul_comm
def aL:=@Nat.mul_le_mul_right
def aM:=@List.take_of_length_le
def aN:=@decide_eq_false
def aP:=@decide_eq_true
def aS:=@Nat.add_mul
def aT:=@Nat.mul_le_mul_left
def aU:=@Nat.eq_of_beq_eq_true
def aV:=@Nat.zero_add
def aW:=@List.map_append
def aZ:=@List.length_take
def a7:=@List.getElem?_set_self
def a8:=@Nat.add_sub_cancel
def a9:=@Nat.zero_le
def aa:=@Nat.mul_assoc
def ae:=@List.getElem?_map
def ah:=@Nat.le_of_ble_eq_true
def ai:=@Bool.and_eq_true
def aj:=@Nat.mul_one
def ak:=@List.getElem_mem
def am:=@List.drop_zero
def ao:=@List.eq_nil_of_length_eq_zero
def au:=@List.mem_append
def av:=@List.mem_map
def ax:=@Nat.pow_succ
def ay:=@List.length_append
def az:=@Nat.lt_or_ge
def bA:=@Nat.mul_add
def bB:=@List.length_set
def bC:=@Nat.lt_irrefl
def bD:=@List.length_cons
def bE:=@List.getElem?_eq_some_iff
def bF:=@List.getElem?_cons_zero
def bG:=@Nat.one_mul
def bH:=@Nat.add_zero
def bI:=@List.map_cons
def bJ:=@List.getElem?_append_right
def bK:=@List.mem_cons
def bL:=@Nat.mod_eq_of_lt
def bM:=@List.mem_map_of_mem
def bN:=@Nat.pow_pos
def bO:=@List.getElem?_append_left
def bP:=@Nat.le_trans
def bQ:=@Nat.eq_zero_or_pos
def bR:=@List.getElem?_cons_succ
def bS:=@Nat.min_eq_left
def bT:=@Nat.zero_mul
def bU:=@List.getElem?_set_ne
def bV:=@List.append_assoc
def bW:=@List.getElem?_eq_none
def bX:=@Nat.pow_add
def bY:=@List.mem_of_getElem?
def bZ:=@Nat.le_of_lt_succ
def b9:=@if_true
def ba:=@List.append_nil
def bc:=@Nat.mod_lt
def bf:=@List.drop_eq_nil_of_le
def bg:=@Nat.pow_le_pow_right
def bh:=@Bool.false_eq_true
def bi:=@List.mem_append_left
def bj:=@Nat.add_sub_add_right
def bk:=@Nat.lt_of_lt_of_le
def bm:=@Array.getElem?_eq_some_iff
def bn:=@List.mem_cons_of_mem
def bp:=@Nat.div_lt_iff_lt_mul
def bq:=@List.take_add_one
def br:=@List.mem_of_mem_take
def bt:=@Nat.sub_self
def bu:=@List.drop_eq_getElem_cons
def bv:=@List.cons_append
def bw:=@List.getElem?_drop
def bx:=@if_false
def bz:=@List.mem_cons_self
def cA:=@Nat.mul_le_mul
def cC:=@of_decide_eq_true
def cE:=@List.mem_iff_getElem
def cF:=@Option.map_some
def cG:=@Bool.not_true
def cH:=@List.all_cons
def cI:=@List.nil_append
def cJ:=@List.mem_filter
def cK:=@Option.some.inj
def cL:=@Nat.div_eq_of_lt
def cM:=@List.map_map
def cN:=@List.mem_append_right
def cO:=@List.set_append_right
def cP:=@Nat.lt_of_le_of_lt
def cQ:=@Nat.not_lt_zero
def cR:=@Nat.lt_succ_self
def cU:=@List.length_pos_iff
def cW:=@List.length_zipWith
def cY:=@Nat.add_sub_cancel'
def cZ:=@Nat.mul_left_comm
def c7:=@List.take_append_drop
def c9:=@List.length_nil
def ce:=@Nat.div_add_mod
def cf:=@List.getElem?_take
def cg:=@List.all_eq_true
def ch:=@List.take_length
def ci:=@Option.getD_some
def cj:=@List.getElem_map
def ck:=@Nat.pow_zero
def co:=@Nat.mul_pos
def cp:=@Nat.lt_trichotomy
def cr:=@Nat.add_mul_mod_self_left
def ct:=@Bool.or_eq_true
def cw:=@List.range_succ
def cx:=@Rat.inv_mul_cancel
def cy:=@Nat.add_assoc
def dA:=@Nat.one_pos
def dB:=@List.take_zero
def dC:=@Array.getD_eq_getD_getElem?
def dD:=@Nat.mul_lt_mul_of_pos_right
def dE:=@Nat.mod_add_div
def dF:=@Nat.div_mul_le_self
def dG:=@Nat.mul_zero
def dH:=@Nat.add_comm
def dI:=@Bool.and_self
def dJ:=@List.length_drop
def dK:=@Nat.mul_right_comm
def dL:=@Array.getElem?_setIfInBounds_ne
def dM:=@Rat.mul_one
def dN:=@Option.map_none
def dO:=@Nat.le_of_lt
def dP:=@Nat.gcd_comm
def dR:=@Array.length_toList
def dS:=@List.map_congr_left
def dT:=@List.dropLast_concat_getLast
def dU:=@Int.natAbs_mul
def dV:=@Nat.beq_refl
def dW:=@List.mem_singleton
def dZ:=@Nat.two_pow_add_eq_or_of_lt
def d5:=@List.map_set
def d6:=@Nat.gcd_zero_right
def d7:=@List.set_cons_zero
def d8:=@Int.natAbs_natCast
def d9:=@Array.getElem?_toList
def dc:=@Nat.le_div_iff_mul_le
def de:=@Nat.div_lt_of_lt_mul
def dh:=@List.getElem_zipWith
def di:=@List.mem_range
def dj:=@Int.negSucc_eq
def dk:=@List.eq_of_mem_replicate
def dl:=@List.Pairwise.imp_of_mem
def dm:=@List.getElem?_replicate
def dn:=@Rat.natCast_eq_zero_iff
def dp:=@List.map_take
def dq:=@List.foldl_cons
def dr:=@Bool.eq_iff_iff
def du:=@List.pairwise_cons
def dw:=@Nat.pow_mul
def dx:=@Bool.not_eq_true'
def dy:=@List.foldl_append
def dz:=@List.Pairwise.nil
def eA:=@Nat.succ_mul
def eB:=@Bool.and_false
def eC:=@List.length_replicate
def eE:=@List.mem_of_mem_drop
def eF:=@Nat.blt_eq
def eG:=@List.findIdx_getElem
def eH:=@List.replicate_succ'
def z19:=@Array.getElem?_setIfInBounds_self_of_lt
def z1a:=@Array.getElem?_append_left
def z1b:=@List.take_succ_cons
def z1c:=@List.drop_succ_cons
def z1d:=@Array.getElem?_eq_getElem
def z1e:=@List.getLast?_eq_getElem?
def z1f:=@Rat.intCast_mul
def z1g:=@Nat.mul_ne_zero
def z1h:=@List.getElem?_take_of_lt
def z1i:=@Nat.add_le_add_iff_right
def z1j:=@Option.isSome_iff_exists
def z1k:=@List.getElem_range
def z1l:=@List.length_eq_zero_iff
def z1m:=@List.getLast?_cons_cons
def z1n:=@List.pairwise_map
def z1o:=@List.any_eq_false
def z1p:=@List.set_eq_take_append_cons_drop
def z1q:=@Nat.div_pos
def z1r:=@Nat.le_log2
def z1s:=@Nat.le_mul_of_pos_left
def z1t:=@List.findIdx_le_length
def z1u:=@List.eraseIdx_append_of_length_le
def z1v:=@List.cons.inj
def z1w:=@Nat.log2_self_le
def z1x:=@Nat.le_add_right
def z1y:=@Nat.max_eq_right
def z1z:=@List.ext_getElem
def z1A:=@List.mem_iff_getElem?
def z1B:=@Nat.mul_mod_mul_right
def z1C:=@Int.natCast_mul
def z1D:=@Nat.div_le_self
def z1E:=@Nat.add_mul_div_left
def z1F:=@Nat.and_two_pow_sub_one_eq_mod
def z1G:=@Nat.le_of_eq
def z1H:=@Nat.le_antisymm
def z1I:=@Nat.mul_add_div
def z1J:=@Nat.lt_trans
def z1K:=@Rat.mul_eq_zero
def z1L:=@List.drop_set_of_lt
def z1M:=@List.getElem?_range
def z1N:=@List.mapM_cons
def z1O:=@Bool.false_and
def z1P:=@List.Perm.refl
def z1Q:=@Nat.log2_lt
def z1R:=@Nat.mul_div_cancel
def z1S:=@Nat.pos_of_ne_zero
def z1T:=@Rat.mul_inv_cancel
def z1U:=@List.append_of_mem
def z1V:=@Rat.sub_eq_add_neg
def z1W:=@Bool.true_and
def z1X:=@Nat.lt_of_mul_lt_mul_right
def z1Y:=@Nat.mul_lt_mul_of_lt_of_le
def z1Z:=@Bool.false_or
def z20:=@List.eraseIdx_of_length_le
def z21:=@List.size_toArray
def z22:=@Nat.lt_succ_of_lt
def z23:=@Nat.mod_le
def z24:=@List.mem_or_eq_of_mem_set
def z25:=@Nat.lt_of_mul_lt_mul_left
def z26:=@List.mem_of_find?_eq_some
def z27:=@Nat.succ_pos
def z28:=@List.set_set
def z29:=@List.all_append
def z2a:=@Nat.le_add_left
def z2b:=@List.foldr_cons
def z2c:=@Rat.intCast_neg
def z2d:=@List.sum_append
def z2e:=@Nat.sub_mul
def z2f:=@Nat.gcd_rec
def z2g:=@Rat.one_mul
def z2h:=@Rat.neg_num
def z2i:=@Rat.neg_den
end Go.Proofs.Ev
namespace Go.Proofs.Ev
inductive Tr (α:Type) where
 |nil
 |node (v:Option α) (l r:Tr α)
def Tr.get{α:Type}:Tr α→Nat→Option α
 |.nil,_=>none
 |.node v l r,n=>cond (Nat.beq n 0) v (cond (Nat.beq (Nat.mod n 2) 1) (l.get (Nat.div n 2)) (r.get (Nat.pred (Nat.div n 2))))
def Tr.setF{α:Type}:Nat→Tr α→Nat→α→Tr α
 |0,t,_,_=>t
 |k+1,.nil,n,x=>cond (Nat.beq n 0) (.node (some x) .nil .nil)
  (cond (Nat.beq (Nat.mod n 2) 1) (.node none (Tr.setF k .nil (Nat.div n 2) x) .nil) (.node none .nil (Tr.setF k .nil (Nat.pred (Nat.div n 2)) x)))
 |k+1,.node v l r,n,x=>cond (Nat.beq n 0) (.node (some x) l r)
  (cond (Nat.beq (Nat.mod n 2) 1) (.node v (Tr.setF k l (Nat.div n 2) x) r) (.node v l (Tr.setF k r (Nat.pred (Nat.div n 2)) x)))
def Tr.set{α:Type}(t:Tr α)(n:Nat)(x:α):Tr α:=Tr.setF (Nat.succ n) t n x
inductive D where
 |u
 |i (k:IntKind) (n:Int)
 |b (x:Bool)
 |s (l:List UInt8)
 |n (m:Nat)
 |np
 |nf
 |tree (cs:List D) (len:Nat) (ex:Bool)
 |own (cs:List D) (len sz:Nat)
 |sl (l off len cm sz:Nat) (ex:Bool)
 |ptr (l off:Nat)
 |fp (cs:List D)
 |agg (cs:List D)
 |tup (vs:List D)
 |fn (f:Nat) (caps:List D)
 deriving Inhabited
def mV:Nat→Nat→List UInt8→List UInt8
 |0,_,acc=>acc
 |k+1,n,acc=>cond (Nat.beq n 0) acc (mV k (Nat.div n 256) (UInt8.ofNat (Nat.mod n 256)::acc))
def ep(n:Nat):List UInt8:=mV n n []
inductive Stt where
 |rw
 |frz
 |gone
 |apd
structure Blk where
 cs:List D
 st:Stt
def Stt.live:Stt→Bool
 |.gone=>false
 |_=>true
def Stt.wr:Stt→Bool
 |.rw=>true
 |_=>false
def Stt.fz:Stt→Stt
 |.rw=>.frz
 |s=>s
def Stt.own:Stt→Bool
 |.rw=>true
 |.apd=>true
 |_=>false
structure Sto where
 m:Tr Blk
 nx:Nat
def Sto.empty:Sto:=⟨.nil,0⟩
inductive X where
 |t (n:Nat)
 |c (d:D)
inductive O where
 |bad
 |mv (x:X)
 |pick (c a b:X)
 |alloc (zero:List D)
 |box (x:X)
 |build (zero:List D) (parts:List (Nat×Nat×X))
 |bsl (len:Nat) (zero:List D) (parts:List (Nat×Nat×X))
 |load1 (a:X)
 |loadn (n:Nat) (a:X)
 |store (n:Nat) (a x:X)
 |nilc (x:X)
 |isnil (neg:Bool) (x:X)
 |bin (op:BinOp) (x y:X)
 |binb (op:BinOp) (x y:X)
 |eqs (neg:Bool) (ks:List Nat) (x y:X)
 |neg (x:X)
 |not (x:X)
 |toInt (k:IntKind) (x:X)
 |sid (x:X)
 |b2s (x:X)
 |s2b (x:X)
 |mkfn (f:Nat) (caps:List X)
 |mksl (sz bytes:Nat) (zero:List D) (l c:X)
 |slice (sz:Nat) (x:X) (lo hi mx:Option X)
 |slstr (x:X) (lo hi:Option X)
 |faddr (off:Nat) (x:X)
 |field1 (off:Nat) (x:X)
 |fieldn (off n:Nat) (x:X)
 |iaddr (sz:Nat) (x i:X)
 |index (x i:X)
 |ext (x:X) (i:Nat)
 |len (x:X)
 |lens (x:X)
 |max (x y:X)
 |min (x y:X)
 |add64 (x y c:X)
 |sub64 (x y c:X)
 |call (pure:Bool) (f:X) (args:List X)
 |app (sz bytes:Nat) (x y:X)
 |pld1 (a:X)
 |pldn (n:Nat) (a:X)
 |psl (sz:Nat) (x:X) (lo hi mx:Option X)
 |pia (sz:Nat) (x i:X)
 |pbs (len:Nat) (zero:List D) (parts:List (Nat×Nat×X))
 |appk (sz bytes:Nat) (x y:X)
 |copy (sz:Nat) (x y:X)
 |clr (sz:Nat) (zero:List D) (x:X)
 |apart (a x:X)
structure Ins where
 dst:Option Nat
 gd:Option (Nat×Bool)
 op:O
inductive C where
 |bad
 |skip
 |reg (l:List Ins)
 |seq (a b:C)
 |cond (x:X) (a b:C)
 |block (id:Nat) (c:C)
 |loop (c:C)
 |exit (id:Nat)
 |ret
 |cut (ls:List Nat) (c:C)
def C.er:C→C
 |.bad=>.bad
 |.skip=>.skip
 |.reg l=>.reg l
 |.seq a b=>.seq a.er b.er
 |.cond x a b=>.cond x a.er b.er
 |.block id c=>.block id c.er
 |.loop c=>.loop c.er
 |.exit id=>.exit id
 |.ret=>.ret
 |.cut _ c=>c.er
structure Fun where
 np:Nat
 res:List (Nat×Option Nat)
 mode:Nat
 body:C
def Fun.er(F:Fun):Fun:=⟨F.np,F.res,F.mode,F.body.er⟩
inductive Ent where
 |body (F:Fun)
 |model (M:List D→Option D)
abbrev Env:=Tr D
def X.ev(e:Env):X→D
 |.t n=>match e.get n with|some d=>d|none=>.u
 |.c d=>d
def str:D→Option (List UInt8)
 |.s l=>some l
 |.n m=>some (ep m)
 |_=>none
def kP:D→List D
 |.agg cs=>cs
 |d=>[d]
def one:D→Bool
 |.agg _|.tup _|.u|.own .. =>false
 |_=>true
def xd(op:BinOp)(k:IntKind)(a b:Int):Option D:=
 match op with
 |.add=>some (.i k (k.wrap (a+b)))
 |.sub=>some (.i k (k.wrap (a-b)))
 |.mul=>some (.i k (k.wrap (a*b)))
 |.quo=>if b=0 then none else some (.i k (k.wrap (a.tdiv b)))
 |.rem=>if b=0 then none else some (.i k (a.tmod b))
 |.and=>some (.i k (k.wrap (BitVec.ofInt k.bits a&&&BitVec.ofInt k.bits b).toNat))
 |.or=>some (.i k (k.wrap (BitVec.ofInt k.bits a|||BitVec.ofInt k.bits b).toNat))
 |.xor=>some (.i k (k.wrap (BitVec.ofInt k.bits a^^^BitVec.ofInt k.bits b).toNat))
 |.andNot=>some (.i k (k.wrap (BitVec.ofInt k.bits a&&& ~~~BitVec.ofInt k.bits b).toNat))
 |.eql=>some (.b (a==b))
 |.neq=>some (.b (a != b))
 |.lss=>some (.b (decide (a<b)))
 |.leq=>some (.b (decide (a≤b)))
 |.gtr=>some (.b (decide (a>b)))
 |.geq=>some (.b (decide (a≥b)))
 |_=>none
def SO(op:BinOp)(x y:List UInt8):Option D:=
 match op with
 |.eql=>some (.b (x==y))
 |.neq=>some (.b (!(x==y)))
 |.lss=>some (.b (Op.bytesLess x y))
 |.leq=>some (.b (Op.bytesLess x y||x==y))
 |.gtr=>some (.b (!(Op.bytesLess x y||x==y)))
 |.geq=>some (.b (!Op.bytesLess x y))
 |_=>none
def bin(op:BinOp)(x y:D):Option D:=
 match x,y with
 |.i k a,.i k' b=>
  match op with
  |.shl=>if b<0 then none else some (.i k (k.wrap (a*2^(Nat.min b.toNat k.bits))))
  |.shr=>if b<0 then none else some (.i k (a.fdiv (2^(Nat.min b.toNat k.bits))))
  |op=>if k=k' then xd op k a b else none
 |.n a,.n b=>
  match op with
  |.eql=>some (.b (Nat.beq a b))
  |.neq=>some (.b (!(Nat.beq a b)))
  |op=>SO op (ep a) (ep b)
 |x,y=>
  match str x,str y with
  |some a,some b=>SO op a b
  |_,_=>none
def eq1:Nat→D→D→Option Bool
 |0,.i k a,.i k' b=>if k=k' then some (a==b)else none
 |1,.b a,.b b=>some (a==b)
 |2,x,y=>match x,y with
  |.n a,.n b=>some (Nat.beq a b)
  |x,y=>match str x,str y with
   |some a,some b=>some (a==b)
   |_,_=>none
 |_,_,_=>none
def eqL:List Nat→List D→List D→Option Bool
 |[],[],[]=>some true
 |k::ks,x::xs,y::ys=>match eq1 k x y with
  |some true=>eqL ks xs ys
  |some false=>some false
  |none=>none
 |_,_,_=>none
def cut(off n:Nat)(cs:List D):Option (List D):=
 let r:=(cs.drop off).take n
 if r.length=n then some r else none
def lay(off:Nat)(new cs:List D):Option (List D):=
 if off+new.length≤cs.length then some (cs.take off++new++cs.drop (off+new.length))else none
def trD:D→Bool
 |.i .. =>true
 |.b _=>true
 |.s _=>true
 |.n _=>true
 |.np=>true
 |.nf=>true
 |.tree .. =>true
 |.fp _=>true
 |_=>false
def fill(ev:X→D):List (Nat×Nat×X)→List D→Option (List D)
 |[],cs=>some cs
 |(off,sz,x)::r,cs=>
  let new:=kP (ev x)
  if new.length=sz&&new.all one then
   match lay off new cs with
   |some cs=>fill ev r cs
   |none=>none
  else none
def oa(n:Nat)(zero:List D):List D:=
 match n with
 |0=>[]
 |n+1=>zero++oa n zero
def sI(ev:X→D)(x:Option X)(dflt:Nat):Option Nat:=
 match x with
 |none=>some dflt
 |some x=>match ev x with
  |.i _ n=>if 0≤n then some n.toNat else none
  |_=>none
def at_(g:Nat→Option Blk):D→Option (List D)
 |.ptr l off=>match g l with
  |some b=>if !b.st.live then none else some (b.cs.drop off)
  |none=>none
 |.fp cs=>some cs
 |_=>none
def cellsOf(g:Nat→Option Blk)(sz:Nat):D→Option (List D)
 |.sl l off len _ z _=>match g l with
  |some b=>if !b.st.live then none else if z=sz then cut off (len*sz) b.cs else none
  |none=>none
 |.tree cs len _=>if cs.length=len*sz then some cs else none
 |_=>none
def lenOf:D→Option Nat
 |.sl _ _ len _ _ _=>some len
 |.tree _ len _=>some len
 |_=>none
def ej:List UInt8→Nat→Nat
 |[],acc=>acc
 |c::l,acc=>ej l (acc*256+c.toNat)
def TF(l:List UInt8):D:=
 match l with
 |[]=>.n 0
 |c::r=>cond (Nat.beq c.toNat 0) (.s l) (.n (ej l 0))
def xY:List D→Option (List UInt8)
 |[]=>some []
 |.i .u8 n::r=>match xY r with
  |some l=>some (UInt8.ofNat n.toNat::l)
  |none=>none
 |_=>none
def evA(nx:Nat)(ev:X→D)(g:Nat→Option Blk):O→Option (D×List Blk)
 |.mv x=>some (ev x,[])
 |.pick c a b=>match ev c with
  |.b true=>some (ev a,[])
  |.b false=>some (ev b,[])
  |_=>none
 |.alloc zero=>some (.ptr nx 0,[⟨zero,.rw⟩])
 |.box x=>
  let cs:=kP (ev x)
  if cs.all one then some (.ptr nx 0,[⟨cs,.rw⟩])else none
 |.build zero parts=>match fill ev parts zero with
  |some cs=>some (.agg cs,[])
  |none=>none
 |.bsl len zero parts=>match fill ev parts (oa len zero)with
  |some cs=>some (.sl nx 0 len len zero.length true,[⟨cs,.rw⟩])
  |none=>none
 |.load1 a=>match at_ g (ev a)with
  |some (d::_)=>some (d,[])
  |_=>none
 |.loadn n a=>match at_ g (ev a)with
  |some cs=>match cut 0 n cs with
   |some r=>some (.agg r,[])
   |none=>none
  |none=>none
 |.nilc x=>match ev x with
  |.ptr l o=>match g l with
   |some b=>if b.st.live then some (.ptr l o,[])else none
   |none=>none
  |.fp cs=>some (.fp cs,[])
  |.fn f cs=>some (.fn f cs,[])
  |_=>none
 |.isnil neg x=>match ev x with
  |.sl l o len cm z ex=>match g l with
   |some b=>if b.st.live then some (.b neg,[])else none
   |none=>none
  |.tree cs len ex=>match cs with
   |[]=>none
   |_::_=>some (.b neg,[])
  |_=>none
 |.bin op x y=>match bin op (ev x) (ev y)with
  |some d=>some (d,[])
  |none=>none
 |.binb op x y=>match ev x,ev y with
  |.b p,.b q=>match op with
   |.eql=>some (.b (p==q),[])
   |.neq=>some (.b (!(p==q)),[])
   |_=>none
  |_,_=>none
 |.eqs neg ks x y=>match ev x,ev y with
  |.agg a,.agg b=>if a.length=ks.length&&b.length=ks.length then match eqL ks a b with
   |some r=>some (.b (if neg then !r else r),[])
   |none=>none
   else none
  |_,_=>none
 |.neg x=>match ev x with
  |.i k n=>some (.i k (k.wrap (0-n)),[])
  |_=>none
 |.not x=>match ev x with
  |.b p=>some (.b (!p),[])
  |_=>none
 |.toInt k x=>match ev x with
  |.i _ n=>some (.i k (k.wrap n),[])
  |_=>none
 |.sid x=>match str (ev x)with
  |some _=>some (ev x,[])
  |none=>none
 |.b2s x=>match cellsOf g 1 (ev x)with
  |some cs=>match xY cs with
   |some l=>some (TF l,[])
   |none=>none
  |none=>none
 |.s2b x=>match str (ev x)with
  |some l=>some (.sl nx 0 l.length l.length 1 false,[⟨l.map λc=>.i .u8 c.toNat,.rw⟩])
  |none=>none
 |.mkfn f caps=>some (.fn f (caps.map ev),[])
 |.mksl sz bytes zero l c=>match ev l,ev c with
  |.i .i64 l,.i .i64 c=>
   if 0≤l&&l≤c&&c≤140737488355328&&c*bytes≤140737488355328&&zero.length=sz then
    some (.sl nx 0 l.toNat c.toNat sz true,[⟨oa c.toNat zero,.rw⟩])
   else none
  |_,_=>none
 |.slice sz x lo hi mx=>match ev x with
  |.sl l off len cm z ex=>
   match sI ev mx cm,sI ev hi len,sI ev lo 0,g l with
   |some m,some h,some lw,some b=>
    if b.st.live&&m≤cm&&h≤m&&lw≤h&&z=sz then
     if lw<m then some (.sl l (off+lw*sz) (h-lw) (m-lw) sz (mx.isSome||ex),[])
     else some (.tree [] 0 (mx.isSome||ex),[])
    else none
   |_,_,_,_=>none
  |.tree cs len ex=>
   match sI ev mx len,sI ev hi len,sI ev lo 0 with
   |some m,some h,some lw=>
    if m≤len&&h≤m&&lw≤h&&cs.length=len*sz then
     some (.tree ((cs.drop (lw*sz)).take ((h-lw)*sz)) (h-lw) ((mx.isSome&&m==h)||(!mx.isSome&&ex&&h==len)),[])
    else none
   |_,_,_=>none
  |_=>none
 |.slstr x lo hi=>match str (ev x)with
  |some l=>match sI ev hi l.length,sI ev lo 0 with
   |some h,some lw=>if h≤l.length&&lw≤h then some (.s ((l.drop lw).take (h-lw)),[])else none
   |_,_=>none
  |none=>none
 |.faddr off x=>match ev x with
  |.ptr l o=>match g l with
   |some b=>if b.st.live then some (.ptr l (o+off),[])else none
   |none=>none
  |.fp cs=>some (.fp (cs.drop off),[])
  |_=>none
 |.field1 off x=>match ev x with
  |.agg cs=>match cs.drop off with
   |d::_=>some (d,[])
   |[]=>none
  |_=>none
 |.fieldn off n x=>match ev x with
  |.agg cs=>match cut off n cs with
   |some r=>some (.agg r,[])
   |none=>none
  |_=>none
 |.iaddr sz x i=>match ev i with
  |.i _ n=>match ev x with
   |.sl l off len _ z _=>match g l with
    |some b=>if b.st.live&&0≤n&&n<len&&z=sz then some (.ptr l (off+n.toNat*sz),[])else none
    |none=>none
   |.tree cs len _=>if 0≤n&&n<len then match cs.drop (n.toNat*sz)with
    |[]=>none
    |d::r=>some (.fp (d::r),[])
    else none
   |_=>none
  |_=>none
 |.index x i=>match ev i,str (ev x)with
  |.i _ n,some l=>if 0≤n then match l.drop n.toNat with
   |c::_=>some (.i .u8 c.toNat,[])
   |[]=>none
   else none
  |_,_=>none
 |.ext x i=>match ev x with
  |.tup vs=>match vs.drop i with
   |d::_=>some (d,[])
   |[]=>none
  |_=>none
 |.len x=>match lenOf (ev x)with
  |some n=>some (.i .i64 n,[])
  |none=>none
 |.lens x=>match str (ev x)with
  |some l=>some (.i .i64 l.length,[])
  |none=>none
 |.max x y=>match ev x,ev y with
  |.i k a,.i k' b=>if k=k' then some (.i k (if b>a then b else a),[])else none
  |_,_=>none
 |.min x y=>match ev x,ev y with
  |.i k a,.i k' b=>if k=k' then some (.i k (if b<a then b else a),[])else none
  |_,_=>none
 |.add64 x y c=>match ev x,ev y,ev c with
  |.i .u64 a,.i .u64 b,.i .u64 c=>
   if c.toNat≤1 then some (.tup [.i .u64 (Int.ofNat ((a.toNat+b.toNat+c.toNat)%2^64)),.i .u64 (Int.ofNat ((a.toNat+b.toNat+c.toNat)/2^64))],[])else none
  |_,_,_=>none
 |.sub64 x y c=>match ev x,ev y,ev c with
  |.i .u64 a,.i .u64 b,.i .u64 c=>
   if c.toNat≤1 then some (.tup [.i .u64 (Int.ofNat ((a.toNat+2^64-b.toNat-c.toNat)%2^64)),.i .u64 (Int.ofNat (if a.toNat<b.toNat+c.toNat then 1 else 0))],[])else none
  |_,_,_=>none
 |.pld1 a=>match ev a with
  |.fp (d::_)=>some (d,[])
  |_=>none
 |.pldn n a=>match ev a with
  |.fp cs=>match cut 0 n cs with
   |some r=>some (.agg r,[])
   |none=>none
  |_=>none
 |.psl sz x lo hi mx=>match ev x with
  |.tree cs len ex=>
   match sI ev mx len,sI ev hi len,sI ev lo 0 with
   |some m,some h,some lw=>
    if m≤len&&h≤m&&lw≤h&&cs.length=len*sz then
     some (.tree ((cs.drop (lw*sz)).take ((h-lw)*sz)) (h-lw) ((mx.isSome&&m==h)||(!mx.isSome&&ex&&h==len)),[])
    else none
   |_,_,_=>none
  |_=>none
 |.pia sz x i=>match ev i with
  |.i _ n=>match ev x with
   |.tree cs len _=>if 0≤n&&n<len then match cs.drop (n.toNat*sz)with
    |[]=>none
    |d::r=>some (.fp (d::r),[])
    else none
   |_=>none
  |_=>none
 |.pbs len zero parts=>match fill ev parts (oa len zero)with
  |some cs=>if cs.all trD then some (.tree cs len true,[])else none
  |none=>none
 |.apart a x=>match ev a,ev x with
  |.fp _,_=>some (.u,[])
  |.ptr l _,.sl l' _ _ _ _ _=>if l=l' then none else some (.u,[])
  |.ptr l _,.ptr l' _=>if l=l' then none else some (.u,[])
  |.ptr _ _,.tree .. =>some (.u,[])
  |_,_=>none
 |_=>none
def Sto.get(σ:Sto)(l:Nat):Option Blk:=σ.m.get l
def Sto.put(σ:Sto)(l:Nat)(b:Blk):Sto:=⟨σ.m.set l b,σ.nx⟩
def Sto.adds(σ:Sto):List Blk→Sto
 |[]=>σ
 |b::bs=>Sto.adds ⟨σ.m.set σ.nx b,Nat.succ σ.nx⟩ bs
def tA(ev:X→D)(σ:Sto)(sz bytes:Nat)(x y:X):Option (D×Sto):=
 match cellsOf σ.get sz (ev y),lenOf (ev y)with
 |some new,some n=>
  match ev x with
  |.tree cs len ex=>
   if n=0 then some (.tree cs len ex,σ)
   else if ex&&cs.length=len*sz&&(len+n)*bytes≤1099511627776&&len+n≤1099511627776 then
    some (.sl σ.nx 0 (len+n) (len+n) sz false,σ.adds [⟨cs++new,.rw⟩])
   else none
  |.sl l off len cm z ex=>match σ.get l with
   |some b=>
    if b.st.wr&&z=sz&&new.all one&&(len+n)*bytes≤1099511627776&&len+n≤1099511627776 then
     if len+n≤cm then
      match lay (off+len*sz) new b.cs with
      |some cs=>some (.sl l off (len+n) cm sz ex,σ.put l ⟨cs,.rw⟩)
      |none=>none
     else match cut off (len*sz) b.cs with
      |some old=>
       let σ':=if ex then σ else σ.put l ⟨[],.gone⟩
       some (.sl σ.nx 0 (len+n) (len+n) sz false,σ'.adds [⟨old++new,.rw⟩])
      |none=>none
    else none
   |none=>none
  |_=>none
 |_,_=>none
def evW(ev:X→D)(σ:Sto):O→Option (D×Sto)
 |.store n a x=>match ev a with
  |.ptr l off=>match σ.get l with
   |some b=>
    let new:=kP (ev x)
    if b.st.wr&&new.length=n&&new.all one then
     match lay off new b.cs with
     |some cs=>some (.u,σ.put l ⟨cs,.rw⟩)
     |none=>none
    else none
   |none=>none
  |_=>none
 |.app sz bytes x y=>tA ev σ sz bytes x y
 |.appk sz bytes x y=>match ev x with
  |.sl l off len cm z false=>match cellsOf σ.get sz (ev y),lenOf (ev y),σ.get l with
   |some new,some n,some b=>
    if b.st.own&&z=sz&&new.all one&&(len+n)*bytes≤1099511627776&&len+n≤1099511627776&&off+len*sz=b.cs.length then
     match cut off (len*sz) b.cs with
     |some old=>some (.sl σ.nx 0 (len+n) (len+n) sz false,(σ.put l ⟨b.cs,.frz⟩).adds [⟨old++new,.apd⟩])
     |none=>none
    else none
   |_,_,_=>none
  |_=>match tA ev σ sz bytes x y with
   |some (.sl l off len cm z ex,σ')=>if Nat.beq l σ.nx then match σ'.get l with
    |some b=>if b.st.own then some (.sl l off len cm z ex,σ'.put l ⟨b.cs,.apd⟩)else none
    |none=>none
    else some (.sl l off len cm z ex,σ')
   |r=>r
 |.copy sz x y=>match ev x,lenOf (ev y)with
  |.sl l off len _ z _,some n=>match σ.get l,cellsOf σ.get sz (ev y)with
   |some b,some src=>
    let k:=Nat.min n len
    if b.st.wr&&z=sz&&src.all one then
     match lay off (src.take (k*sz)) b.cs with
     |some cs=>some (.i .i64 k,σ.put l ⟨cs,.rw⟩)
     |none=>none
    else none
   |_,_=>none
  |_,_=>none
 |.clr sz zero x=>match ev x with
  |.sl l off len _ z _=>match σ.get l with
   |some b=>
    if b.st.wr&&zero.length=sz&&z=sz&&zero.all one then
     match lay off (oa len zero) b.cs with
     |some cs=>some (.u,σ.put l ⟨cs,.rw⟩)
     |none=>none
    else none
   |none=>none
  |.tree _ 0 _=>some (.u,σ)
  |_=>none
 |_=>none
def gr{α β:Type}(f:α→Option (β×List Nat)):List α→Option (List β×List Nat)
 |[]=>some ([],[])
 |x::xs=>match f x with
  |some (y,a)=>match gr f xs with
   |some (ys,b)=>some (y::ys,a++b)
   |none=>none
  |none=>none
def res(g:Nat→Option Blk):Nat→D→Option (D×List Nat)
 |0,_=>none
 |k+1,d=>match d with
  |.u=>none
  |.own .. =>none
  |.sl l off len cm z ex=>match g l with
   |some b=>if !b.st.live then none else match cut off (len*z) b.cs with
    |some r=>match gr (res g k) r with
     |some (cs,ls)=>some (.tree cs len (ex&&cm==len),l::ls)
     |none=>none
    |none=>none
   |none=>none
  |.ptr l off=>match g l with
   |some b=>if !b.st.live then none else match gr (res g k) (b.cs.drop off)with
    |some (cs,ls)=>some (.fp cs,l::ls)
    |none=>none
   |none=>none
  |.agg cs=>match gr (res g k) cs with
   |some (cs,ls)=>some (.agg cs,ls)
   |none=>none
  |.tup cs=>match gr (res g k) cs with
   |some (cs,ls)=>some (.tup cs,ls)
   |none=>none
  |.fn f cs=>match gr (res g k) cs with
   |some (cs,ls)=>some (.fn f cs,ls)
   |none=>none
  |d=>some (d,[])
def wy:Option (D×List Nat)→Option (D×List Nat×List Nat)
 |some (d,ls)=>some (d,[],ls)
 |none=>none
def pu(own:Bool)(g:Nat→Option Blk)(k:Nat)(d:D):Option (D×List Nat×List Nat):=
 match own,d with
 |true,.sl l off len _ z _=>match g l with
  |some b=>if b.st.wr then match cut off (len*z) b.cs with
   |some r=>match gr (res g k) r with
    |some (cs,ls)=>some (.own cs len z,[l],ls)
    |none=>none
   |none=>none
   else wy (res g k d)
  |none=>none
 |_,d=>wy (res g k d)
def mT(own:Bool)(g:Nat→Option Blk)(k:Nat)(d:D):Option D:=
 match d with
 |.tup (d::ds)=>match pu own g k d,gr (res g k) ds with
  |some (d,o,ls),some (ds,ls')=>if o.all λl=> !(ls++ls').contains l then some (.tup (d::ds))else none
  |_,_=>none
 |d=>match pu own g k d with
  |some (d,o,ls)=>if o.all λl=> !ls.contains l then some d else none
  |none=>none
def mat(nx:Nat):D→D×List Blk
 |.own cs len z=>(.sl nx 0 len len z false,[⟨cs,.rw⟩])
 |.tup (.own cs len z::ds)=>(.tup (.sl nx 0 len len z false::ds),[⟨cs,.rw⟩])
 |d=>(d,[])
def Sto.frz(σ:Sto):List Nat→Sto
 |[]=>σ
 |l::ls=>match σ.get l with
  |some b=>Sto.frz (σ.put l ⟨b.cs,b.st.fz⟩) ls
  |none=>Sto.frz σ ls
def pY:D→Bool
 |.i .. =>true
 |.b _=>true
 |.s _=>true
 |.n _=>true
 |.np=>true
 |.nf=>true
 |_=>false
def uC:D→Bool
 |.agg cs=>cs.all pY
 |d=>pY d
def sW:D→Bool
 |.agg cs=>cs.all pY
 |.tup cs=>cs.all uC
 |d=>pY d
def fin(σ:Sto)(ls:List Nat)(r:D):D×Sto:=
 match sW r with
 |true=>(r,σ)
 |false=>((mat σ.nx r).1,(σ.frz ls).adds (mat σ.nx r).2)
inductive Ex where
 |nrm
 |exit (id:Nat)
 |ret
inductive Job where
 |code (c:C) (e:Env) (σ:Sto)
 |ops (l:List Ins) (e:Env) (σ:Sto)
 |call (p:Bool) (f:D) (args:List D) (σ:Sto)
inductive Out where
 |code (x:Ex) (e:Env) (σ:Sto)
 |val (d:D) (σ:Sto)
def put(e:Env):Option Nat→D→Env
 |some t,d=>e.set t d
 |none,_=>e
def sE:Env→Nat→List D→Env
 |e,_,[]=>e
 |e,t,d::ds=>sE (e.set t d) (Nat.succ t) ds
def yW(e:Env)(σ:Sto):Nat×Option Nat→Option D
 |(t,none)=>e.get t
 |(t,some n)=>match e.get t with
  |some a=>match at_ σ.get a with
   |some cs=>match n with
    |0=>match cs with
     |d::_=>some d
     |[]=>none
    |n=>match cut 0 n cs with
     |some r=>some (.agg r)
     |none=>none
   |none=>none
  |none=>none
def vY(e:Env)(σ:Sto):List (Nat×Option Nat)→Option (List D)
 |[]=>some []
 |r::rs=>match yW e σ r,vY e σ rs with
  |some d,some ds=>some (d::ds)
  |_,_=>none
def qx(e:Env)(σ:Sto)(rs:List (Nat×Option Nat)):Option D:=
 match vY e σ rs with
 |some [d]=>some d
 |some ds=>some (.tup ds)
 |none=>none
def fj:Nat:=60
def xL:List Nat→Env→Env
 |[],_=>.nil
 |t::ls,e=>match e.get t with
  |some d=>(xL ls e).set t d
  |none=>xL ls e
def gdv(e:Env):Option (Nat×Bool)→Option Bool
 |none=>some true
 |some (t,want)=>match e.get t with
  |some (.b p)=>some (p==want)
  |some (.tup _)=>some false
  |_=>none
def run(Δ:Tr Ent):Nat→Job→Option Out
 |0,_=>none
 |k+1,.code c e σ=>match c with
  |.bad=>none
  |.skip=>some (.code .nrm e σ)
  |.reg l=>run Δ k (.ops l e σ)
  |.seq a b=>match run Δ k (.code a e σ)with
   |some (.code .nrm e σ)=>run Δ k (.code b e σ)
   |r=>r
  |.cond x a b=>match x.ev e with
   |.b true=>run Δ k (.code a e σ)
   |.b false=>run Δ k (.code b e σ)
   |_=>none
  |.block id c=>match run Δ k (.code c e σ)with
   |some (.code (.exit j) e σ)=>cond (Nat.beq j id) (some (.code .nrm e σ)) (some (.code (.exit j) e σ))
   |r=>r
  |.loop c=>match run Δ k (.code c e σ)with
   |some (.code .nrm e σ)=>run Δ k (.code (.loop c) e σ)
   |r=>r
  |.exit id=>some (.code (.exit id) e σ)
  |.ret=>some (.code .ret e σ)
  |.cut ls c=>run Δ k (.code c (xL ls e) σ)
 |_+1,.ops [] e σ=>some (.code .nrm e σ)
 |k+1,.ops (i::l) e σ=>
  match gdv e i.gd with
  |none=>none
  |some false=>run Δ k (.ops l (put e i.dst (.tup [])) σ)
  |some true=>match i.op with
   |.call p f as=>match run Δ k (.call p (f.ev e) (as.map (X.ev e)) σ)with
    |some (.val d σ)=>run Δ k (.ops l (put e i.dst d) σ)
    |_=>none
   |o=>match evA σ.nx (X.ev e) σ.get o with
    |some (d,bs)=>run Δ k (.ops l (put e i.dst d) (σ.adds bs))
    |none=>match evW (X.ev e) σ o with
     |some (d,σ)=>run Δ k (.ops l (put e i.dst d) σ)
     |none=>none
 |k+1,.call p f as σ=>match f with
  |.fn f caps=>match Δ.get f with
   |none=>none
   |some (.model M)=>match gr (res σ.get fj) (as++caps)with
    |some (as,ls)=>match M as with
     |some r=>some (.val (fin σ ls r).1 (fin σ ls r).2)
     |none=>none
    |none=>none
   |some (.body F)=>match !p&&Nat.beq F.mode 2 with
    |true=>match run Δ k (.code F.body (sE .nil 0 (as++caps)) σ)with
     |some (.code x e σ)=>match x with
      |.exit _=>none
      |_=>match qx e σ F.res with
       |some d=>some (.val d σ)
       |none=>none
     |_=>none
    |false=>match gr (res σ.get fj) (as++caps)with
     |some (as,ls)=>match run Δ k (.code F.body (sE .nil 0 as) Sto.empty)with
      |some (.code x e σ')=>match x with
       |.exit _=>none
       |_=>match qx e σ' F.res with
        |some d=>match mT (!Nat.beq F.mode 0) σ'.get fj d with
         |some r=>some (.val (fin σ ls r).1 (fin σ ls r).2)
         |none=>none
        |none=>none
      |_=>none
     |none=>none
  |_=>none
def ZV(l:List UInt8):D:=if ep (ej l 0)=l then .n (ej l 0)else .s l
def cV1:Value→D
 |.int k n=>.i k n
 |.bool b=>.b b
 |.string s=>ZV s.data.toList
 |.pointer none=>.np
 |.nilFunc=>.nf
 |.slice none 0 0=>.tree [] 0 true
 |_=>.u
def cV:Value→D
 |.agg cs=>.agg (cs.toList.map cV1)
 |v=>cV1 v
def zc(v:Value):List D:=v.cells.toList.map cV1
section
variable (P:Program) (im:Nat→Option Nat)
def cX:Operand→X
 |.tmp t=>.t t
 |.const v=>.c (cV v)
 |.func f=>match im f with
  |some k=>.c (.fn k [])
  |none=>.c .u
 |.global _=>.c .u
def jH(t:TypeId):Nat:=match P.info? t with
 |some i=>i.size
 |none=>0
def D4(t:TypeId):Nat:=match P.info? t with
 |some i=>i.bytes
 |none=>0
def qG(t:TypeId):Option Value:=match P.info? t with
 |some i=>i.zero
 |none=>none
def De(t:TypeId):Bool:=match P.underlying t with
 |some (.struct _)=>true
 |some (.array _ _)=>true
 |_=>false
def z9(f:TypeId→Option (List Nat)):Nat→List Field→Option (List Nat)
 |_,[]=>some []
 |pos,fd::fs=>if fd.name= "_" then none else if fd.offset≠pos then none else match f fd.type with
  |some l=>match z9 f (pos+l.length) fs with
   |some r=>some (l++r)
   |none=>none
  |none=>none
def wP:Nat→TypeId→Option (List Nat)
 |0,_=>none
 |d+1,t=>match P.underlying t with
  |some .bool=>if jH P t=1 then some [1]else none
  |some (.int _)=>if jH P t=1 then some [0]else none
  |some .string=>if jH P t=1 then some [2]else none
  |some (.struct fs)=>if P.stoodInHeld t then none else match z9 (wP d) 0 fs.toList with
   |some l=>if l.length=jH P t then some l else none
   |none=>none
  |_=>none
def D2(places:List (Nat×Nat)):List (Nat×Operand)→Option (List (Nat×Nat×X))
 |[]=>some []
 |(i,x)::r=>match places[i]?,D2 places r with
  |some p,some l=>some ((p.1,p.2,cX im x)::l)
  |_,_=>none
def gx(c:Call):O:=
 match c.callee with
 |.invoke .. =>.bad
 |.value f=>
  match f with
  |.func F=>match P.funcs[F]?with
   |some fn=>
    if fn.body.isNone&&fn.origin== "" then
     if fn.name== "math/bits.Add64" then match c.args.toList with
      |[x,y,z]=>.add64 (cX im x) (cX im y) (cX im z)
      |_=>.bad
     else if fn.name== "math/bits.Sub64" then match c.args.toList with
      |[x,y,z]=>.sub64 (cX im x) (cX im y) (cX im z)
      |_=>.bad
     else .bad
    else if fn.body.isNone then .bad else .call false (cX im f) (c.args.toList.map (cX im))
   |none=>.bad
  |.tmp t=>.call false (.t t) (c.args.toList.map (cX im))
  |_=>.bad
 |.builtin b=>match b,c.args.toList,c.argTypes.toList with
  |.len,[x],[t]=>match P.underlying t with
   |some .string=>.lens (cX im x)
   |some (.slice _)=>.len (cX im x)
   |_=>.bad
  |.append,[x,y],[t,u]=>match P.underlying t,P.underlying u with
   |some (.slice el),some (.slice _)=>match qG P el with
    |some z=>if 0<jH P el&&(zc z).length==jH P el then .app (jH P el) (D4 P el) (cX im x) (cX im y)else .bad
    |none=>.bad
   |_,_=>.bad
  |.copy,[x,y],[t,u]=>match P.underlying t,P.underlying u with
   |some (.slice el),some (.slice _)=>if 0<jH P el then .copy (jH P el) (cX im x) (cX im y)else .bad
   |_,_=>.bad
  |.clear,[x],[t]=>match P.underlying t with
   |some (.slice el)=>match qG P el with
    |some z=>.clr (jH P el) (zc z) (cX im x)
    |none=>.bad
   |_=>.bad
  |.max,[x,y],_=>.max (cX im x) (cX im y)
  |.min,[x,y],_=>.min (cX im x) (cX im y)
  |_,_,_=>.bad
def Ys:Value→Bool
 |.slice none 0 0=>true
 |_=>false
def Ty:Operand→Bool
 |.const v=>Ys v
 |_=>false
def cOp(o:Op):O:=
 match o with
 |.move x=>.mv (cX im x)
 |.assign x=>.mv (cX im x)
 |.pick c a b=>.pick (cX im c) (cX im a) (cX im b)
 |.alloc el=>match qG P el with
  |some z=>.alloc (zc z)
  |none=>.bad
 |.box _ x=>.box (cX im x)
 |.build t parts=>match P.underlying t,qG P t with
  |some (.struct fs),some z=>match fs.toList.mapM (λf=>(P.info? f.type).map λi=>(f.offset,i.size))with
   |some places=>match D2 im places parts.toList with
    |some l=>.build (zc z) l
    |none=>.bad
   |none=>.bad
  |_,_=>.bad
 |.buildSlice t len parts=>match P.underlying t with
  |some (.slice el)=>match qG P el with
   |some z=>if len*jH P el≤16777216&&(zc z).length==jH P el&&0<jH P el then
    .bsl len (zc z) (parts.toList.map λp=>(p.1*jH P el,jH P el,cX im p.2))else .bad
   |none=>.bad
  |_=>.bad
 |.load t a=>match P.underlying t with
  |none=>.bad
  |some _=>if De P t then .loadn (jH P t) (cX im a)else .load1 (cX im a)
 |.store t a x=>match P.info? t with
  |none=>.bad
  |some i=>.store i.size (cX im a) (cX im x)
 |.nilCheck x=>.nilc (cX im x)
 |.binOp op t x y _=>match P.underlying t with
  |some (.struct _)=>match op with
   |.eql=>if P.eqGuardType P.depth t then .bad else match wP P 8 t with
    |some ks=>.eqs false ks (cX im x) (cX im y)
    |none=>.bad
   |.neq=>if P.eqGuardType P.depth t then .bad else match wP P 8 t with
    |some ks=>.eqs true ks (cX im x) (cX im y)
    |none=>.bad
   |_=>.bad
  |some (.slice _)=>if Ty y then match op with
   |.eql=>.isnil false (cX im x)
   |.neq=>.isnil true (cX im x)
   |_=>.bad
   else .bad
  |some .bool=>.binb op (cX im x) (cX im y)
  |some .string=>.bin op (cX im x) (cX im y)
  |some (.int _)=>.bin op (cX im x) (cX im y)
  |_=>.bad
 |.unOp op _ x=>match op with
  |.neg=>.neg (cX im x)
  |.not=>.not (cX im x)
  |_=>.bad
 |.convert s d x=>match P.underlying s,P.underlying d with
  |some (.int _),some (.int k)=>.toInt k (cX im x)
  |some .string,some .string=>.sid (cX im x)
  |some (.slice e),some .string=>match P.underlying e with
   |some (.int .u8)=>.b2s (cX im x)
   |_=>.bad
  |some .string,some (.slice e)=>match P.underlying e with
   |some (.int .u8)=>.s2b (cX im x)
   |_=>.bad
  |_,_=>.bad
 |.makeFunc (.func f) first caps=>match im f,first.toList with
  |some k,[]=>.mkfn k (caps.toList.map (cX im))
  |_,_=>.bad
 |.makeSlice t l c=>match P.underlying t with
  |some (.slice el)=>match qG P el with
   |some z=>if(zc z).length==jH P el&&0<jH P el then .mksl (jH P el) (D4 P el) (zc z) (cX im l) (cX im c)else .bad
   |none=>.bad
  |_=>.bad
 |.slice t x lo hi mx=>match P.underlying t with
  |some (.slice el)=>if(hi.isNone&&mx.isSome)||jH P el=0 then .bad else .slice (jH P el) (cX im x) (lo.map (cX im)) (hi.map (cX im)) (mx.map (cX im))
  |some .string=>if mx.isSome then .bad else .slstr (cX im x) (lo.map (cX im)) (hi.map (cX im))
  |_=>.bad
 |.fieldAddr s x f=>match P.underlying s with
  |some (.struct fs)=>match fs[f]?with
   |some f=>if jH P f.type=0 then .bad else .faddr f.offset (cX im x)
   |none=>.bad
  |_=>.bad
 |.field s x f=>match P.underlying s with
  |some (.struct fs)=>match fs[f]?with
   |some f=>match P.underlying f.type with
    |some _=>if De P f.type then .fieldn f.offset (jH P f.type) (cX im x)else .field1 f.offset (cX im x)
    |none=>.bad
   |none=>.bad
  |_=>.bad
 |.indexAddr t x i=>match P.underlying t with
  |some (.slice el)=>if jH P el=0 then .bad else .iaddr (jH P el) (cX im x) (cX im i)
  |_=>.bad
 |.index t x i=>match P.underlying t with
  |some .string=>.index (cX im x) (cX im i)
  |_=>.bad
 |.extract x i=>.ext (cX im x) i
 |.call c=>gx P im c
 |_=>.bad
def cGd(ops:List Oper):Option (Nat×Bool)→Option (Option (Nat×Bool))
 |none=>some none
 |some (j,want)=>match ops[j]?with
  |some q=>match q.dst with
   |some t=>some (some (t,want))
   |none=>none
  |none=>none
def KQ(nt:Nat):Option Nat→O→O
 |some t,q=>if t<nt then q else .bad
 |none,q=>q
def vQ:Nat:=1000000
def puO:O→O
 |.load1 a=>.pld1 a
 |.loadn n a=>.pldn n a
 |.slice sz x a b c=>.psl sz x a b c
 |.iaddr sz x i=>.pia sz x i
 |.bsl n z l=>.pbs n z l
 |q=>q
def puB:O→O
 |.bsl n z l=>if z.length=1 then .bsl n z l else .pbs n z l
 |q=>puO q
def kpO(nt:Nat)(q:O):O:=
 if 3*vQ≤nt then puB q else if 2*vQ≤nt then puO q else match q with
 |.app sz bytes x y=>if vQ≤nt then .appk sz bytes x y else .app sz bytes x y
 |q=>q
def sk(nt:Nat)(ops:List Oper)(o:Oper):Ins:=
 match cGd ops o.guard with
 |none=>⟨o.dst,none,.bad⟩
 |some gd=>⟨o.dst,gd,KQ (nt%vQ) o.dst (kpO nt (cOp P im o.op))⟩
def xa(A:List Nat):List Edge→Nat
 |[]=>0
 |e::r=>if Region.binds .any e then(2^e.on|||(A[e.on]?).getD 0)|||xa A r else xa A r
def BV(A:List Nat):List Oper→List Nat
 |[]=>[]
 |o::r=>xa A o.after.toList::BV (A++[xa A o.after.toList]) r
def ui(ops:List Oper):List Nat:=BV [] ops
def xT:X→List Nat
 |.t n=>[n]
 |.c _=>[]
def xsT(l:List X):List Nat:=l.flatMap xT
def oT:Option X→List Nat
 |some x=>xT x
 |none=>[]
def O.reads:O→List Nat
 |.bad=>[]
 |.mv x=>xT x
 |.pick c a b=>xsT [c,a,b]
 |.alloc _=>[]
 |.box x=>xT x
 |.build _ l=>xsT (l.map (·.2.2))
 |.bsl _ _ l=>xsT (l.map (·.2.2))
 |.load1 a=>xT a
 |.loadn _ a=>xT a
 |.store _ a x=>xsT [a,x]
 |.nilc x=>xT x
 |.isnil _ x=>xT x
 |.bin _ x y=>xsT [x,y]
 |.binb _ x y=>xsT [x,y]
 |.eqs _ _ x y=>xsT [x,y]
 |.neg x=>xT x
 |.not x=>xT x
 |.toInt _ x=>xT x
 |.sid x=>xT x
 |.b2s x=>xT x
 |.s2b x=>xT x
 |.mkfn _ l=>xsT l
 |.mksl _ _ _ l c=>xsT [l,c]
 |.slice _ x a b c=>xT x++(oT a++(oT b++oT c))
 |.slstr x a b=>xT x++(oT a++oT b)
 |.faddr _ x=>xT x
 |.field1 _ x=>xT x
 |.fieldn _ _ x=>xT x
 |.iaddr _ x i=>xsT [x,i]
 |.index x i=>xsT [x,i]
 |.ext x _=>xT x
 |.len x=>xT x
 |.lens x=>xT x
 |.max x y=>xsT [x,y]
 |.min x y=>xsT [x,y]
 |.add64 x y c=>xsT [x,y,c]
 |.sub64 x y c=>xsT [x,y,c]
 |.call _ f l=>xsT (f::l)
 |.pld1 a=>xT a
 |.pldn _ a=>xT a
 |.psl _ x a b c=>xT x++(oT a++(oT b++oT c))
 |.pia _ x i=>xsT [x,i]
 |.pbs _ _ l=>xsT (l.map (·.2.2))
 |.app _ _ x y=>xsT [x,y]
 |.appk _ _ x y=>xsT [x,y]
 |.copy _ x y=>xsT [x,y]
 |.clr _ _ x=>xT x
 |.apart a x=>xsT [a,x]
def Ins.reads(i:Ins):List Nat:=i.op.reads++(match i.gd with
 |some (t,_)=>[t]
 |none=>[])
def blind:O→Bool
 |.mv _=>true
 |.pick .. =>true
 |.bin .. =>true
 |.binb .. =>true
 |.neg _=>true
 |.not _=>true
 |.toInt .. =>true
 |.sid _=>true
 |.field1 .. =>true
 |.fieldn .. =>true
 |.index .. =>true
 |.ext .. =>true
 |.len _=>true
 |.lens _=>true
 |.max .. =>true
 |.min .. =>true
 |.add64 .. =>true
 |.sub64 .. =>true
 |.apart .. =>true
 |.pld1 .. =>true
 |.pldn .. =>true
 |.psl .. =>true
 |.pia .. =>true
 |.pbs .. =>true
 |_=>false
def qq:O→Bool
 |.bad=>true
 |.store .. =>true
 |.app .. =>true
 |.appk .. =>true
 |.copy .. =>true
 |.clr .. =>true
 |.call p _ _=> !p
 |_=>false
def O.adr:O→Option X
 |.load1 x=>some x
 |.loadn _ x=>some x
 |.b2s x=>some x
 |.nilc x=>some x
 |.isnil _ x=>some x
 |.slice _ x _ _ _=>some x
 |.faddr _ x=>some x
 |.iaddr _ x _=>some x
 |_=>none
def Yz:D→Bool
 |.sl .. =>true
 |.ptr .. =>true
 |_=>false
def Sa(q:O):Bool:=match q.adr with
 |some (.c d)=> !Yz d
 |_=>true
structure Pl where
 i:Ins
 bs:Nat
def lone(l:List Pl)(k:Nat)(bs:Nat):Nat→List Pl→Bool
 |_,[]=>true
 |j,q::r=>(blind q.i.op||Nat.beq j k||(if j<k then bs.testBit j else q.bs.testBit k))&&lone l k bs (j+1) r
def H5(s:Nat)(l:List Pl):Bool:=l.all λr=>match r.i.dst with
 |some t=> !Nat.beq t s
 |none=>true
def ES:X→Option Nat
 |.t s=>some s
 |.c _=>none
def xH:O→Option Nat
 |.load1 x=>ES x
 |.loadn _ x=>ES x
 |_=>none
def far(l:List Pl)(o:O):Bool:=match xH o with
 |some s=>H5 s l
 |none=>false
def ED:O→Option Nat
 |.app _ _ x _=>ES x
 |.store _ x _=>ES x
 |_=>none
def S7(l:List Pl)(k:Nat)(o:O):Bool:=match ED o with
 |some s=>H5 s (l.drop k)
 |none=>false
def Eh(l:List Pl)(k:Nat)(bs:Nat):Nat→List Pl→Bool
 |_,[]=>true
 |j,q::r=>(blind q.i.op||far l q.i.op||Nat.beq j k||(if j<k then bs.testBit j else q.bs.testBit k))&&Eh l k bs (j+1) r
def w9(l:List Pl)(k bs:Nat)(s:Nat):Nat→List Pl→List Ins
 |_,[]=>[]
 |j,q::r=>(match xH q.i.op with
  |some a=>if far l q.i.op&& !(if j<k then bs.testBit j else q.bs.testBit k)then[⟨none,none,.apart (.t a) (.t s)⟩]else[]
  |none=>[])++w9 l k bs s (j+1) r
def uP(l:List Pl):Nat→List Pl→List Ins
 |_,[]=>[]
 |k,x::r=>(match ED x.i.op with
  |some s=>w9 l k x.bs s 0 l
  |none=>[])++uP l (k+1) r
def J0(x:Ins)(j:Nat)(y:Pl):Bool:=
 y.bs.testBit j||((match x.dst with
  |some t=> !y.i.reads.contains t
  |none=>true)&&(match y.i.dst with
  |some t=> !x.reads.contains t
  |none=>true))
def Rj(x y:Ins):Bool:=match x.dst,y.dst with
 |some t,some u=> !Nat.beq t u
 |_,_=>true
def zZ:Nat→List Pl→Bool
 |_,[]=>true
 |j,x::r=>(r.all λy=>J0 x.i j y&&Rj x.i y.i)&&zZ (j+1) r
def XE(l:List Pl)(k:Nat)(x:Pl):Pl:=match x.i.op with
 |.call _ f as=>⟨⟨x.i.dst,x.i.gd,.call (!lone l k x.bs 0 l) f as⟩,x.bs⟩
 |_=>x
def Az(l:List Pl):Nat→List Pl→List Pl
 |_,[]=>[]
 |k,x::r=>XE l k x::Az l (k+1) r
def Hk(l:List Pl):Nat→List Pl→Bool
 |_,[]=>true
 |k,x::r=>(!qq x.i.op||lone l k x.bs 0 l||(S7 l k x.i.op&&Eh l k x.bs 0 l))&&Hk l (k+1) r
def places(nt:Nat)(ops:List Oper):List Pl:=
 let l:=List.zipWith (λo b=>Pl.mk (sk P im nt ops o) b) ops (ui ops)
 Az l 0 l
def D8:Nat→List Oper→Bool
 |_,[]=>true
 |i,o::r=>(o.after.toList.all λe=> !Region.binds .any e||e.on<i)&&D8 (i+1) r
def Am(ops:List Oper)(l:List Pl):Bool:=
 D8 0 ops&&Hk l 0 l&&zZ 0 l&&l.all λq=>Sa q.i.op
def Ie(nt:Nat)(ops:List Oper)(draw:Bool):C:=
 if draw then
  if Am ops (places P im nt ops)then .reg ((places P im nt ops).map (·.i)++uP (places P im nt ops) 0 (places P im nt ops))else .bad
 else .reg (ops.map (sk P im nt ops))
def jr(nt:Nat):Code→C
 |.skip=>.skip
 |.label _=>.skip
 |.region _ ops draw=>Ie P im nt ops.toList draw
 |.seq a b=>.seq (jr nt a) (jr nt b)
 |.cond x a b=>.cond (cX im x) (jr nt a) (jr nt b)
 |.block id c=>.block id (jr nt c)
 |.loop c=>.loop (jr nt c)
 |.scope c=>jr nt c
 |.exit id=>.exit id
 |.ret=>.ret
 |_=>.bad
def BU:ResultVar→Nat×Option Nat
 |.tmp t=>(t,none)
 |.cell a t=>(a,some (if De P t then jH P t else 0))
def zR:ResultVar→Bool
 |.tmp _=>true
 |.cell _ t=>match P.underlying t with
  |some _=> !De P t||jH P t != 0
  |none=>false
def ntF(mode n:Nat):Nat:=if 10≤mode then n+vQ*(mode/10)else n
theorem Q4(mode n:Nat):ntF mode n%vQ≤n:=by
 unfold ntF;split
 ·rw[cr];exact z23 _ _
 ·exact z23 _ _
def xX(mode:Nat)(fn:Func):Fun:=
 ⟨fn.params.size,fn.results.toList.map (BU P),mode,match fn.body with
  |some c=>if fn.results.toList.all (zR P)then jr P im (ntF mode fn.ntmps) c else .bad
  |none=>.bad⟩
end
theorem ON{n:Nat}(h:n≠0):Nat.beq n 0=false:=by
 cases n with
 |zero=>exact absurd rfl h
 |succ n=>rfl
theorem Tr.get_nil{α:Type}(n:Nat):(Tr.nil:Tr α).get n=none:=rfl
theorem Tr.get_node{α:Type}(v:Option α)(l r:Tr α)(n:Nat):
 (Tr.node v l r).get n=if n=0 then v else if n%2=1 then l.get (n/2)else r.get (n/2-1):=by
 show cond (Nat.beq n 0) v (cond (Nat.beq (Nat.mod n 2) 1) (l.get (Nat.div n 2)) (r.get (Nat.pred (Nat.div n 2))))=_;by_cases h:n=0
 ·subst h;rfl
 ·have h1:Nat.beq n 0=false:=ON h;rw[h1,aF h];by_cases h2:n%2=1
  ·have h3:Nat.beq (Nat.mod n 2) 1=true:=by show Nat.beq (n%2) 1=true;rw[h2];rfl
   rw[h3,aC h2];rfl
  ·have h3:Nat.beq (Nat.mod n 2) 1=false:=by
    have:n%2=0:=by omega
    show Nat.beq (n%2) 1=false;rw[this];rfl
   rw[h3,aF h2];rfl
theorem Tr.get_setF{α:Type}(x:α):∀(k:Nat)(t:Tr α)(n m:Nat),n<k→(Tr.setF k t n x).get m=if m=n then some x else t.get m:=by
 intro k
 induction k with
 |zero=>intro t n m h;omega
 |succ k ih=>
  intro t n m h;have key:∀(v:Option α)(l r:Tr α),(cond (Nat.beq n 0) (Tr.node (some x) l r)
   (cond (Nat.beq (Nat.mod n 2) 1) (Tr.node v (Tr.setF k l (Nat.div n 2) x) r) (Tr.node v l (Tr.setF k r (Nat.pred (Nat.div n 2)) x)))).get m=if m=n then some x else(Tr.node v l r).get m:=by
   intro v l r;by_cases h0:n=0
   ·subst h0;show(Tr.node (some x) l r).get m=_;rw[Tr.get_node,Tr.get_node];by_cases hm:m=0<;>simp[hm]
   ·have h1:Nat.beq n 0=false:=ON h0;rw[h1];by_cases h2:n%2=1
    ·have h3:Nat.beq (Nat.mod n 2) 1=true:=by show Nat.beq (n%2) 1=true;rw[h2];rfl
     rw[h3];show(Tr.node v (Tr.setF k l (n/2) x) r).get m=_;rw[Tr.get_node,Tr.get_node,ih _ _ _ (by omega)];by_cases hm:m=0
     ·subst hm;rw[aC rfl,aF (by omega),aC rfl]
     ·rw[aF hm,aF hm];by_cases hm2:m%2=1
      ·rw[aC hm2,aC hm2];by_cases he:m=n
       ·rw[aC (by omega),aC he]
       ·rw[aF (by omega),aF he]
      ·rw[aF hm2,aF hm2,aF (by intro e;subst e;exact hm2 h2)]
    ·have h3:Nat.beq (Nat.mod n 2) 1=false:=by
      have:n%2=0:=by omega
      show Nat.beq (n%2) 1=false;rw[this];rfl
     rw[h3];show(Tr.node v l (Tr.setF k r (n/2-1) x)).get m=_;rw[Tr.get_node,Tr.get_node,ih _ _ _ (by omega)];by_cases hm:m=0
     ·subst hm;rw[aC rfl,aF (by omega),aC rfl]
     ·rw[aF hm,aF hm];by_cases hm2:m%2=1
      ·rw[aC hm2,aC hm2,aF (by intro e;subst e;exact h2 hm2)]
      ·rw[aF hm2,aF hm2];by_cases he:m=n
       ·rw[aC (by omega),aC he]
       ·rw[aF (by omega),aF he]
  cases t with
  |nil=>
   have:=key none .nil .nil;simp only[Tr.setF];rw[this,Tr.get_node,Tr.get_nil,Tr.get_nil,Tr.get_nil];by_cases hm:m=n<;>simp[hm]
  |node v l r=>simp only[Tr.setF];exact key v l r
theorem Tr.get_set{α:Type}(t:Tr α)(n m:Nat)(x:α):(t.set n x).get m=if m=n then some x else t.get m:=
 Tr.get_setF x _ t n m (cR n)
theorem Sto.get_put(σ:Sto)(l m:Nat)(b:Blk):(σ.put l b).get m=if m=l then some b else σ.get m:=Tr.get_set _ _ _ _
theorem Sto.nx_put(σ:Sto)(l:Nat)(b:Blk):(σ.put l b).nx=σ.nx:=rfl
theorem Sto.get_add1(σ:Sto)(b:Blk)(m:Nat):(σ.adds [b]).get m=if m=σ.nx then some b else σ.get m:=Tr.get_set _ _ _ _
def okN(ok:Nat→Nat→Prop)(b o n:Nat):Prop:=∀j,j<n→ok b (o+j)
theorem okN.mono{ok ok':Nat→Nat→Prop}(h:∀b o,ok b o→ok' b o){b o n:Nat}(k:okN ok b o n):okN ok' b o n:=λj hj=>h _ _ (k j hj)
theorem okN.part{ok:Nat→Nat→Prop}{b o n o' n':Nat}(k:okN ok b o n)(h1:o≤o')(h2:o'+n'≤o+n):okN ok b o' n':=λj hj=>by
 have:=k (o'-o+j) (by omega);rwa[show o+(o'-o+j)=o'+j by omega]at this
theorem okN.drop{ok:Nat→Nat→Prop}{b o:Nat}{α:Type}{cs:List α}(k:okN ok b o cs.length)(n:Nat):okN ok b (o+n) (cs.drop n).length:=λj hj=>by
 rw[dJ]at hj;have:=k (n+j) (by omega);rwa[show o+(n+j)=o+n+j by omega]at this
theorem okN.take{ok:Nat→Nat→Prop}{b o:Nat}{α:Type}{cs:List α}(k:okN ok b o cs.length)(n:Nat):okN ok b o (cs.take n).length:=λj hj=>k j (by rw[aZ]at hj;omega)
section
variable (im:Nat→Option Nat)
mutual
def TR(w:World)(ok:Nat→Nat→Prop):D→Value→Prop
 |.u,_=>False
 |.i k n,v=>v=.int k n
 |.b x,v=>v=.bool x
 |.s l,v=>v=.string ⟨l.toArray⟩
 |.n m,v=>v=.string ⟨(ep m).toArray⟩
 |.np,v=>v=.pointer none
 |.nf,v=>v=.nilFunc
 |.tree cs len ex,v=>∃a cap,v=.slice a len cap∧len≤cap∧(ex=true→cap=len)∧(cs≠[]→∃ad:Addr,a=some ad∧ad.spot=none∧okN ok ad.block ad.off cs.length∧TRc w ok cs ad.block ad.off)
 |.own _ _ _,_=>False
 |.sl _ _ _ _ _ _,_=>False
 |.ptr _ _,_=>False
 |.fp cs,v=>∃ad:Addr,v=.pointer (some ad)∧ad.spot=none∧okN ok ad.block ad.off cs.length∧TRc w ok cs ad.block ad.off
 |.agg cs,v=>∃arr:Array Value,v=.agg arr∧TRl w ok cs arr.toList
 |.tup cs,v=>∃arr:Array Value,v=.tuple arr∧TRl w ok cs arr.toList
 |.fn f cs,v=>∃F:Nat,∃arr:Array Value,im F=some f∧v=.func (.func F) #[] arr∧TRl w ok cs arr.toList
def TRc(w:World)(ok:Nat→Nat→Prop):List D→Nat→Nat→Prop
 |[],_,_=>True
 |d::ds,b,o=>(∃v,w.cell? ⟨b,o,none⟩=some v∧TR w ok d v)∧TRc w ok ds b (o+1)
def TRl(w:World)(ok:Nat→Nat→Prop):List D→List Value→Prop
 |[],vs=>vs=[]
 |d::ds,vs=>∃v r,vs=v::r∧TR w ok d v∧TRl w ok ds r
end
variable {im}
theorem nW{w w':World}{b o:Nat}(h:w'.heap[b]?=w.heap[b]?):w'.cell? ⟨b,o,none⟩=w.cell? ⟨b,o,none⟩:=by
 simp[World.cell?,h]
section
variable {w w':World} {ok ok':Nat→Nat→Prop} (h1:∀b o,ok b o→ok' b o) (h2:∀b o,ok b o→w'.cell? ⟨b,o,none⟩=w.cell? ⟨b,o,none⟩)
include h1 h2
mutual
theorem wa:∀(d:D)(v:Value),TR im w ok d v→TR im w' ok' d v
 |.u,_,h=>by simp[TR]at h
 |.i k n,v,h=>by simpa[TR]using h
 |.b x,v,h=>by simpa[TR]using h
 |.s l,v,h=>by simpa[TR]using h
 |.n m,v,h=>by simpa[TR]using h
 |.np,v,h=>by simpa[TR]using h
 |.nf,v,h=>by simpa[TR]using h
 |.tree cs len ex,v,h=>by
  simp only[TR]at h ⊢;obtain⟨a,cap,e,hl,hx,hc⟩:=h;exact⟨a,cap,e,hl,hx,λhn=>by
   obtain⟨ad,e1,e2,e3,e4⟩:=hc hn;exact⟨ad,e1,e2,e3.mono h1,Dn cs _ _ e3 e4⟩⟩
 |.own _ _ _,_,h=>by simp[TR]at h
 |.sl _ _ _ _ _ _,_,h=>by simp[TR]at h
 |.ptr _ _,_,h=>by simp[TR]at h
 |.fp cs,v,h=>by
  simp only[TR]at h ⊢;obtain⟨ad,e1,e2,e3,e4⟩:=h;exact⟨ad,e1,e2,e3.mono h1,Dn cs _ _ e3 e4⟩
 |.agg cs,v,h=>by
  simp only[TR]at h ⊢;obtain⟨arr,e,hl⟩:=h;exact⟨arr,e,AH cs _ hl⟩
 |.tup cs,v,h=>by
  simp only[TR]at h ⊢;obtain⟨arr,e,hl⟩:=h;exact⟨arr,e,AH cs _ hl⟩
 |.fn f cs,v,h=>by
  simp only[TR]at h ⊢;obtain⟨F,arr,hF,e,hl⟩:=h;exact⟨F,arr,hF,e,AH cs _ hl⟩
theorem Dn:∀(cs:List D)(b o:Nat),okN ok b o cs.length→TRc im w ok cs b o→TRc im w' ok' cs b o
 |[],_,_,_,_=>by simp[TRc]
 |d::ds,b,o,hb,h=>by
  simp only[TRc]at h ⊢;obtain⟨⟨v,hv,hd⟩,hr⟩:=h;exact⟨⟨v,by rw[h2 b o (hb 0 (by simp))];exact hv,wa d v hd⟩,Dn ds b (o+1) (hb.part (by omega) (by simp only[bD];omega)) hr⟩
theorem AH:∀(cs:List D)(vs:List Value),TRl im w ok cs vs→TRl im w' ok' cs vs
 |[],_,h=>by simpa[TRl]using h
 |d::ds,vs,h=>by
  simp only[TRl]at h ⊢;obtain⟨v,r,e,hd,hr⟩:=h;exact⟨v,r,e,wa d v hd,AH ds r hr⟩
end
end
def qm(w:World)(b:Nat):Nat:=match w.heap[b]?with
 |some (.cells arr _ _)=>arr.size
 |_=>0
theorem tH{w w':World}{b:Nat}(h:w'.heap[b]?=w.heap[b]?):qm w' b=qm w b:=by unfold qm;rw[h]
theorem nI{w:World}{b:Nat}{arr:Array Value}{el:TypeId}{fr:Nat×Nat}(h:w.heap[b]?=some (.cells arr el fr)):qm w b=arr.size:=by unfold qm;rw[h]
section
variable (im:Nat→Option Nat) (g:Nat→Option Blk) (μ:Nat→Nat×Nat) (w:World) (ok:Nat→Nat→Prop)
mutual
def VR:D→Value→Prop
 |.u,_=>True
 |.i k n,v=>v=.int k n
 |.b x,v=>v=.bool x
 |.s l,v=>v=.string ⟨l.toArray⟩
 |.n m,v=>v=.string ⟨(ep m).toArray⟩
 |.np,v=>v=.pointer none
 |.nf,v=>v=.nilFunc
 |.tree cs len ex,v=>TR im w ok (.tree cs len ex) v
 |.own _ _ _,_=>False
 |.sl l off len cm z ex,v=>∃b a cap,g l=some b∧v=.slice a len cap∧(b.st.live=true→len≤cm∧a=some ⟨(μ l).1,(μ l).2+off,none⟩∧cm≤cap∧(ex=true→cap=cm)∧(μ l).2+off+cap*z≤qm w (μ l).1)
 |.ptr l off,v=>∃b a,g l=some b∧v=.pointer a∧(b.st.live=true→a=some ⟨(μ l).1,(μ l).2+off,none⟩)
 |.fp cs,v=>TR im w ok (.fp cs) v
 |.agg cs,v=>∃arr:Array Value,v=.agg arr∧VRl cs arr.toList
 |.tup cs,v=>∃arr:Array Value,v=.tuple arr∧VRl cs arr.toList
 |.fn f cs,v=>∃F:Nat,∃arr:Array Value,im F=some f∧v=.func (.func F) #[] arr∧VRl cs arr.toList
def VRl:List D→List Value→Prop
 |[],vs=>vs=[]
 |d::ds,vs=>∃v r,vs=v::r∧VR d v∧VRl ds r
end
def VRc:List D→Nat→Nat→Prop
 |[],_,_=>True
 |d::ds,b,o=>(∃v,w.cell? ⟨b,o,none⟩=some v∧VR im g μ w ok d v)∧VRc ds b (o+1)
end
structure Rel (im:Nat→Option Nat) (g:Nat→Option Blk) (μ:Nat→Nat×Nat) (w:World) (ok okp:Nat→Nat→Prop) (base:Nat):Prop where
 blk:∀l b,g l=some b→b.st.live=true→(∃arr el fr,w.heap[(μ l).1]?=some (.cells arr el fr)∧∀o,o<arr.size→¬(fr.1≤o∧o<fr.2))∧VRc im g μ w ok b.cs (μ l).1 (μ l).2
 wrb:∀l b,g l=some b→b.st.wr=true→base≤(μ l).1∧∀o,¬ok (μ l).1 o
 apd:∀l b,g l=some b→b.st.own=true→base≤(μ l).1∧∀o,(μ l).2+b.cs.length≤o→¬ok (μ l).1 o
 frz:∀l b,g l=some b→b.st.live=true→b.st.wr=false→okN ok (μ l).1 (μ l).2 b.cs.length
 inj:∀l b l' b',g l=some b→g l'=some b'→b.st.own=true→b'.st.own=true→(μ l).1=(μ l').1→l=l'
 okl:∀b o,ok b o→b<w.heap.size∧(okp b o∨base≤b)
 okp:∀b o,okp b o→ok b o
 bas:base≤w.heap.size
structure Same (w w':World):Prop where
 os:w'.os=w.os
 out:w'.output=w.output
theorem Same.refl(w:World):Same w w:=⟨rfl,rfl⟩
theorem Same.trans{w w1 w2:World}(a:Same w w1)(b:Same w1 w2):Same w w2:=⟨b.os.trans a.os,b.out.trans a.out⟩
theorem Same.drew(w:World):Same w w.drew:=⟨rfl,rfl⟩
theorem Same.alloc(w:World)(c:Array Value)(t:TypeId):Same w (w.alloc (.cells c t)):=⟨rfl,rfl⟩
theorem Same.setCell(w:World)(a:Addr)(v:Value):Same w (w.setCell a v):=⟨rfl,rfl⟩
structure Stp (g:Nat→Option Blk) (μ:Nat→Nat×Nat) (w:World) (ok:Nat→Nat→Prop) (g':Nat→Option Blk) (μ':Nat→Nat×Nat) (w':World) (ok':Nat→Nat→Prop) (base:Nat):Prop where
 okk:∀b o,ok b o→ok' b o
 kept:∀b o,ok b o→w'.cell? ⟨b,o,none⟩=w.cell? ⟨b,o,none⟩
 low:∀b,b<base→w'.heap[b]?=w.heap[b]?
 locs:∀l b,g l=some b→∃b',g' l=some b'∧(b'.st.live=true→b.st.live=true∧μ' l=μ l∧qm w' (μ l).1=qm w (μ l).1)
 size:w.heap.size≤w'.heap.size
 sm:Same w w'
theorem Stp.refl(g:Nat→Option Blk)(μ:Nat→Nat×Nat)(w:World)(ok:Nat→Nat→Prop)(base:Nat):Stp g μ w ok g μ w ok base:=
 ⟨λ_ _ h=>h,λ_ _ _=>rfl,λ_ _=>rfl,λl b h=>⟨b,h,λh=>⟨h,rfl,rfl⟩⟩,aE _,.refl _⟩
theorem Stp.trans{g g1 g2:Nat→Option Blk}{μ μ1 μ2:Nat→Nat×Nat}{w w1 w2:World}{ok ok1 ok2:Nat→Nat→Prop}{base:Nat}
 (a:Stp g μ w ok g1 μ1 w1 ok1 base) (b:Stp g1 μ1 w1 ok1 g2 μ2 w2 ok2 base):Stp g μ w ok g2 μ2 w2 ok2 base:=
 ⟨λx o h=>b.okk x o (a.okk x o h),λx o h=>(b.kept x o (a.okk x o h)).trans (a.kept x o h),λx h=>(b.low x h).trans (a.low x h),
  λl x h=>by
   obtain⟨x1,h1,k1⟩:=a.locs l x h;obtain⟨x2,h2,k2⟩:=b.locs l x1 h1;refine⟨x2,h2,λhl=>?_⟩;obtain⟨q1,q2,q3⟩:=k2 hl;obtain⟨p1,p2,p3⟩:=k1 q1;exact⟨p1,q2.trans p2,by rw[←p3,←p2];exact q3⟩,
  bP a.size b.size,a.sm.trans b.sm⟩
section
variable {g g':Nat→Option Blk} {μ μ':Nat→Nat×Nat} {w w':World} {ok ok':Nat→Nat→Prop} {base:Nat} (s:Stp g μ w ok g' μ' w' ok' base)
include s
mutual
theorem o7:∀(d:D)(v:Value),VR im g μ w ok d v→VR im g' μ' w' ok' d v
 |.u,_,h=>by simp[VR]
 |.i k n,v,h=>by simpa[VR]using h
 |.b x,v,h=>by simpa[VR]using h
 |.s l,v,h=>by simpa[VR]using h
 |.n m,v,h=>by simpa[VR]using h
 |.np,v,h=>by simpa[VR]using h
 |.nf,v,h=>by simpa[VR]using h
 |.tree cs len ex,v,h=>by
  simp only[VR]at h ⊢;exact wa s.okk s.kept _ _ h
 |.own _ _ _,_,h=>by simp[VR]at h
 |.sl l off len cm z ex,v,h=>by
  simp only[VR]at h ⊢;obtain⟨b,a,cap,hb,e,h⟩:=h;obtain⟨b',hb',k⟩:=s.locs l b hb;exact⟨b',a,cap,hb',e,λhl=>by rw[(k hl).2.1,(k hl).2.2];exact h (k hl).1⟩
 |.ptr l off,v,h=>by
  simp only[VR]at h ⊢;obtain⟨b,a,hb,e,h⟩:=h;obtain⟨b',hb',k⟩:=s.locs l b hb;exact⟨b',a,hb',e,λhl=>by rw[(k hl).2.1];exact h (k hl).1⟩
 |.fp cs,v,h=>by
  simp only[VR]at h ⊢;exact wa s.okk s.kept _ _ h
 |.agg cs,v,h=>by
  simp only[VR]at h ⊢;obtain⟨arr,e,hl⟩:=h;exact⟨arr,e,uE cs _ hl⟩
 |.tup cs,v,h=>by
  simp only[VR]at h ⊢;obtain⟨arr,e,hl⟩:=h;exact⟨arr,e,uE cs _ hl⟩
 |.fn f cs,v,h=>by
  simp only[VR]at h ⊢;obtain⟨F,arr,hF,e,hl⟩:=h;exact⟨F,arr,hF,e,uE cs _ hl⟩
theorem uE:∀(cs:List D)(vs:List Value),VRl im g μ w ok cs vs→VRl im g' μ' w' ok' cs vs
 |[],_,h=>by simpa[VRl]using h
 |d::ds,vs,h=>by
  simp only[VRl]at h ⊢;obtain⟨v,r,e,hd,hr⟩:=h;exact⟨v,r,e,o7 d v hd,uE ds r hr⟩
end
theorem mq:∀(cs:List D)(b o:Nat),(∀j,j<cs.length→w'.cell? ⟨b,o+j,none⟩=w.cell? ⟨b,o+j,none⟩)→VRc im g μ w ok cs b o→VRc im g' μ' w' ok' cs b o
 |[],_,_,_,_=>by simp[VRc]
 |d::ds,b,o,hc,h=>by
  simp only[VRc]at h ⊢;obtain⟨⟨v,hv,hd⟩,hr⟩:=h;refine⟨⟨v,by have:=hc 0 (by simp);simp only[bH]at this;rw[this];exact hv,o7 s d v hd⟩,mq ds b (o+1) (λj hj=>?_) hr⟩;have:=hc (j+1) (by simp;omega);rwa[show o+(j+1)=o+1+j by omega]at this
end
mutual
theorem Dk{g:Nat→Option Blk}{μ:Nat→Nat×Nat}{w:World}{ok:Nat→Nat→Prop}:∀(d:D)(v:Value),TR im w ok d v→VR im g μ w ok d v
 |.u,_,h=>by simp[VR]
 |.i k n,v,h=>by simpa[VR,TR]using h
 |.b x,v,h=>by simpa[VR,TR]using h
 |.s l,v,h=>by simpa[VR,TR]using h
 |.n m,v,h=>by simpa[VR,TR]using h
 |.np,v,h=>by simpa[VR,TR]using h
 |.nf,v,h=>by simpa[VR,TR]using h
 |.tree cs len ex,v,h=>by simp only[VR];exact h
 |.own _ _ _,_,h=>by simp[TR]at h
 |.sl l off len cm z ex,v,h=>by simp[TR]at h
 |.ptr l off,v,h=>by simp[TR]at h
 |.fp cs,v,h=>by simp only[VR];exact h
 |.agg cs,v,h=>by
  simp only[VR,TR]at h ⊢;obtain⟨arr,e,hl⟩:=h;exact⟨arr,e,rn cs _ hl⟩
 |.tup cs,v,h=>by
  simp only[VR,TR]at h ⊢;obtain⟨arr,e,hl⟩:=h;exact⟨arr,e,rn cs _ hl⟩
 |.fn f cs,v,h=>by
  simp only[VR,TR]at h ⊢;obtain⟨F,arr,hF,e,hl⟩:=h;exact⟨F,arr,hF,e,rn cs _ hl⟩
theorem rn{g:Nat→Option Blk}{μ:Nat→Nat×Nat}{w:World}{ok:Nat→Nat→Prop}:∀(cs:List D)(vs:List Value),TRl im w ok cs vs→VRl im g μ w ok cs vs
 |[],_,h=>by simpa[VRl,TRl]using h
 |d::ds,vs,h=>by
  simp only[VRl,TRl]at h ⊢;obtain⟨v,r,e,hd,hr⟩:=h;exact⟨v,r,e,Dk d v hd,rn ds r hr⟩
end
end
end Go.Proofs.Ev
namespace Go.Proofs.Ev
section
variable {im:Nat→Option Nat} {g:Nat→Option Blk} {μ:Nat→Nat×Nat} {w:World} {ok okp:Nat→Nat→Prop} {base:Nat}
theorem yD{cs:List D}{b o:Nat}(h:VRc im g μ w ok cs b o){j:Nat}{d:D}(hj:cs[j]?=some d):∃v,w.cell? ⟨b,o+j,none⟩=some v∧VR im g μ w ok d v:=by
 induction cs generalizing o j with
 |nil=>simp at hj
 |cons x xs ih=>
  simp only[VRc]at h;cases j with
  |zero=>simp only[bF,aA]at hj;subst hj;exact h.1
  |succ j=>
   simp only[bR]at hj;have:=ih h.2 hj;rwa[show o+1+j=o+(j+1) by omega]at this
theorem yw{cs:List D}{b o:Nat}(h:∀(j:Nat)(d:D),cs[j]?=some d→∃v,w.cell? ⟨b,o+j,none⟩=some v∧VR im g μ w ok d v):VRc im g μ w ok cs b o:=by
 induction cs generalizing o with
 |nil=>simp[VRc]
 |cons x xs ih=>
  simp only[VRc];refine⟨by simpa using h 0 x rfl,ih λj d hj=>?_⟩;have:=h (j+1) d (by simpa using hj);rwa[show o+(j+1)=o+1+j by omega]at this
theorem Gh{cs:List D}{b o:Nat}(h:TRc im w ok cs b o){j:Nat}{d:D}(hj:cs[j]?=some d):∃v,w.cell? ⟨b,o+j,none⟩=some v∧TR im w ok d v:=by
 induction cs generalizing o j with
 |nil=>simp at hj
 |cons x xs ih=>
  simp only[TRc]at h;cases j with
  |zero=>simp only[bF,aA]at hj;subst hj;exact h.1
  |succ j=>
   simp only[bR]at hj;have:=ih h.2 hj;rwa[show o+1+j=o+(j+1) by omega]at this
theorem Dm{cs:List D}{b o:Nat}(h:∀(j:Nat)(d:D),cs[j]?=some d→∃v,w.cell? ⟨b,o+j,none⟩=some v∧TR im w ok d v):TRc im w ok cs b o:=by
 induction cs generalizing o with
 |nil=>simp[TRc]
 |cons x xs ih=>
  simp only[TRc];refine⟨by simpa using h 0 x rfl,ih λj d hj=>?_⟩;have:=h (j+1) d (by simpa using hj);rwa[show o+(j+1)=o+1+j by omega]at this
theorem yv{cs:List D}{b o:Nat}(h:TRc im w ok cs b o):VRc im g μ w ok cs b o:=
 yw λj d hj=>by obtain⟨v,hv,ht⟩:=Gh h hj;exact⟨v,hv,Dk d v ht⟩
theorem kK{cs:List D}{vs:List Value}:VRl im g μ w ok cs vs↔vs.length=cs.length∧∀(j:Nat)(d:D),cs[j]?=some d→∃v,vs[j]?=some v∧VR im g μ w ok d v:=by
 induction cs generalizing vs with
 |nil=>simp[VRl]
 |cons x xs ih=>
  simp only[VRl];constructor
  ·rintro ⟨v,r,rfl,hv,hr⟩
   obtain⟨hl,hr⟩:=ih.1 hr;refine⟨by simp[hl],λj d hj=>?_⟩;cases j with
   |zero=>simp only[bF,aA]at hj;subst hj;exact⟨v,rfl,hv⟩
   |succ j=>simpa using hr j d (by simpa using hj)
  ·rintro ⟨hl,h⟩
   cases vs with
   |nil=>simp at hl
   |cons v r=>
    refine⟨v,r,rfl,?_,ih.2 ⟨by simpa using hl,λj d hj=>by simpa using h (j+1) d (by simpa using hj)⟩⟩;obtain⟨v',e,hv⟩:=h 0 x rfl;simp only[bF,aA]at e;subst e;exact hv
theorem Mh{cs:List D}{vs:List Value}:TRl im w ok cs vs↔vs.length=cs.length∧∀(j:Nat)(d:D),cs[j]?=some d→∃v,vs[j]?=some v∧TR im w ok d v:=by
 induction cs generalizing vs with
 |nil=>simp[TRl]
 |cons x xs ih=>
  simp only[TRl];constructor
  ·rintro ⟨v,r,rfl,hv,hr⟩
   obtain⟨hl,hr⟩:=ih.1 hr;refine⟨by simp[hl],λj d hj=>?_⟩;cases j with
   |zero=>simp only[bF,aA]at hj;subst hj;exact⟨v,rfl,hv⟩
   |succ j=>simpa using hr j d (by simpa using hj)
  ·rintro ⟨hl,h⟩
   cases vs with
   |nil=>simp at hl
   |cons v r=>
    refine⟨v,r,rfl,?_,ih.2 ⟨by simpa using hl,λj d hj=>by simpa using h (j+1) d (by simpa using hj)⟩⟩;obtain⟨v',e,hv⟩:=h 0 x rfl;simp only[bF,aA]at e;subst e;exact hv
theorem jT{cs:List D}{vs:List Value}(h:VRl im g μ w ok cs vs):vs.length=cs.length:=(kK.1 h).1
theorem AN{d:D}{v:Value}(h:VR im g μ w ok d v)(h1:(kP d).all one=true):VRl im g μ w ok (kP d) v.cells.toList:=by
 cases d with
 |agg cs=>simp only[VR]at h;obtain⟨arr,rfl,hl⟩:=h;simpa[kP,Value.cells]using hl
 |u=>simp[kP,one]at h1
 |tup=>simp[kP,one]at h1
 |own=>simp[kP,one]at h1
 |tree cs len ex=>simp only[VR,TR]at h;obtain⟨a,cap,rfl,r⟩:=h;simp only[kP,Value.cells,VRl];exact⟨_,[],rfl,by simp only[VR,TR];exact⟨a,cap,rfl,r⟩,rfl⟩
 |fp cs=>simp only[VR,TR]at h;obtain⟨a,rfl,r⟩:=h;simp only[kP,Value.cells,VRl];exact⟨_,[],rfl,by simp only[VR,TR];exact⟨a,rfl,r⟩,rfl⟩
 |fn f cs=>simp only[VR]at h;obtain⟨F,arr,hF,rfl,r⟩:=h;simp only[kP,Value.cells,VRl];exact⟨_,[],rfl,by simp only[VR];exact⟨F,arr,hF,rfl,r⟩,rfl⟩
 |sl l off len cm z ex=>
  obtain⟨b,a,cap,hb,e,r⟩:∃b a cap,g l=some b∧v=.slice a len cap∧_:=by simpa only[VR]using h
  subst e;simp only[kP,Value.cells,VRl];exact⟨_,[],rfl,h,rfl⟩
 |ptr l off=>
  obtain⟨b,a,hb,e,r⟩:∃b a,g l=some b∧v=.pointer a∧_:=by simpa only[VR]using h
  subst e;simp only[kP,Value.cells,VRl];exact⟨_,[],rfl,h,rfl⟩
 |_=>simp only[VR]at h;subst h;simp[kP,Value.cells,VRl,VR]
theorem QW{d:D}{v:Value}(h:VR im g μ w ok d v)(h1:one d=true):v.oneCell'=true:=by
 cases d with
 |agg cs=>simp[one]at h1
 |u=>simp[one]at h1
 |tup=>simp[one]at h1
 |own=>simp[one]at h1
 |tree cs len ex=>simp only[VR,TR]at h;obtain⟨a,cap,rfl,r⟩:=h;rfl
 |fp cs=>simp only[VR,TR]at h;obtain⟨a,rfl,r⟩:=h;rfl
 |fn f cs=>simp only[VR]at h;obtain⟨F,arr,hF,rfl,r⟩:=h;rfl
 |sl l off len cm z ex=>simp only[VR]at h;obtain⟨b,a,cap,hb,rfl,r⟩:=h;rfl
 |ptr l off=>simp only[VR]at h;obtain⟨b,a,hb,rfl,r⟩:=h;rfl
 |_=>simp only[VR]at h;subst h;rfl
theorem gM{s:Stt}(h:s.own=true):s.live=true:=by cases s<;>simp_all [Stt.own,Stt.live]
theorem lJ{s:Stt}(h:s.wr=true):s.own=true:=by cases s<;>simp_all [Stt.wr,Stt.own]
theorem KC{s:Stt}(h:s.live=true)(h2:s.own=false):s.wr=false∧s=.frz:=by cases s<;>simp_all [Stt.own,Stt.live,Stt.wr]
theorem Rel.heap{w':World}(R:Rel im g μ w ok okp base)(e:w'.heap=w.heap)(sm:Same w w'):Rel im g μ w' ok okp base∧Stp g μ w ok g μ w' ok base:=by
 have st:Stp g μ w ok g μ w' ok base:=⟨λ_ _ h=>h,λ_ _ _=>nW (by rw[e]),λ_ _=>by rw[e],λl b h=>⟨b,h,λh=>⟨h,rfl,tH (by rw[e])⟩⟩,by rw[e];exact aE _,sm⟩
 refine⟨⟨λl b h hl=>?_,R.wrb,R.apd,R.frz,R.inj,λb o h=>by rw[e];exact R.okl b o h,R.okp,by rw[e];exact R.bas⟩,st⟩;obtain⟨h1,h2⟩:=R.blk l b h hl;exact⟨by rw[e];exact h1,mq st _ _ _ (λj _=>nW (by rw[e])) h2⟩
def upd{α:Type}(f:Nat→α)(l:Nat)(x:α):Nat→α:=λm=>if m=l then x else f m
theorem fC{α:Type}(f:Nat→α)(l:Nat)(x:α):upd f l x l=x:=aC rfl
theorem fP{α:Type}(f:Nat→α){l m:Nat}(x:α)(h:m≠l):upd f l x m=f m:=aF h
theorem Rel.blt(R:Rel im g μ w ok okp base){m:Nat}{b:Blk}(h:g m=some b)(hb:b.st.live=true):(μ m).1<w.heap.size:=by
 obtain⟨⟨arr,el,fr,hh,_⟩,_⟩:=R.blk m b h hb;exact(bm.1 hh).1
theorem Rel.alloc{w':World}(R:Rel im g μ w ok okp base){l:Nat}(hl:g l=none){cs:List D}{arr:Array Value}{el:TypeId}{fr:Nat×Nat}
 (old:∀b,b<w.heap.size→w'.heap[b]?=w.heap[b]?) (hnew:w'.heap[w.heap.size]?=some (.cells arr el fr)) (hsz:w'.heap.size=w.heap.size+1) (sm:Same w w') (hfr:∀o,o<arr.size→¬(fr.1≤o∧o<fr.2))
 (hc:∀(j:Nat)(d:D),cs[j]?=some d→∃v,arr[j]?=some v∧VR im g μ w ok d v):
 Rel im (upd g l (some ⟨cs,.rw⟩)) (upd μ l (w.heap.size,0)) w' ok okp base∧Stp g μ w ok (upd g l (some ⟨cs,.rw⟩)) (upd μ l (w.heap.size,0)) w' ok base:=by
 have gl:∀m b,g m=some b→m≠l:=λm b h e=>by subst e;rw[hl]at h;cases h
 have blt:∀m b,g m=some b→b.st.live=true→(μ m).1<w.heap.size:=λm b h hb=>R.blt h hb;have st:Stp g μ w ok (upd g l (some ⟨cs,.rw⟩)) (upd μ l (w.heap.size,0)) w' ok base:=
  ⟨λ_ _ h=>h,λb o hb=>nW (old b (R.okl b o hb).1),λb hb=>old b (bk hb R.bas),
   λm b h=>⟨b,by rw[fP _ _ (gl m b h)];exact h,λhl=>⟨hl,fP _ _ (gl m b h),tH (old _ (blt m b h hl))⟩⟩,by omega,sm⟩
 refine⟨⟨λm b h hb=>?_,λm b h hb=>?_,λm b h hb=>?_,λm b h hb hb2=>?_,λm b m' b' h h' hb hb' he=>?_,λb o h=>⟨by have:=(R.okl b o h).1;omega,(R.okl b o h).2⟩,R.okp,by have:=R.bas;omega⟩,st⟩
 ·by_cases e:m=l
  ·subst e;rw[fC]at h ⊢;simp only[aA]at h;subst h;refine⟨⟨arr,el,fr,hnew,hfr⟩,yw λj d hj=>?_⟩;obtain⟨v,hv,hr⟩:=hc j d hj;refine⟨v,?_,o7 st d v hr⟩;show World.cell? w' ⟨w.heap.size,0+j,none⟩=some v;simp[World.cell?,hnew,hv]
  ·rw[fP _ _ e]at h ⊢;obtain⟨⟨arr',el',fr',hh,hf⟩,hv⟩:=R.blk m b h hb;have hlt:=blt m b h hb;exact⟨⟨arr',el',fr',by rw[old _ hlt];exact hh,hf⟩,mq st _ _ _ (λj _=>nW (old _ hlt)) hv⟩
 ·by_cases e:m=l
  ·subst e;rw[fC];exact⟨R.bas,λo ho=>by have:=(R.okl _ _ ho).1;omega⟩
  ·rw[fP _ _ e]at h ⊢;exact R.wrb m b h hb
 ·by_cases e:m=l
  ·subst e;rw[fC];exact⟨R.bas,λo _ ho=>by have:=(R.okl _ _ ho).1;omega⟩
  ·rw[fP _ _ e]at h ⊢;exact R.apd m b h hb
 ·by_cases e:m=l
  ·subst e;rw[fC]at h;simp only[aA]at h;subst h;simp[Stt.wr]at hb2
  ·rw[fP _ _ e]at h ⊢;exact R.frz m b h hb hb2
 ·by_cases e:m=l
  ·by_cases e':m'=l
   ·omega
   ·rw[fP _ _ e']at h' he;subst e;rw[fC]at he;have:=blt m' b' h' (gM hb');simp only at he;omega
  ·rw[fP _ _ e]at h he;by_cases e':m'=l
   ·subst e';rw[fC]at he;have:=blt m b h (gM hb);simp only at he;omega
   ·rw[fP _ _ e']at h' he;exact R.inj m b m' b' h h' hb hb' he
theorem Rel.write{w':World}(R:Rel im g μ w ok okp base){l:Nat}{b:Blk}(hl:g l=some b)(hb:b.st.wr=true){cs:List D}{arr:Array Value}{el:TypeId}{fr:Nat×Nat}
 (h1:w'.heap[(μ l).1]?=some (.cells arr el fr)) (hfr:∀o,o<arr.size→¬(fr.1≤o∧o<fr.2))
 (h2:∀k,k≠(μ l).1→w'.heap[k]?=w.heap[k]?) (hs:w'.heap.size=w.heap.size) (hrs:arr.size=qm w (μ l).1) (sm:Same w w')
 (hc:∀(j:Nat)(d:D),cs[j]?=some d→∃v,arr[(μ l).2+j]?=some v∧VR im g μ w ok d v):
 Rel im (upd g l (some ⟨cs,.rw⟩)) μ w' ok okp base∧Stp g μ w ok (upd g l (some ⟨cs,.rw⟩)) μ w' ok base:=by
 have nok:∀k o,ok k o→k≠(μ l).1:=λk o h e=>(R.wrb l b hl hb).2 o (e▸h);have blive:b.st.live=true:=gM (lJ hb);have st:Stp g μ w ok (upd g l (some ⟨cs,.rw⟩)) μ w' ok base:=
  ⟨λ_ _ h=>h,λk o hk=>nW (h2 k (nok k o hk)),λk hk=>h2 k (by have:=(R.wrb l b hl hb).1;omega),λm b' h=>by
   by_cases e:m=l
   ·subst e;rw[hl]at h;simp only[aA]at h;subst h;exact⟨_,fC _ _ _,λ_=>⟨blive,rfl,(nI h1).trans hrs⟩⟩
   ·exact⟨b',by rw[fP _ _ e];exact h,λhq=>⟨hq,rfl,by
     by_cases hq2:(μ m).1=(μ l).1
     ·rw[hq2];exact(nI h1).trans hrs
     ·exact tH (h2 _ hq2)⟩⟩,by omega,sm⟩
 have q:∀m b1,upd g l (some ⟨cs,.rw⟩) m=some b1→b1.st.own=true→∃b0,g m=some b0∧b0.st.own=true:=λm b1 h hb1=>by
  by_cases e:m=l
  ·subst e;exact⟨b,hl,lJ hb⟩
  ·rw[fP _ _ e]at h;exact⟨b1,h,hb1⟩
 refine⟨⟨λm b' h hb'=>?_,λm b' h hb'=>?_,λm b' h hb'=>?_,λm b' h hb' hb2=>?_,λm b1 m' b2 h h' hb1 hb2 he=>?_,λk o h=>by rw[hs];exact R.okl k o h,R.okp,by rw[hs];exact R.bas⟩,st⟩
 ·by_cases e:m=l
  ·subst e;rw[fC]at h;simp only[aA]at h;subst h;refine⟨⟨arr,el,fr,h1,hfr⟩,yw λj d hj=>?_⟩;obtain⟨v,hv,hr⟩:=hc j d hj;exact⟨v,by simp[World.cell?,h1,hv],o7 st d v hr⟩
  ·rw[fP _ _ e]at h;obtain⟨⟨arr',el',fr',hh,hf⟩,hv⟩:=R.blk m b' h hb';refine⟨?_,mq st _ _ _ (λj hj=>?_) hv⟩
   ·by_cases hne:(μ m).1=(μ l).1
    ·rw[hne];exact⟨arr,el,fr,h1,hfr⟩
    ·exact⟨arr',el',fr',by rw[h2 _ hne];exact hh,hf⟩
   ·by_cases hw:b'.st.own=true
    ·exact nW (h2 _ λhe=>e (R.inj m b' l b h hl hw (lJ hb) he))
    ·exact st.kept _ _ (R.frz m b' h hb' (KC hb' (by simpa using hw)).1 j hj)
 ·by_cases e:m=l
  ·subst e;exact R.wrb m b hl hb
  ·rw[fP _ _ e]at h;exact R.wrb m b' h hb'
 ·by_cases e:m=l
  ·subst e;exact⟨(R.wrb m b hl hb).1,λo _=>(R.wrb m b hl hb).2 o⟩
  ·rw[fP _ _ e]at h;exact R.apd m b' h hb'
 ·by_cases e:m=l
  ·subst e;rw[fC]at h;simp only[aA]at h;subst h;simp[Stt.wr]at hb2
  ·rw[fP _ _ e]at h;exact R.frz m b' h hb' hb2
 ·obtain⟨c1,k1,k2⟩:=q m b1 h hb1;obtain⟨c2,k3,k4⟩:=q m' b2 h' hb2;exact R.inj m c1 m' c2 k1 k3 k2 k4 he
theorem Rel.kill(R:Rel im g μ w ok okp base){l:Nat}{b:Blk}(hl:g l=some b){cs:List D}:
 Rel im (upd g l (some ⟨cs,.gone⟩)) μ w ok okp base∧Stp g μ w ok (upd g l (some ⟨cs,.gone⟩)) μ w ok base:=by
 have st:Stp g μ w ok (upd g l (some ⟨cs,.gone⟩)) μ w ok base:=
  ⟨λ_ _ h=>h,λ_ _ _=>rfl,λ_ _=>rfl,λm b' h=>by
   by_cases e:m=l
   ·subst e;exact⟨_,fC _ _ _,λh=>by simp[Stt.live]at h⟩
   ·exact⟨b',by rw[fP _ _ e];exact h,λh=>⟨h,rfl,rfl⟩⟩,aE _,.refl _⟩
 have q:∀m b1,upd g l (some ⟨cs,.gone⟩) m=some b1→b1.st.live=true→g m=some b1:=λm b1 h hb1=>by
  by_cases e:m=l
  ·subst e;rw[fC]at h;simp only[aA]at h;subst h;simp[Stt.live]at hb1
  ·rwa[fP _ _ e]at h
 exact⟨⟨λm b' h hb'=>⟨(R.blk m b' (q m b' h hb') hb').1,mq st _ _ _ (λ_ _=>rfl) (R.blk m b' (q m b' h hb') hb').2⟩,
  λm b' h hb'=>R.wrb m b' (q m b' h (gM (lJ hb'))) hb',λm b' h hb'=>R.apd m b' (q m b' h (gM hb')) hb',λm b' h hb' hb2=>R.frz m b' (q m b' h hb') hb' hb2,
  λm b1 m' b2 h h' hb1 hb2 he=>R.inj m b1 m' b2 (q m b1 h (gM hb1)) (q m' b2 h' (gM hb2)) hb1 hb2 he,R.okl,R.okp,R.bas⟩,st⟩
theorem Rel.move{w':World}(R:Rel im g μ w ok okp base){l l2:Nat}{b:Blk}(hl:g l=some b)(hb:b.st.wr=true)(hn:g l2=none){cs:List D}{arr:Array Value}{el:TypeId}{fr:Nat×Nat}{o2:Nat}
 (h1:w'.heap[(μ l).1]?=some (.cells arr el fr)) (hfr:∀o,o<arr.size→¬(fr.1≤o∧o<fr.2))
 (h2:∀k,k≠(μ l).1→w'.heap[k]?=w.heap[k]?) (hs:w'.heap.size=w.heap.size) (hrs:arr.size=qm w (μ l).1) (sm:Same w w')
 (hc:∀(j:Nat)(d:D),cs[j]?=some d→∃v,arr[o2+j]?=some v∧VR im g μ w ok d v):
 Rel im (upd (upd g l (some ⟨[],.gone⟩)) l2 (some ⟨cs,.rw⟩)) (upd μ l2 ((μ l).1,o2)) w' ok okp base∧Stp g μ w ok (upd (upd g l (some ⟨[],.gone⟩)) l2 (some ⟨cs,.rw⟩)) (upd μ l2 ((μ l).1,o2)) w' ok base:=by
 have nok:∀k o,ok k o→k≠(μ l).1:=λk o h e=>(R.wrb l b hl hb).2 o (e▸h);have hne:l≠l2:=λe=>by rw[e,hn]at hl;cases hl
 have rs:∀m,qm w' (μ m).1=qm w (μ m).1:=λm=>by
  by_cases hq2:(μ m).1=(μ l).1
  ·rw[hq2];exact(nI h1).trans hrs
  ·exact tH (h2 _ hq2)
 have st:Stp g μ w ok (upd (upd g l (some ⟨[],.gone⟩)) l2 (some ⟨cs,.rw⟩)) (upd μ l2 ((μ l).1,o2)) w' ok base:=
  ⟨λ_ _ h=>h,λk o hk=>nW (h2 k (nok k o hk)),λk hk=>h2 k (by have:=(R.wrb l b hl hb).1;omega),λm b' h=>by
   have e2:m≠l2:=λe=>by subst e;rw[hn]at h;cases h
   by_cases e:m=l
   ·subst e;exact⟨_,by rw[fP _ _ e2,fC],λh=>by simp[Stt.live]at h⟩
   ·exact⟨b',by rw[fP _ _ e2,fP _ _ e];exact h,λhq=>⟨hq,fP _ _ e2,rs m⟩⟩,by omega,sm⟩
 have q:∀m b1,upd (upd g l (some ⟨[],.gone⟩)) l2 (some ⟨cs,.rw⟩) m=some b1→b1.st.live=true→(m=l2∧b1=⟨cs,.rw⟩)∨(m≠l2∧m≠l∧g m=some b1):=λm b1 h hb1=>by
  by_cases e2:m=l2
  ·subst e2;rw[fC]at h;simp only[aA]at h;exact .inl ⟨rfl,h.symm⟩
  ·rw[fP _ _ e2]at h;by_cases e:m=l
   ·subst e;rw[fC]at h;simp only[aA]at h;subst h;simp[Stt.live]at hb1
   ·rw[fP _ _ e]at h;exact .inr ⟨e2,e,h⟩
 refine⟨⟨λm b' h hb'=>?_,λm b' h hb'=>?_,λm b' h hb'=>?_,λm b' h hb' hb2=>?_,λm b1 m' b2 h h' hb1 hb2 he=>?_,λk o h=>by rw[hs];exact R.okl k o h,R.okp,by rw[hs];exact R.bas⟩,st⟩
 ·rcases q m b' h hb' with⟨rfl,rfl⟩|⟨e2,e,hg⟩
  ·rw[fC];refine⟨⟨arr,el,fr,h1,hfr⟩,yw λj d hj=>?_⟩;obtain⟨v,hv,hr⟩:=hc j d hj;exact⟨v,by simp[World.cell?,h1,hv],o7 st d v hr⟩
  ·rw[fP _ _ e2];obtain⟨⟨arr',el',fr',hh,hf⟩,hv⟩:=R.blk m b' hg hb';refine⟨?_,mq st _ _ _ (λj hj=>?_) hv⟩
   ·by_cases hne:(μ m).1=(μ l).1
    ·rw[hne];exact⟨arr,el,fr,h1,hfr⟩
    ·exact⟨arr',el',fr',by rw[h2 _ hne];exact hh,hf⟩
   ·by_cases hw:b'.st.own=true
    ·exact nW (h2 _ λhe=>e (R.inj m b' l b hg hl hw (lJ hb) he))
    ·exact st.kept _ _ (R.frz m b' hg hb' (KC hb' (by simpa using hw)).1 j hj)
 ·rcases q m b' h (gM (lJ hb'))with⟨rfl,rfl⟩|⟨e2,e,hg⟩
  ·rw[fC];exact R.wrb l b hl hb
  ·rw[fP _ _ e2];exact R.wrb m b' hg hb'
 ·rcases q m b' h (gM hb')with⟨rfl,rfl⟩|⟨e2,e,hg⟩
  ·rw[fC];exact⟨(R.wrb l b hl hb).1,λo _=>(R.wrb l b hl hb).2 o⟩
  ·rw[fP _ _ e2];exact R.apd m b' hg hb'
 ·rcases q m b' h hb' with⟨rfl,rfl⟩|⟨e2,e,hg⟩
  ·simp[Stt.wr]at hb2
  ·rw[fP _ _ e2];exact R.frz m b' hg hb' hb2
 ·rcases q m b1 h (gM hb1)with⟨rfl,rfl⟩|⟨e2,e,hg⟩
  ·rcases q m' b2 h' (gM hb2)with⟨rfl,rfl⟩|⟨e2',e',hg'⟩
   ·rfl
   ·rw[fC,fP _ _ e2']at he;exact absurd (R.inj m' b2 l b hg' hl hb2 (lJ hb) he.symm) e'
  ·rcases q m' b2 h' (gM hb2)with⟨rfl,rfl⟩|⟨e2',e',hg'⟩
   ·rw[fC,fP _ _ e2]at he;exact absurd (R.inj m b1 l b hg hl hb1 (lJ hb) he) e
   ·rw[fP _ _ e2,fP _ _ e2']at he;exact R.inj m b1 m' b2 hg hg' hb1 hb2 he
theorem Rel.toApd(R:Rel im g μ w ok okp base){l:Nat}{b:Blk}(hl:g l=some b)(hb:b.st.own=true):
 Rel im (upd g l (some ⟨b.cs,.apd⟩)) μ w (λk o=>ok k o∨(k=(μ l).1∧o<(μ l).2+b.cs.length)) okp base∧Stp g μ w ok (upd g l (some ⟨b.cs,.apd⟩)) μ w (λk o=>ok k o∨(k=(μ l).1∧o<(μ l).2+b.cs.length)) base:=by
 have st:Stp g μ w ok (upd g l (some ⟨b.cs,.apd⟩)) μ w (λk o=>ok k o∨(k=(μ l).1∧o<(μ l).2+b.cs.length)) base:=
  ⟨λ_ _ h=>.inl h,λ_ _ _=>rfl,λ_ _=>rfl,λm b' h=>by
   by_cases e:m=l
   ·subst e;rw[hl]at h;simp only[aA]at h;subst h;exact⟨_,fC _ _ _,λ_=>⟨gM hb,rfl,rfl⟩⟩
   ·exact⟨b',by rw[fP _ _ e];exact h,λh=>⟨h,rfl,rfl⟩⟩,aE _,.refl _⟩
 have q:∀m b1,upd g l (some ⟨b.cs,.apd⟩) m=some b1→b1.st.own=true→∃b0,g m=some b0∧b0.st.own=true∧b0.cs=b1.cs:=λm b1 h hb1=>by
  by_cases e:m=l
  ·subst e;rw[fC]at h;simp only[aA]at h;subst h;exact⟨b,hl,hb,rfl⟩
  ·rw[fP _ _ e]at h;exact⟨b1,h,hb1,rfl⟩
 refine⟨⟨λm b' h hb'=>?_,λm b' h hb'=>?_,λm b' h hb'=>?_,λm b' h hb' hb2=>?_,λm b1 m' b2 h h' hb1 hb2 he=>?_,λk o h=>?_,λk o h=>.inl (R.okp k o h),R.bas⟩,st⟩
 ·by_cases e:m=l
  ·subst e;rw[fC]at h;simp only[aA]at h;subst h;exact⟨(R.blk m b hl (gM hb)).1,mq st _ _ _ (λ_ _=>rfl) (R.blk m b hl (gM hb)).2⟩
  ·rw[fP _ _ e]at h;exact⟨(R.blk m b' h hb').1,mq st _ _ _ (λ_ _=>rfl) (R.blk m b' h hb').2⟩
 ·by_cases e:m=l
  ·subst e;rw[fC]at h;simp only[aA]at h;subst h;simp[Stt.wr]at hb'
  ·rw[fP _ _ e]at h;refine⟨(R.wrb m b' h hb').1,λo ho=>?_⟩;rcases ho with ho|ho
   ·exact(R.wrb m b' h hb').2 o ho
   ·exact e (R.inj m b' l b h hl (lJ hb') hb ho.1)
 ·obtain⟨b0,h0,ho0,hc0⟩:=q m b' h hb';refine⟨(R.apd m b0 h0 ho0).1,λo hle ho=>?_⟩;rcases ho with ho|ho
  ·exact(R.apd m b0 h0 ho0).2 o (by rw[hc0];exact hle) ho
  ·have e:=R.inj m b0 l b h0 hl ho0 hb ho.1;subst e;rw[hl]at h0;simp only[aA]at h0;subst h0;rw[←hc0]at hle;omega
 ·by_cases e:m=l
  ·subst e;rw[fC]at h;simp only[aA]at h;subst h;exact λj hj=>.inr ⟨rfl,by simp only at hj;omega⟩
  ·rw[fP _ _ e]at h;exact(R.frz m b' h hb' hb2).mono λ_ _ h=>.inl h
 ·obtain⟨c1,k1,k2,_⟩:=q m b1 h hb1;obtain⟨c2,k3,k4,_⟩:=q m' b2 h' hb2;exact R.inj m c1 m' c2 k1 k3 k2 k4 he
 ·rcases h with h|h
  ·exact R.okl k o h
  ·obtain⟨h,_⟩:=h;subst h;exact⟨R.blt hl (gM hb),.inr (R.apd l b hl hb).1⟩
theorem Rel.share{w':World}(R:Rel im g μ w ok okp base){l l2:Nat}{b:Blk}(hl:g l=some b)(hb:b.st=.apd)(hn:g l2=none){cs:List D}{arr arr0:Array Value}{el el0:TypeId}{fr fr0:Nat×Nat}{o2:Nat}
 (h0:w.heap[(μ l).1]?=some (.cells arr0 el0 fr0)) (h1:w'.heap[(μ l).1]?=some (.cells arr el fr)) (hfr:∀o,o<arr.size→¬(fr.1≤o∧o<fr.2)) (hold:∀k,k<(μ l).2+b.cs.length→arr[k]?=arr0[k]?)
 (h2:∀k,k≠(μ l).1→w'.heap[k]?=w.heap[k]?) (hs:w'.heap.size=w.heap.size) (hrs:arr.size=qm w (μ l).1) (sm:Same w w') (hend:(μ l).2+b.cs.length≤o2+cs.length)
 (hc:∀(j:Nat)(d:D),cs[j]?=some d→∃v,arr[o2+j]?=some v∧VR im g μ w ok d v):
 Rel im (upd (upd g l (some ⟨b.cs,.frz⟩)) l2 (some ⟨cs,.apd⟩)) (upd μ l2 ((μ l).1,o2)) w' (λk o=>ok k o∨(k=(μ l).1∧o<o2+cs.length)) okp base∧
  Stp g μ w ok (upd (upd g l (some ⟨b.cs,.frz⟩)) l2 (some ⟨cs,.apd⟩)) (upd μ l2 ((μ l).1,o2)) w' (λk o=>ok k o∨(k=(μ l).1∧o<o2+cs.length)) base:=by
 have hown:b.st.own=true:=by rw[hb];rfl
 have hlive:b.st.live=true:=by rw[hb];rfl
 have kept:∀k o,ok k o→w'.cell? ⟨k,o,none⟩=w.cell? ⟨k,o,none⟩:=λk o h=>by
  by_cases e:k=(μ l).1
  ·subst e;have hlt:o<(μ l).2+b.cs.length:=by
    rcases az o ((μ l).2+b.cs.length)with hq|hq
    ·exact hq
    ·exact absurd h ((R.apd l b hl hown).2 o hq)
   simp only[World.cell?,h0,h1];simpa using hold o hlt
  ·exact nW (h2 k e)
 have rs:∀m,qm w' (μ m).1=qm w (μ m).1:=λm=>by
  by_cases hq2:(μ m).1=(μ l).1
  ·rw[hq2];exact(nI h1).trans hrs
  ·exact tH (h2 _ hq2)
 have st:Stp g μ w ok (upd (upd g l (some ⟨b.cs,.frz⟩)) l2 (some ⟨cs,.apd⟩)) (upd μ l2 ((μ l).1,o2)) w' (λk o=>ok k o∨(k=(μ l).1∧o<o2+cs.length)) base:=
  ⟨λ_ _ h=>.inl h,kept,λk hk=>h2 k (by have:=(R.apd l b hl hown).1;omega),λm b' h=>by
   have e2:m≠l2:=λe=>by subst e;rw[hn]at h;cases h
   by_cases e:m=l
   ·subst e;rw[hl]at h;simp only[aA]at h;subst h;exact⟨_,by rw[fP _ _ e2,fC],λ_=>⟨hlive,fP _ _ e2,rs m⟩⟩
   ·exact⟨b',by rw[fP _ _ e2,fP _ _ e];exact h,λhq=>⟨hq,fP _ _ e2,rs m⟩⟩,by omega,sm⟩
 have ll2:l≠l2:=λe=>by rw[e,hn]at hl;cases hl
 have q:∀m b1,upd (upd g l (some ⟨b.cs,.frz⟩)) l2 (some ⟨cs,.apd⟩) m=some b1→(m=l2∧b1=⟨cs,.apd⟩)∨(m≠l2∧m=l∧b1=⟨b.cs,.frz⟩)∨(m≠l2∧m≠l∧g m=some b1):=λm b1 h=>by
  by_cases e2:m=l2
  ·subst e2;rw[fC]at h;simp only[aA]at h;exact .inl ⟨rfl,h.symm⟩
  ·rw[fP _ _ e2]at h;by_cases e:m=l
   ·subst e;rw[fC]at h;simp only[aA]at h;exact .inr (.inl ⟨e2,rfl,h.symm⟩)
   ·rw[fP _ _ e]at h;exact .inr (.inr ⟨e2,e,h⟩)
 have oth:∀m b1,m≠l→g m=some b1→b1.st.own=true→(μ m).1≠(μ l).1:=λm b1 e h ho he=>e (R.inj m b1 l b h hl ho hown he);refine⟨⟨λm b' h hb'=>?_,λm b' h hb'=>?_,λm b' h hb'=>?_,λm b' h hb' hb2=>?_,λm b1 m' b2 h h' hb1 hb2 he=>?_,λk o h=>?_,λk o h=>.inl (R.okp k o h),by rw[hs];exact R.bas⟩,st⟩
 ·rcases q m b' h with⟨rfl,rfl⟩|⟨e2,rfl,rfl⟩|⟨e2,e,hg⟩
  ·rw[fC];refine⟨⟨arr,el,fr,h1,hfr⟩,yw λj d hj=>?_⟩;obtain⟨v,hv,hr⟩:=hc j d hj;exact⟨v,by simp[World.cell?,h1,hv],o7 st d v hr⟩
  ·rw[fP _ _ e2];refine⟨⟨arr,el,fr,h1,hfr⟩,mq st _ _ _ (λj hj=>kept _ _ ?_) (R.blk m b hl hlive).2⟩;exact R.frz m b hl hlive (by rw[hb];rfl) j hj
  ·rw[fP _ _ e2];obtain⟨⟨arr',el',fr',hh,hf⟩,hv⟩:=R.blk m b' hg hb';refine⟨?_,mq st _ _ _ (λj hj=>?_) hv⟩
   ·by_cases hne:(μ m).1=(μ l).1
    ·rw[hne];exact⟨arr,el,fr,h1,hfr⟩
    ·exact⟨arr',el',fr',by rw[h2 _ hne];exact hh,hf⟩
   ·by_cases hw:b'.st.own=true
    ·exact nW (h2 _ (oth m b' e hg hw))
    ·exact kept _ _ (R.frz m b' hg hb' (KC hb' (by simpa using hw)).1 j hj)
 ·rcases q m b' h with⟨rfl,rfl⟩|⟨e2,rfl,rfl⟩|⟨e2,e,hg⟩
  ·simp[Stt.wr]at hb'
  ·simp[Stt.wr]at hb'
  ·rw[fP _ _ e2];refine⟨(R.wrb m b' hg hb').1,λo ho=>?_⟩;rcases ho with ho|ho
   ·exact(R.wrb m b' hg hb').2 o ho
   ·exact oth m b' e hg (lJ hb') ho.1
 ·rcases q m b' h with⟨rfl,rfl⟩|⟨e2,rfl,rfl⟩|⟨e2,e,hg⟩
  ·rw[fC];refine⟨(R.apd l b hl hown).1,λo hle ho=>?_⟩;simp only at hle;rcases ho with ho|ho
   ·exact(R.apd l b hl hown).2 o (by omega) ho
   ·omega
  ·simp[Stt.own]at hb'
  ·rw[fP _ _ e2];refine⟨(R.apd m b' hg hb').1,λo hle ho=>?_⟩;rcases ho with ho|ho
   ·exact(R.apd m b' hg hb').2 o hle ho
   ·exact oth m b' e hg hb' ho.1
 ·rcases q m b' h with⟨rfl,rfl⟩|⟨e2,rfl,rfl⟩|⟨e2,e,hg⟩
  ·rw[fC];exact λj hj=>.inr ⟨rfl,by simp only at hj ⊢;omega⟩
  ·rw[fP _ _ e2];exact λj hj=>.inr ⟨rfl,by simp only at hj;omega⟩
  ·rw[fP _ _ e2];exact(R.frz m b' hg hb' hb2).mono λ_ _ h=>.inl h
 ·rcases q m b1 h with⟨rfl,rfl⟩|⟨e2,rfl,rfl⟩|⟨e2,e,hg⟩
  ·rcases q m' b2 h' with⟨rfl,rfl⟩|⟨e2',rfl,rfl⟩|⟨e2',e',hg'⟩
   ·rfl
   ·simp[Stt.own]at hb2
   ·rw[fC,fP _ _ e2']at he;exact absurd he.symm (oth m' b2 e' hg' hb2)
  ·simp[Stt.own]at hb1
  ·rcases q m' b2 h' with⟨rfl,rfl⟩|⟨e2',rfl,rfl⟩|⟨e2',e',hg'⟩
   ·rw[fC,fP _ _ e2]at he;exact absurd he (oth m b1 e hg hb1)
   ·simp[Stt.own]at hb2
   ·rw[fP _ _ e2,fP _ _ e2']at he;exact R.inj m b1 m' b2 hg hg' hb1 hb2 he
 ·rw[hs];rcases h with h|h
  ·exact R.okl k o h
  ·obtain⟨h,_⟩:=h;subst h;exact⟨R.blt hl hlive,.inr (R.apd l b hl hown).1⟩
theorem Rel.freeze(R:Rel im g μ w ok okp base){l:Nat}{b:Blk}(hl:g l=some b)(hb:b.st.live=true):
 ∃ok',Rel im (upd g l (some ⟨b.cs,b.st.fz⟩)) μ w ok' okp base∧Stp g μ w ok (upd g l (some ⟨b.cs,b.st.fz⟩)) μ w ok' base∧okN ok' (μ l).1 (μ l).2 b.cs.length:=by
 by_cases hwr:b.st.wr=true
 ·have hown:=lJ hwr;have hfz:b.st.fz=.frz:=by cases hh:b.st<;>simp_all [Stt.wr,Stt.fz]
  rw[hfz];have st:Stp g μ w ok (upd g l (some ⟨b.cs,.frz⟩)) μ w (λk o=>ok k o∨k=(μ l).1) base:=
   ⟨λ_ _ h=>.inl h,λ_ _ _=>rfl,λ_ _=>rfl,λm b' h=>by
    by_cases e:m=l
    ·subst e;rw[hl]at h;simp only[aA]at h;subst h;exact⟨_,fC _ _ _,λ_=>⟨hb,rfl,rfl⟩⟩
    ·exact⟨b',by rw[fP _ _ e];exact h,λh=>⟨h,rfl,rfl⟩⟩,aE _,.refl _⟩
  have q:∀m b1,upd g l (some ⟨b.cs,.frz⟩) m=some b1→b1.st.own=true→m≠l∧g m=some b1:=λm b1 h hb1=>by
   by_cases e:m=l
   ·subst e;rw[fC]at h;simp only[aA]at h;subst h;simp[Stt.own]at hb1
   ·rw[fP _ _ e]at h;exact⟨e,h⟩
  refine⟨_,⟨λm b' h hb'=>?_,λm b' h hb'=>?_,λm b' h hb'=>?_,λm b' h hb' hb2=>?_,λm b1 m' b2 h h' hb1 hb2 he=>R.inj m b1 m' b2 (q m b1 h hb1).2 (q m' b2 h' hb2).2 hb1 hb2 he,λk o h=>?_,λk o h=>.inl (R.okp k o h),R.bas⟩,st,λj hj=>.inr rfl⟩
  ·by_cases e:m=l
   ·subst e;rw[fC]at h;simp only[aA]at h;subst h;exact⟨(R.blk m b hl hb).1,mq st _ _ _ (λ_ _=>rfl) (R.blk m b hl hb).2⟩
   ·rw[fP _ _ e]at h;exact⟨(R.blk m b' h hb').1,mq st _ _ _ (λ_ _=>rfl) (R.blk m b' h hb').2⟩
  ·obtain⟨hne,hg⟩:=q m b' h (lJ hb');refine⟨(R.wrb m b' hg hb').1,λo ho=>?_⟩;rcases ho with ho|ho
   ·exact(R.wrb m b' hg hb').2 o ho
   ·exact hne (R.inj m b' l b hg hl (lJ hb') hown ho)
  ·obtain⟨hne,hg⟩:=q m b' h hb';refine⟨(R.apd m b' hg hb').1,λo hle ho=>?_⟩;rcases ho with ho|ho
   ·exact(R.apd m b' hg hb').2 o hle ho
   ·exact hne (R.inj m b' l b hg hl hb' hown ho)
  ·by_cases e:m=l
   ·subst e;exact λj hj=>.inr rfl
   ·rw[fP _ _ e]at h;exact(R.frz m b' h hb' hb2).mono λ_ _ h=>.inl h
  ·rcases h with h|h
   ·exact R.okl k o h
   ·subst h;exact⟨R.blt hl hb,.inr (R.apd l b hl hown).1⟩
 ·have h2:b.st.fz=b.st:=by cases hh:b.st<;>simp_all [Stt.wr,Stt.fz]
  have hsame:upd g l (some ⟨b.cs,b.st.fz⟩)=g:=by
   funext m;by_cases e:m=l
   ·subst e;rw[fC,hl,h2]
   ·rw[fP _ _ e]
  rw[hsame];exact⟨ok,R,.refl ..,R.frz l b hl hb (by simpa using hwr)⟩
theorem Rel.freezeF(R:Rel im g μ w ok okp base){l:Nat}{b:Blk}(hl:g l=some b)(hb:b.st.own=true):
 ∃ok',Rel im (upd g l (some ⟨b.cs,.frz⟩)) μ w ok' okp base∧Stp g μ w ok (upd g l (some ⟨b.cs,.frz⟩)) μ w ok' base:=by
 obtain⟨ok',r1,r2,r3⟩:=R.freeze hl (gM hb);cases hh:b.st with
 |rw=>rw[hh]at r1 r2;exact⟨ok',r1,r2⟩
 |apd=>
  have st:Stp g μ w ok (upd g l (some ⟨b.cs,.frz⟩)) μ w ok base:=
   ⟨λ_ _ h=>h,λ_ _ _=>rfl,λ_ _=>rfl,λm b' h=>by
    by_cases e:m=l
    ·subst e;rw[hl]at h;simp only[aA]at h;subst h;exact⟨_,fC _ _ _,λ_=>⟨gM hb,rfl,rfl⟩⟩
    ·exact⟨b',by rw[fP _ _ e];exact h,λh=>⟨h,rfl,rfl⟩⟩,aE _,.refl _⟩
  have q:∀m b1,upd g l (some ⟨b.cs,.frz⟩) m=some b1→b1.st.own=true→g m=some b1:=λm b1 h hb1=>by
   by_cases e:m=l
   ·subst e;rw[fC]at h;simp only[aA]at h;subst h;simp[Stt.own]at hb1
   ·rw[fP _ _ e]at h;exact h
  refine⟨ok,⟨λm b' h hb'=>?_,λm b' h hb'=>R.wrb m b' (q m b' h (lJ hb')) hb',λm b' h hb'=>R.apd m b' (q m b' h hb') hb',λm b' h hb' hb2=>?_,λm b1 m' b2 h h' hb1 hb2 he=>R.inj m b1 m' b2 (q m b1 h hb1) (q m' b2 h' hb2) hb1 hb2 he,R.okl,R.okp,R.bas⟩,st⟩
  ·by_cases e:m=l
   ·subst e;rw[fC]at h;simp only[aA]at h;subst h;exact⟨(R.blk m b hl (gM hb)).1,mq st _ _ _ (λ_ _=>rfl) (R.blk m b hl (gM hb)).2⟩
   ·rw[fP _ _ e]at h;exact⟨(R.blk m b' h hb').1,mq st _ _ _ (λ_ _=>rfl) (R.blk m b' h hb').2⟩
  ·by_cases e:m=l
   ·subst e;rw[fC]at h;simp only[aA]at h;subst h;exact R.frz m b hl (gM hb) (by rw[hh];rfl)
   ·rw[fP _ _ e]at h;exact R.frz m b' h hb' hb2
 |_=>rw[hh]at hb;cases hb
theorem Bh(s:Stt):s.fz.live=s.live:=by cases s<;>rfl
theorem Vt(s:Stt):s.fz.fz=s.fz:=by cases s<;>rfl
end
theorem Addr.add_eq{ad:Addr}(h:ad.spot=none)(j:Nat):ad.add j=⟨ad.block,ad.off+j,none⟩:=by
 unfold Addr.add;obtain⟨b,o,s⟩:=ad;simp only at h;subst h;split
 ·rename_i h;subst h;rfl
 ·rfl
theorem Addr.eta{ad:Addr}(h:ad.spot=none):ad=⟨ad.block,ad.off,none⟩:=by
 obtain⟨b,o,s⟩:=ad;simp only at h;subst h;rfl
section
variable {P:Program} {w:World}
theorem pO{t:TypeId}{d:TypeDesc}(h:P.underlying t=some d):∃i,P.info? t=some i:=by
 unfold Program.underlying at h;cases hi:P.info? t with
 |none=>rw[hi]at h;cases h
 |some i=>exact⟨i,rfl⟩
theorem pJ{t:TypeId}{i:TypeInfo}(h:P.info? t=some i):jH P t=i.size:=by simp[jH,h]
theorem G8{t:TypeId}{i:TypeInfo}(h:P.info? t=some i):D4 P t=i.bytes:=by simp[D4,h]
theorem tD{t:TypeId}{z:Value}(h:qG P t=some z):∃i,P.info? t=some i∧i.zero=some z:=by
 unfold qG at h;cases hi:P.info? t with
 |none=>rw[hi]at h;cases h
 |some i=>rw[hi]at h;exact⟨i,rfl,h⟩
theorem t5{t:TypeId}{i:TypeInfo}(h:P.info? t=some i):(typeInfo t).run P w=.ok i w:=by simp[typeInfo,h]
theorem jF{t:TypeId}{i:TypeInfo}(h:P.info? t=some i):(sizeOf t).run P w=.ok i.size w:=by simp[sizeOf,t5 h]
theorem qJ{t:TypeId}{i:TypeInfo}{z:Value}(h:P.info? t=some i)(hz:i.zero=some z):(zeroValue t).run P w=.ok z w:=by simp[zeroValue,t5 h,hz]
theorem fJ{t:TypeId}{d:TypeDesc}(h:P.underlying t=some d):(underlying t).run P w=.ok d w:=by simp[underlying,h]
theorem oP{t:TypeId}{d:TypeDesc}(h:P.underlying t=some d):(isAgg t).run P w=.ok (De P t) w:=by
 simp only[isAgg,Sem.run_bind,fJ h,Result.andThen_ok,De,h];cases d<;>rfl
end
section
variable {P:Program} {im:Nat→Option Nat} {g:Nat→Option Blk} {μ:Nat→Nat×Nat} {w:World} {ok okp:Nat→Nat→Prop} {base:Nat}
theorem SI(v:Value):VR im g μ w ok (cV1 v) v:=by
 unfold cV1;split
 ·simp[VR]
 ·simp[VR]
 ·rename_i s;unfold ZV;split
  ·rename_i h;simp only[VR];rw[h]
  ·simp only[VR]
 ·simp[VR]
 ·simp[VR]
 ·simp only[VR,TR];exact⟨none,0,rfl,aE _,λ_=>rfl,λh=>absurd rfl h⟩
 ·simp[VR]
theorem Hh(vs:List Value):VRl im g μ w ok (vs.map cV1) vs:=by
 induction vs with
 |nil=>simp[VRl]
 |cons v vs ih=>simp only[bI,VRl];exact⟨v,vs,rfl,SI v,ih⟩
theorem ZU(v:Value):VR im g μ w ok (cV v) v:=by
 unfold cV;split
 ·rename_i cs;simp only[VR];exact⟨cs,rfl,Hh _⟩
 ·exact SI _
theorem Iq(v:Value):VRl im g μ w ok (zc v) v.cells.toList:=Hh _
def qj(im:Nat→Option Nat)(g:Nat→Option Blk)(μ:Nat→Nat×Nat)(w:World)(ok:Nat→Nat→Prop)(e:Env)(tmps:Array Value):Prop:=
 ∀t,VR im g μ w ok (X.ev e (.t t)) (tmps.getD t undef)
variable {e:Env} {a:Act}
theorem jq(hE:qj im g μ w ok e a.tmps)(x:Operand):VR im g μ w ok (X.ev e (cX im x)) (a.eval x):=by
 cases x with
 |tmp t=>exact hE t
 |const v=>exact ZU v
 |global n=>simp[cX,X.ev,VR]
 |func f=>
  simp only[cX];cases hf:im f with
  |none=>simp[X.ev,VR]
  |some k=>simp only[X.ev,VR];exact⟨f,#[],hf,rfl,by simp[VRl]⟩
theorem M1(hE:qj im g μ w ok e a.tmps)(xs:List Operand):VRl im g μ w ok ((xs.map (cX im)).map (X.ev e)) (xs.map a.eval):=by
 induction xs with
 |nil=>simp[VRl]
 |cons x xs ih=>simp only[bI,VRl];exact⟨_,_,rfl,jq hE x,ih⟩
theorem Dj{cs:List D}{b o:Nat}(h:VRc im g μ w ok cs b o)(n:Nat):VRc im g μ w ok (cs.drop n) b (o+n):=
 yw λj d hj=>by
  rw[bw]at hj;obtain⟨v,hv,hr⟩:=yD h hj;exact⟨v,by rw[←hv];congr 2;omega,hr⟩
theorem Sh{cs:List D}{b o:Nat}(h:VRc im g μ w ok cs b o)(n:Nat):VRc im g μ w ok (cs.take n) b o:=
 yw λj d hj=>yD h (by rw[cf]at hj;split at hj<;>simp_all)
theorem Do{cs:List D}{b o:Nat}(h:TRc im w ok cs b o)(n:Nat):TRc im w ok (cs.drop n) b (o+n):=
 Dm λj d hj=>by
  rw[bw]at hj;obtain⟨v,hv,hr⟩:=Gh h hj;exact⟨v,by rw[←hv];congr 2;omega,hr⟩
theorem Sk{cs:List D}{b o:Nat}(h:TRc im w ok cs b o)(n:Nat):TRc im w ok (cs.take n) b o:=
 Dm λj d hj=>Gh h (by rw[cf]at hj;split at hj<;>simp_all)
theorem wY{off n:Nat}{cs r:List D}(h:cut off n cs=some r):r=(cs.drop off).take n∧r.length=n:=by
 unfold cut at h;simp only at h;split at h
 ·rename_i hl;simp only[aA]at h;subst h;exact⟨rfl,hl⟩
 ·cases h
theorem wZ{off n:Nat}{cs r:List D}(h:cut off n cs=some r){b o:Nat}(hv:VRc im g μ w ok cs b o):VRc im g μ w ok r b (o+off):=by
 obtain⟨rfl,_⟩:=wY h;exact Sh (Dj hv off) n
theorem SY(R:Rel im g μ w ok okp base){d:D}{v:Value}{cs:List D}(h:at_ g d=some cs)(hv:VR im g μ w ok d v):
 ∃ad:Addr,v=.pointer (some ad)∧ad.spot=none∧VRc im g μ w ok cs ad.block ad.off:=by
 cases d<;>simp only[at_]at h<;>try cases h
 case ptr l off=>
  cases hb:g l with
  |none=>rw[hb]at h;cases h
  |some b=>
   rw[hb]at h;simp only at h;split at h
   ·cases h
   ·rename_i hl;simp only[aA]at h;subst h;simp only[VR]at hv;obtain⟨b',a',hb',rfl,hv⟩:=hv;rw[hb]at hb';simp only[aA]at hb';subst hb';have hl':b.st.live=true:=by simpa using hl
    exact⟨_,by rw[hv hl'],rfl,Dj (R.blk l b hb hl').2 off⟩
 case fp=>
  simp only[VR,TR]at hv;obtain⟨ad,rfl,h1,h2,h3⟩:=hv;exact⟨ad,rfl,h1,yv h3⟩
theorem DZ(R:Rel im g μ w ok okp base){d:D}{v:Value}{cs:List D}{sz:Nat}(h:cellsOf g sz d=some cs)(hv:VR im g μ w ok d v):
 ∃ad len cap,v=.slice ad len cap∧lenOf d=some len∧cs.length=len*sz∧len≤cap∧(cs≠[]→∃x:Addr,ad=some x∧x.spot=none∧VRc im g μ w ok cs x.block x.off):=by
 cases d<;>simp only[cellsOf]at h<;>try cases h
 case sl l off len cm z ex=>
  cases hb:g l with
  |none=>rw[hb]at h;cases h
  |some b=>
   rw[hb]at h;simp only at h;split at h
   ·cases h
   ·rename_i hl;split at h
    ·simp only[VR]at hv;obtain⟨b',a',cap,hb',rfl,hv⟩:=hv;rw[hb]at hb';simp only[aA]at hb';subst hb';have hl':b.st.live=true:=by simpa using hl
     obtain⟨h1,h2,h3,h4,h5⟩:=hv hl';exact⟨_,_,_,rfl,rfl,(wY h).2,by omega,λ_=>⟨_,h2,rfl,wZ h (R.blk l b hb hl').2⟩⟩
    ·cases h
 case tree cs' len ex=>
  split at h
  ·rename_i hl;simp only[aA]at h;subst h;simp only[VR,TR]at hv;obtain⟨a',cap,rfl,h1,h2,h3⟩:=hv;exact⟨_,_,_,rfl,rfl,hl,h1,λhn=>by
    obtain⟨ad,e1,e2,e3,e4⟩:=h3 hn;exact⟨ad,e1,e2,yv e4⟩⟩
  ·cases h
def sZ(g:Nat→Option Blk):Nat→List Blk→Nat→Option Blk
 |_,[]=>g
 |nx,b::bs=>sZ (upd g nx (some b)) (nx+1) bs
def Okv(im:Nat→Option Nat)(g:Nat→Option Blk)(μ:Nat→Nat×Nat)(w:World)(ok okp:Nat→Nat→Prop)(base:Nat)(g':Nat→Option Blk)(d:D)(v:Value)(w':World):Prop:=
 ∃μ' ok',Rel im g' μ' w' ok' okp base∧Stp g μ w ok g' μ' w' ok' base∧VR im g' μ' w' ok' d v
def wc(im:Nat→Option Nat)(g:Nat→Option Blk)(μ:Nat→Nat×Nat)(w:World)(ok okp:Nat→Nat→Prop)(base:Nat)(g':Nat→Option Blk)(d:D)(r:Result Next):Prop:=
 ∃v w',(r=.ok (.value v) w'∨(r=.ok .skip w'∧v=undef))∧Okv im g μ w ok okp base g' d v w'
theorem Okv.same(R:Rel im g μ w ok okp base){d:D}{v:Value}(h:VR im g μ w ok d v):Okv im g μ w ok okp base g d v w:=⟨μ,ok,R,.refl ..,h⟩
theorem wc.of_v{s:Sem Value}{d:D}{v:Value}{w':World}{g':Nat→Option Blk}(h:s.run P w=.ok v w')(k:Okv im g μ w ok okp base g' d v w'):
 wc im g μ w ok okp base g' d ((do pure (.value (←s)):Sem Next).run P w):=⟨v,w',.inl (by simp[h]),k⟩
theorem wc.of_same(R:Rel im g μ w ok okp base){s:Sem Value}{d:D}{v:Value}(h:s.run P w=.ok v w)(k:VR im g μ w ok d v):
 wc im g μ w ok okp base g d ((do pure (.value (←s)):Sem Next).run P w):=.of_v h (.same R k)
theorem Okv.new(R:Rel im g μ w ok okp base){l:Nat}(hl:g l=none){cs:List D}{arr:Array Value}{el:TypeId}{fr:Nat×Nat}{w':World}{d:D}{v:Value}
 (hw:w'.heap=w.heap.push (.cells arr el fr)) (sm:Same w w') (hfr:∀o,o<arr.size→¬(fr.1≤o∧o<fr.2))
 (hc:∀(j:Nat)(x:D),cs[j]?=some x→∃v,arr[j]?=some v∧VR im g μ w ok x v)
 (hv:VR im (upd g l (some ⟨cs,.rw⟩)) (upd μ l (w.heap.size,0)) w' ok d v):Okv im g μ w ok okp base (upd g l (some ⟨cs,.rw⟩)) d v w':=by
 obtain⟨h1,h2⟩:=R.alloc (w':=w') hl (λb hb=>by rw[hw,Array.getElem?_push,aF (by omega)]) (by rw[hw,Array.getElem?_push,aC rfl]) (by rw[hw];simp) sm hfr hc;exact⟨_,_,h1,h2,hv⟩
theorem Okv.new'(R:Rel im g μ w ok okp base){l:Nat}(hl:g l=none){cs:List D}{arr:Array Value}{el:TypeId}{fr:Nat×Nat}{w':World}{d:D}{v:Value}
 (old:∀b,b<w.heap.size→w'.heap[b]?=w.heap[b]?) (hnew:w'.heap[w.heap.size]?=some (.cells arr el fr)) (hsz:w'.heap.size=w.heap.size+1) (sm:Same w w') (hfr:∀o,o<arr.size→¬(fr.1≤o∧o<fr.2))
 (hc:∀(j:Nat)(x:D),cs[j]?=some x→∃v,arr[j]?=some v∧VR im g μ w ok x v)
 (hv:VR im (upd g l (some ⟨cs,.rw⟩)) (upd μ l (w.heap.size,0)) w' ok d v):Okv im g μ w ok okp base (upd g l (some ⟨cs,.rw⟩)) d v w':=by
 obtain⟨h1,h2⟩:=R.alloc (w':=w') hl old hnew hsz sm hfr hc;exact⟨_,_,h1,h2,hv⟩
theorem Dl{l:Nat}{cs:List D}{n:Nat}{w':World}:VR im (upd g l (some ⟨cs,.rw⟩)) (upd μ l (n,0)) w' ok (.ptr l 0) (.pointer (some ⟨n,0,none⟩)):=by
 simp only[VR];exact⟨_,_,fC _ _ _,rfl,λ_=>by rw[fC]⟩
theorem wC{l:Nat}{cs:List D}{n len cm z cap:Nat}{ex:Bool}{w':World}(h1:len≤cm)(h2:cm≤cap)(h3:ex=true→cap=cm)(h4:cap*z≤qm w' n):
 VR im (upd g l (some ⟨cs,.rw⟩)) (upd μ l (n,0)) w' ok (.sl l 0 len cm z ex) (.slice (some ⟨n,0,none⟩) len cap):=by
 simp only[VR];exact⟨_,_,_,fC _ _ _,rfl,λ_=>⟨h1,by rw[fC],h2,h3,by rw[fC];show 0+0+cap*z≤qm w' n;omega⟩⟩
theorem sX{cs:List D}{arr:Array Value}(h:VRl im g μ w ok cs arr.toList):∀(j:Nat)(x:D),cs[j]?=some x→∃v,arr[j]?=some v∧VR im g μ w ok x v:=by
 intro j x hj;obtain⟨v,hv,hr⟩:=(kK.1 h).2 j x hj;exact⟨v,by simpa using hv,hr⟩
end
section
variable {P:Program} {im:Nat→Option Nat} {g:Nat→Option Blk} {μ:Nat→Nat×Nat} {w:World} {ok okp:Nat→Nat→Prop} {base:Nat} {e:Env} {a:Act} {o:Oper} {nx:Nat} {d:D} {bs:List Blk}
theorem tg(t:TypeId)(cs:Array Value):(newRow t cs).run P w=.ok ⟨w.heap.size,0,none⟩ (w.alloc (.cells cs t)):=by
 simp[newRow]
theorem Av(t:TypeId)(v:Value):(newVar t v).run P w=.ok ⟨w.heap.size,0,none⟩ (w.alloc (.cells v.cells t)):=tg _ _
def ro(P:Program)(im:Nat→Option Nat)(g:Nat→Option Blk)(μ:Nat→Nat×Nat)(w:World)(ok okp:Nat→Nat→Prop)(base:Nat)(e:Env)(a:Act)(o:Oper)(nx:Nat):Prop:=
 ∀d bs,evA nx (X.ev e) g (cOp P im o.op)=some (d,bs)→(∀j,j<bs.length→g (nx+j)=none)→wc im g μ w ok okp base (sZ g nx bs) d ((execOp a.eval o).run P w)
theorem gY(R:Rel im g μ w ok okp base){s:Sem Value}{v:Value}(hx:execOp a.eval o=(do pure (.value (←s))))(h:s.run P w=.ok v w)(k:VR im g μ w ok d v):
 wc im g μ w ok okp base (sZ g nx []) d ((execOp a.eval o).run P w):=by rw[hx];exact wc.of_same R h k
section
variable (R:Rel im g μ w ok okp base) (hE:qj im g μ w ok e a.tmps)
include R hE
theorem YK{x:Operand}(ho:o.op=.move x):ro P im g μ w ok okp base e a o nx:=by
 intro d bs h hf;rw[ho]at h;simp only[cOp,evA,aA,aJ]at h;obtain⟨rfl,rfl⟩:=h;exact⟨a.eval x,w,.inl (by simp[execOp,ho]),.same R (jq hE x)⟩
theorem Sg{x:Operand}(ho:o.op=.assign x):ro P im g μ w ok okp base e a o nx:=by
 intro d bs h hf;rw[ho]at h;simp only[cOp,evA,aA,aJ]at h;obtain⟨rfl,rfl⟩:=h;exact⟨a.eval x,w,.inl (by simp[execOp,ho]),.same R (jq hE x)⟩
theorem YJ{c x y:Operand}(ho:o.op=.pick c x y):ro P im g μ w ok okp base e a o nx:=by
 intro d bs h hf;rw[ho]at h;simp only[cOp,evA]at h;have hc:=jq hE c;split at h
 ·rename_i hb;rw[hb]at hc;simp only[VR]at hc;simp only[aA,aJ]at h;obtain⟨rfl,rfl⟩:=h;exact⟨a.eval x,w,.inl (by simp[execOp,ho,hc,asBool]),.same R (jq hE x)⟩
 ·rename_i hb;rw[hb]at hc;simp only[VR]at hc;simp only[aA,aJ]at h;obtain⟨rfl,rfl⟩:=h;exact⟨a.eval y,w,.inl (by simp[execOp,ho,hc,asBool]),.same R (jq hE y)⟩
 ·cases h
theorem V2{el:TypeId}(ho:o.op=.alloc el):ro P im g μ w ok okp base e a o nx:=by
 intro d bs h hf;rw[ho]at h;simp only[cOp]at h;cases hz:qG P el with
 |none=>rw[hz]at h;simp[evA]at h
 |some z=>
  rw[hz]at h;simp only[evA,aA,aJ]at h;obtain⟨rfl,rfl⟩:=h;obtain⟨i,hi,hz⟩:=tD hz;have hr:(Instr.alloc el true (.tuple #[])).run P w=.ok (.pointer (some ⟨w.heap.size,0,none⟩)) (w.alloc (.cells z.cells el)):=by
   simp[Instr.alloc,qJ hi hz,Av]
  have h0:g nx=none:=hf 0 (by simp);exact⟨_,w.alloc (.cells z.cells el),.inl (by simp only[execOp,ho,Sem.run_bind,hr,Result.andThen_ok];rfl),Okv.new R h0 (fr:=(0,0)) rfl (.alloc _ _ _) (λo _=>by simp) (sX (Iq z)) Dl⟩
theorem Z2{el:TypeId}{x:Operand}(ho:o.op=.box el x):ro P im g μ w ok okp base e a o nx:=by
 intro d bs h hf;rw[ho]at h;simp only[cOp,evA]at h;split at h
 ·rename_i h1;simp only[aA,aJ]at h;obtain⟨rfl,rfl⟩:=h;have hr:(Instr.box el (a.eval x)).run P w=.ok (.pointer (some ⟨w.heap.size,0,none⟩)) (w.alloc (.cells (a.eval x).cells el)):=by
   simp[Instr.box,Av]
  have h0:g nx=none:=hf 0 (by simp);exact⟨_,w.alloc (.cells (a.eval x).cells el),.inl (by simp only[execOp,ho,Sem.run_bind,hr,Result.andThen_ok];rfl),Okv.new R h0 (fr:=(0,0)) rfl (.alloc _ _ _) (λo _=>by simp) (sX (AN (jq hE x) h1)) Dl⟩
 ·cases h
theorem YL{t:TypeId}{x:Operand}(ho:o.op=.load t x):ro P im g μ w ok okp base e a o nx:=by
 intro d bs h hf;rw[ho]at h;simp only[cOp]at h;cases hu:P.underlying t with
 |none=>rw[hu]at h;simp[evA]at h
 |some td=>
  rw[hu]at h;simp only at h;obtain⟨i,hi⟩:=pO hu;split at h
  ·rename_i hag;simp only[evA]at h;split at h
   ·rename_i cs hcs;obtain⟨ad,hv,hs,hc⟩:=SY R hcs (jq hE x);split at h
    ·rename_i r hcut;simp only[aA,aJ]at h;obtain⟨rfl,rfl⟩:=h;have hlen:=(wY hcut).2;have hvr:=wZ hcut hc;simp only[bH]at hvr;have hex:∃vs:List Value,VRl im g μ w ok r vs∧∀(j:Nat) v,vs[j]?=some v→w.cell? (ad.add j)=some v:=by
      clear hlen hcut;have:∀(r:List D)(o:Nat),VRc im g μ w ok r ad.block o→∃vs:List Value,VRl im g μ w ok r vs∧∀(j:Nat) v,vs[j]?=some v→w.cell? ⟨ad.block,o+j,none⟩=some v:=by
       intro r
       induction r with
       |nil=>intro o _;exact⟨[],by simp[VRl],λj v h=>by simp at h⟩
       |cons y ys ih=>
        intro o hr;simp only[VRc]at hr;obtain⟨⟨v,hv,hy⟩,hr⟩:=hr;obtain⟨vs,h1,h2⟩:=ih _ hr;refine⟨v::vs,by simp only[VRl];exact⟨v,vs,rfl,hy,h1⟩,λj u hj=>?_⟩;cases j with
        |zero=>simp only[bF,aA]at hj;subst hj;exact hv
        |succ j=>have:=h2 j u (by simpa using hj);rwa[show o+1+j=o+(j+1) by omega]at this
      obtain⟨vs,h1,h2⟩:=this r _ hvr;exact⟨vs,h1,λj v hj=>by rw[Addr.add_eq hs];exact h2 j v hj⟩
     obtain⟨vs,h1,h2⟩:=hex;have hn:vs.length=i.size:=by rw[jT h1,hlen,pJ hi]
     refine gY (s:=Instr.loadAt t (a.eval x)) (v:=.agg vs.toArray) R (by simp only[execOp,ho]) ?_ ?_
     ·simp[Instr.loadAt,Instr.sureAddr,hv,loadVar,oP hu,hag,jF hi,←hn,run_loadCells_list w ad vs h2]
     ·simp only[VR];exact⟨vs.toArray,rfl,by simpa using h1⟩
    ·cases h
   ·cases h
  ·rename_i hag;simp only[evA]at h;split at h
   ·rename_i d' rest hcs;simp only[aA,aJ]at h;obtain⟨rfl,rfl⟩:=h;obtain⟨ad,hv,hs,hc⟩:=SY R hcs (jq hE x);simp only[VRc]at hc;obtain⟨⟨v,hcell,hd⟩,_⟩:=hc;rw[←Addr.eta hs]at hcell;refine gY (s:=Instr.loadAt t (a.eval x)) (v:=v) R (by simp only[execOp,ho]) ?_ hd;simp[Instr.loadAt,Instr.sureAddr,hv,loadVar,oP hu,hag,run_load,hcell]
   ·cases h
theorem K6{x:Operand}(ho:o.op=.nilCheck x):ro P im g μ w ok okp base e a o nx:=by
 intro d bs h hf;rw[ho]at h;simp only[cOp,evA]at h;have hx:=jq hE x;split at h
 ·rename_i l off hd;rw[hd]at hx;have hx':=hx;simp only[VR]at hx';obtain⟨b,p,hb,hv,hl⟩:=hx';rw[hb]at h;simp only at h;split at h
  ·rename_i hlive;simp only[aA,aJ]at h;obtain⟨rfl,rfl⟩:=h;have hp:=hl hlive;subst hp;exact⟨a.eval x,w,.inl (by simp[execOp,ho,hv]),.same R hx⟩
  ·cases h
 ·rename_i cs hd;simp only[aA,aJ]at h;obtain⟨rfl,rfl⟩:=h;rw[hd]at hx;have hx':=hx;simp only[VR,TR]at hx';obtain⟨ad,hv,_⟩:=hx';exact⟨a.eval x,w,.inl (by simp[execOp,ho,hv]),.same R hx⟩
 ·rename_i f cs hd;simp only[aA,aJ]at h;obtain⟨rfl,rfl⟩:=h;rw[hd]at hx;have hx':=hx;simp only[VR]at hx';obtain⟨F,arr,_,hv,_⟩:=hx';exact⟨a.eval x,w,.inl (by simp[execOp,ho,hv]),.same R hx⟩
 ·cases h
end
end
section
variable {P:Program} {im:Nat→Option Nat} {g:Nat→Option Blk} {μ:Nat→Nat×Nat} {w:World} {ok okp:Nat→Nat→Prop} {base:Nat} {e:Env} {a:Act} {o:Oper} {nx:Nat} {d:D} {bs:List Blk}
theorem sL{d:D}{v:Value}{l:List UInt8}(h:str d=some l)(hv:VR im g μ w ok d v):v=.string ⟨l.toArray⟩:=by
 cases d<;>simp only[str]at h<;>try cases h
 ·simp only[VR]at hv;exact hv
 ·simp only[VR]at hv;exact hv
theorem tt:∀(k n:Nat)(acc:List UInt8),n≤k→ej (mV k n acc) 0=ej acc n
 |0,n,acc,h=>by simp only[mV];rw[Nat.le_zero.1 h]
 |k+1,n,acc,h=>by
  simp only[mV];by_cases h0:n=0
  ·subst h0;rfl
  ·rw[ON h0];show ej (mV k (n/256) (UInt8.ofNat (n%256)::acc)) 0=_;rw[tt k (n/256) _ (by omega)];show ej acc (n/256*256+(UInt8.ofNat (n%256)).toNat)=_;rw[UInt8.toNat_ofNat'];congr 1;omega
theorem uR(n:Nat):ej (ep n) 0=n:=tt n n [] (aE _)
theorem Fr{a b:Nat}(h:ep a=ep b):a=b:=by rw[←uR a,h,uR]
theorem wO(a b:Nat):(ep a==ep b)=Nat.beq a b:=by
 by_cases h:a=b
 ·subst h;simp
 ·have h1:Nat.beq a b=false:=by
   cases hb:Nat.beq a b with
   |false=>rfl
   |true=>exact absurd (aU hb) h
  rw[h1,beq_eq_false_iff_ne];exact λe=>h (Fr e)
theorem AO(l:List UInt8):(ByteArray.mk l.toArray).toList=l:=by rw[ByteArray.toList_eq]
theorem SP{op:BinOp}{k:IntKind}{x y:Int}(t:TypeId)(h:xd op k x y=some d):∃v,(binOp op t (.int k x) (.int k y)).run P w=.ok v w∧VR im g μ w ok d v:=by
 cases op<;>simp only[xd]at h<;>try cases h
 case quo=>
  split at h
  ·cases h
  ·rename_i hy;simp only[aA]at h;subst h;exact⟨.int k (k.wrap (x.tdiv y)),by simp[binOp,Op.intDiv,hy],by simp[VR]⟩
 case rem=>
  split at h
  ·cases h
  ·rename_i hy;simp only[aA]at h;subst h;exact⟨.int k (x.tmod y),by simp[binOp,Op.intDiv,hy],by simp[VR]⟩
 all_goals first
  |exact⟨_,by simp[binOp,Op.intArith];rfl,by simp[VR]⟩
  |exact⟨_,by simp[binOp,Op.intBits];rfl,by simp[VR]⟩
  |exact⟨_,by simp[binOp,Op.intCmp];rfl,by simp[VR]⟩
theorem If{op:BinOp}{x y:List UInt8}(t:TypeId)(h:SO op x y=some d):∃v,(binOp op t (.string ⟨x.toArray⟩) (.string ⟨y.toArray⟩)).run P w=.ok v w∧VR im g μ w ok d v:=by
 cases op<;>simp only[SO]at h<;>try cases h
 all_goals exact⟨_,by simp only[binOp,Op.stringOp,AO];rfl,by simp[VR]⟩
theorem VP{op:BinOp}{x y:D}{u v:Value}(t:TypeId)(h:bin op x y=some d)(hx:VR im g μ w ok x u)(hy:VR im g μ w ok y v):
 ∃r,(binOp op t u v).run P w=.ok r w∧VR im g μ w ok d r:=by
 unfold bin at h;split at h
 ·simp only[VR]at hx hy;subst hx hy;rename_i k p k' q;split at h
  ·split at h
   ·cases h
   ·rename_i hq;simp only[aA]at h;subst h;exact⟨_,by simp[binOp,Op.shift,hq];rfl,by simp[VR]⟩
  ·split at h
   ·cases h
   ·rename_i hq;simp only[aA]at h;subst h;exact⟨_,by simp[binOp,Op.shift,hq];rfl,by simp[VR]⟩
  ·split at h
   ·rename_i hk;subst hk;exact SP t h
   ·cases h
 ·have e1:=sL (l:=ep _) rfl hx;have e2:=sL (l:=ep _) rfl hy;rename_i p q;subst e1 e2;have inj:∀op d,SO op (ep p) (ep q)=some d→∃r,(binOp op t (.string ⟨(ep p).toArray⟩) (.string ⟨(ep q).toArray⟩)).run P w=.ok r w∧VR im g μ w ok d r:=λop d h=>If t h;split at h
  ·simp only[aA]at h;subst h;obtain⟨r,h1,h2⟩:=inj .eql _ rfl;exact⟨r,h1,by rw[wO]at h2;exact h2⟩
  ·simp only[aA]at h;subst h;obtain⟨r,h1,h2⟩:=inj .neq _ rfl;exact⟨r,h1,by rw[wO]at h2;exact h2⟩
  ·exact inj _ _ h
 ·split at h
  ·rename_i h1 h2;have e1:=sL h1 hx;have e2:=sL h2 hy;subst e1 e2;exact If t h
  ·cases h
section
variable (R:Rel im g μ w ok okp base) (hE:qj im g μ w ok e a.tmps)
include R hE
theorem zO{op:BinOp}{t:TypeId}{x y:Operand}{u v:Value}{p:D}(hx:VR im g μ w ok p u)(hp:(∃k n,p=.i k n)∨(∃l,str p=some l)):
 (eqGuard op t x y u v).run P w=.ok () w:=by
 have:(∃k n,u=.int k n)∨(∃s,u=.string s):=by
  rcases hp with⟨k,n,rfl⟩|⟨l,hl⟩
  ·simp only[VR]at hx;exact .inl ⟨k,n,hx⟩
  ·exact .inr ⟨_,sL hl hx⟩
 rcases this with⟨k,n,rfl⟩|⟨s,rfl⟩<;>cases op<;>simp[eqGuard]
theorem SN{op:BinOp}{x y:D}(h:bin op x y=some d):(∃k n,x=.i k n)∨(∃l,str x=some l):=by
 unfold bin at h;split at h
 ·exact .inl ⟨_,_,rfl⟩
 ·exact .inr ⟨_,rfl⟩
 ·split at h
  ·rename_i h1 h2;exact .inr ⟨_,h1⟩
  ·cases h
theorem Vz{op:BinOp}{t yt:TypeId}{x y:Operand}(ho:o.op=.binOp op t x y yt)(hc:cOp P im o.op=.bin op (cX im x) (cX im y)):ro P im g μ w ok okp base e a o nx:=by
 intro d bs h hf;rw[hc]at h;simp only[evA]at h;split at h
 ·rename_i d' hd;simp only[aA,aJ]at h;obtain⟨rfl,rfl⟩:=h;have hx:=jq hE x;have hy:=jq hE y;obtain⟨r,h1,h2⟩:=VP (P:=P) t hd hx hy;refine gY (v:=r) R (s:=do eqGuard op t x y (a.eval x) (a.eval y);binOp op t (a.eval x) (a.eval y)) (by simp only[execOp,ho]) ?_ h2;have hg:(eqGuard op t x y (a.eval x) (a.eval y)).run P w=.ok () w:=zO R hE hx (SN R hE hd);simp only[Sem.run_bind,hg,Result.andThen_ok,h1]
 ·cases h
theorem YN{op:BinOp}{t yt:TypeId}{x y:Operand}(ho:o.op=.binOp op t x y yt)(hc:cOp P im o.op=.binb op (cX im x) (cX im y))(hbt:P.underlying t=some .bool):ro P im g μ w ok okp base e a o nx:=by
 intro d bs h hf;rw[hc]at h;simp only[evA]at h;have hx:=jq hE x;have hy:=jq hE y;split at h
 ·rename_i p q hp hq;rw[hp]at hx;rw[hq]at hy;simp only[VR]at hx hy;have hg:∀op,(eqGuard op t x y (.bool p) (.bool q)).run P w=.ok () w:=λop=>by cases op<;>simp[eqGuard]
  split at h
  ·simp only[aA,aJ]at h;obtain⟨rfl,rfl⟩:=h;refine gY (v:=.bool (p==q)) R (s:=do eqGuard .eql t x y (a.eval x) (a.eval y);binOp .eql t (a.eval x) (a.eval y)) (by simp only[execOp,ho]) ?_ (by simp[VR]);rw[hx,hy];simp only[Sem.run_bind,hg,Result.andThen_ok,run_eql_bool w t _ _ hbt]
  ·simp only[aA,aJ]at h;obtain⟨rfl,rfl⟩:=h;refine gY (v:=.bool (!(p==q))) R (s:=do eqGuard .neq t x y (a.eval x) (a.eval y);binOp .neq t (a.eval x) (a.eval y)) (by simp only[execOp,ho]) ?_ (by simp[VR]);rw[hx,hy];simp only[Sem.run_bind,hg,Result.andThen_ok,run_neq_bool w t _ _ hbt]
  ·cases h
 ·cases h
theorem YI{op:UnOp}{t:TypeId}{x:Operand}(ho:o.op=.unOp op t x):ro P im g μ w ok okp base e a o nx:=by
 intro d bs h hf;rw[ho]at h;have hx:=jq hE x;cases op<;>simp only[cOp,evA]at h<;>try cases h
 ·split at h
  ·rename_i k n hd;simp only[aA,aJ]at h;obtain⟨rfl,rfl⟩:=h;rw[hd]at hx;simp only[VR]at hx;exact gY (v:=.int k (k.wrap (0-n))) R (s:=Op.unary .neg (a.eval x)) (by simp only[execOp,ho]) (by rw[hx];simp[Op.unary,Op.intArith]) (by simp[VR])
  ·cases h
 ·split at h
  ·rename_i p hd;simp only[aA,aJ]at h;obtain⟨rfl,rfl⟩:=h;rw[hd]at hx;simp only[VR]at hx;exact gY (v:=.bool (!p)) R (s:=Op.unary .not (a.eval x)) (by simp only[execOp,ho]) (by rw[hx];simp[Op.unary]) (by simp[VR])
  ·cases h
theorem In{s:TypeId}{x:Operand}{f:Nat}(ho:o.op=.fieldAddr s x f):ro P im g μ w ok okp base e a o nx:=by
 intro d bs h hf;rw[ho]at h;have hx:=jq hE x;simp only[cOp]at h;split at h
 ·rename_i fs hu;split at h
  ·rename_i fd hfd;split at h
   ·simp[evA]at h
   ·rename_i hsz;have hi:∃i,P.info? fd.type=some i:=by
     unfold jH at hsz;split at hsz
     ·rename_i i hi;exact⟨i,hi⟩
     ·simp at hsz
    obtain⟨i,hi⟩:=hi;have hrun:∀ad:Addr,(Instr.fieldAt s (.pointer (some ad)) f).run P w=.ok (.pointer (some (ad.add fd.offset))) w:=by
     intro ad;have:i.size≠0:=by rw[←pJ hi];exact hsz
     simp[Instr.fieldAt,fJ hu,hfd,Instr.sureAddr,fieldPlace,jF hi,this]
    simp only[evA]at h;split at h
    ·rename_i l o' hd;rw[hd]at hx;simp only[VR]at hx;obtain⟨b,p,hb,hv,hl⟩:=hx;rw[hb]at h;simp only at h;split at h
     ·rename_i hlive;simp only[aA,aJ]at h;obtain⟨rfl,rfl⟩:=h;have hp:=hl hlive;subst hp;refine gY R (s:=Instr.fieldAt s (a.eval x) f) (by simp only[execOp,ho]) (by rw[hv];exact hrun _) ?_;simp only[VR];rw[Addr.add_eq rfl];exact⟨b,_,hb,rfl,λ_=>by simp[cy]⟩
     ·cases h
    ·rename_i cs hd;simp only[aA,aJ]at h;obtain⟨rfl,rfl⟩:=h;rw[hd]at hx;simp only[VR,TR]at hx;obtain⟨ad,hv,h1,h2,h3⟩:=hx;refine gY R (s:=Instr.fieldAt s (a.eval x) f) (by simp only[execOp,ho]) (by rw[hv];exact hrun ad) ?_;simp only[VR,TR];rw[Addr.add_eq h1];exact⟨_,rfl,rfl,h2.drop _,Do h3 _⟩
    ·cases h
  ·simp[evA]at h
 ·simp[evA]at h
theorem VZ{s:TypeId}{x:Operand}{f:Nat}(ho:o.op=.field s x f):ro P im g μ w ok okp base e a o nx:=by
 intro d bs h hf;rw[ho]at h;have hx:=jq hE x;simp only[cOp]at h;split at h
 ·rename_i fs hu;split at h
  ·rename_i fd hfd;split at h
   ·rename_i td htd;obtain⟨i,hi⟩:=pO htd;split at h
    ·rename_i hag;simp only[evA]at h;split at h
     ·rename_i cs hd;rw[hd]at hx;simp only[VR]at hx;obtain⟨arr,hv,hl⟩:=hx;split at h
      ·rename_i r hcut;simp only[aA,aJ]at h;obtain⟨rfl,rfl⟩:=h;obtain⟨rfl,hlen⟩:=wY hcut;refine gY R (s:=Instr.field s (a.eval x) f) (v:=.agg (arr.extract fd.offset (fd.offset+i.size))) (by simp only[execOp,ho]) ?_ ?_
       ·rw[hv];simp[Instr.field,fJ hu,hfd,part,oP htd,hag,asAgg,jF hi]
       ·simp only[VR];refine⟨_,rfl,kK.2 ⟨?_,λj y hj=>?_⟩⟩
        ·have h1:=jT hl;rw[hlen,pJ hi];have h2:((cs.drop fd.offset).take (jH P fd.type)).length=jH P fd.type:=hlen;rw[pJ hi]at h2;simp at h1 h2 ⊢;omega
        ·rw[cf]at hj;split at hj
         ·rename_i hjl;rw[bw]at hj;obtain⟨v,e1,e2⟩:=(kK.1 hl).2 _ _ hj;refine⟨v,?_,e2⟩;rw[pJ hi]at hjl;have e3:arr[fd.offset+j]?=some v:=by simpa using e1
          have hb:fd.offset+j<arr.size:=(bm.1 e3).1;simp only[d9,Array.getElem?_extract];rw[aC (by omega)];exact e3
         ·cases hj
      ·cases h
     ·cases h
    ·rename_i hag;simp only[evA]at h;split at h
     ·rename_i cs hd;rw[hd]at hx;simp only[VR]at hx;obtain⟨arr,hv,hl⟩:=hx;split at h
      ·rename_i y r hdr;simp only[aA,aJ]at h;obtain⟨rfl,rfl⟩:=h;have hj:cs[fd.offset]?=some y:=by
        have:(cs.drop fd.offset)[0]?=some y:=by rw[hdr];rfl
        rwa[bw,bH]at this
       obtain⟨v,e1,e2⟩:=(kK.1 hl).2 _ _ hj;have e3:arr[fd.offset]?=some v:=by simpa using e1
       refine gY R (s:=Instr.field s (a.eval x) f) (v:=v) (by simp only[execOp,ho]) ?_ e2;rw[hv];simp[Instr.field,fJ hu,hfd,part,oP htd,hag,asAgg,e3]
      ·cases h
     ·cases h
   ·simp[evA]at h
  ·simp[evA]at h
 ·simp[evA]at h
theorem Im{t:TypeId}{x i:Operand}(ho:o.op=.indexAddr t x i):ro P im g μ w ok okp base e a o nx:=by
 intro d bs h hf;rw[ho]at h;have hx:=jq hE x;have hi:=jq hE i;simp only[cOp]at h;split at h
 ·rename_i el hu;split at h
  ·simp[evA]at h
  ·rename_i hsz;have hq:∃i,P.info? el=some i:=by
    unfold jH at hsz;split at hsz
    ·rename_i i hi;exact⟨i,hi⟩
    ·simp at hsz
   obtain⟨ti,hti⟩:=hq;have hrun:∀(k:IntKind)(n:Int)(ad:Addr)(len cap:Nat),0≤n→n<len→
    (Instr.indexAt t (.slice (some ad) len cap) (.int k n)).run P w=.ok (.pointer (some (ad.add (n.toNat*jH P el)))) w:=by
    intro k n ad len cap h0 h1;simp[Instr.indexAt,asIntOf,fJ hu,jF hti,h0,h1,pJ hti]
   simp only[evA]at h;split at h
   ·rename_i k n hdi;rw[hdi]at hi;simp only[VR]at hi;split at h
    ·rename_i l off len cm z ex hd;rw[hd]at hx;simp only[VR]at hx;obtain⟨b,p,cap,hb,hv,hl⟩:=hx;rw[hb]at h;simp only at h;split at h
     ·rename_i hc;simp only[ai,decide_eq_true_eq]at hc;obtain⟨⟨⟨hlive,h0⟩,h1⟩,hz⟩:=hc;simp only[aA,aJ]at h;obtain⟨rfl,rfl⟩:=h;obtain⟨hl1,rfl,hl2,hl3,hl5⟩:=hl hlive;refine gY R (s:=Instr.indexAt t (a.eval x) (a.eval i)) (by simp only[execOp,ho]) (by rw[hv,hi];exact hrun k n _ len cap h0 h1) ?_;simp only[VR];rw[Addr.add_eq rfl];exact⟨b,_,hb,rfl,λ_=>by simp[cy]⟩
     ·cases h
    ·rename_i cs len ex hd;rw[hd]at hx;simp only[VR,TR]at hx;obtain⟨p,cap,hv,hl1,hl2,hl3⟩:=hx;split at h
     ·rename_i hc;simp only[ai,decide_eq_true_eq]at hc;obtain⟨h0,h1⟩:=hc;split at h
      ·cases h
      rename_i d1 r1 hdrop;simp only[aA,aJ]at h;obtain⟨rfl,rfl⟩:=h;have hne:cs≠[]:=by
       intro hn;subst hn;simp at hdrop
      obtain⟨ad,rfl,e1,e2,e3⟩:=hl3 hne;refine gY R (s:=Instr.indexAt t (a.eval x) (a.eval i)) (by simp only[execOp,ho]) (by rw[hv,hi];exact hrun k n _ len cap h0 h1) ?_;have e4:=Do e3 (n.toNat*jH P el);rw[hdrop]at e4;simp only[VR,TR];rw[Addr.add_eq e1];have e5:=e2.drop (n.toNat*jH P el);rw[hdrop]at e5;exact⟨_,rfl,rfl,e5,e4⟩
     ·cases h
    ·cases h
   ·cases h
 ·simp[evA]at h
theorem VY{t:TypeId}{x i:Operand}(ho:o.op=.index t x i):ro P im g μ w ok okp base e a o nx:=by
 intro d bs h hf;rw[ho]at h;have hx:=jq hE x;have hi:=jq hE i;simp only[cOp]at h;split at h
 ·rename_i hu;simp only[evA]at h;split at h
  ·rename_i k n l hdi hdx;rw[hdi]at hi;simp only[VR]at hi;have hv:=sL hdx hx;split at h
   ·rename_i h0;split at h
    ·rename_i c r hdr;simp only[aA,aJ]at h;obtain⟨rfl,rfl⟩:=h;have hj:l[n.toNat]?=some c:=by
      have:(l.drop n.toNat)[0]?=some c:=by rw[hdr];rfl
      rwa[bw,bH]at this
     obtain⟨hlt,hget⟩:=bE.1 hj;have hj':(ByteArray.mk l.toArray)[n.toNat]?=some c:=by
      rw[getElem?_pos (ByteArray.mk l.toArray) n.toNat (by simpa[ByteArray.size]using hlt)];rw[←hget];rfl
     refine gY R (s:=Instr.index t (a.eval x) (a.eval i)) (v:=.int .u8 c.toNat) (by simp only[execOp,ho]) ?_ (by simp[VR]);rw[hv,hi];simp[Instr.index,asIntOf,fJ hu,h0,hj']
    ·cases h
   ·cases h
  ·cases h
 ·simp[evA]at h
theorem OT{x:Operand}{i:Nat}(ho:o.op=.extract x i):ro P im g μ w ok okp base e a o nx:=by
 intro d bs h hf;rw[ho]at h;have hx:=jq hE x;simp only[cOp,evA]at h;split at h
 ·rename_i vs hd;rw[hd]at hx;simp only[VR]at hx;obtain⟨arr,hv,hl⟩:=hx;split at h
  ·rename_i y r hdr;simp only[aA,aJ]at h;obtain⟨rfl,rfl⟩:=h;have hj:vs[i]?=some y:=by
    have:(vs.drop i)[0]?=some y:=by rw[hdr];rfl
    rwa[bw,bH]at this
   obtain⟨v,e1,e2⟩:=(kK.1 hl).2 _ _ hj;have e3:arr[i]?=some v:=by simpa using e1
   exact gY R (s:=Instr.extract (a.eval x) i) (v:=v) (by simp only[execOp,ho]) (by rw[hv];simp[Instr.extract,e3]) e2
  ·cases h
 ·cases h
theorem K7{fn:Fn}{first caps:Array Operand}(ho:o.op=.makeFunc fn first caps):ro P im g μ w ok okp base e a o nx:=by
 intro d bs h hf;rw[ho]at h;cases fn<;>simp only[cOp]at h<;>try (simp[evA]at h;done)
 rename_i F;split at h
 ·rename_i k hk hfirst;simp only[evA,aA,aJ]at h;obtain⟨rfl,rfl⟩:=h;have hfe:first= #[]:=by
   obtain⟨l⟩:=first;simp at hfirst;subst hfirst;rfl
  subst hfe;refine gY R (s:=Instr.makeFunc (.func F) ((#[]:Array Operand).map a.eval) (caps.map a.eval)) (v:=.func (.func F) #[] (caps.map a.eval)) (by simp only[execOp,ho]) (by simp[Instr.makeFunc]) ?_;simp only[VR];exact⟨F,caps.map a.eval,hk,rfl,by simpa using M1 hE caps.toList⟩
 ·simp[evA]at h
end
end
section
variable {P:Program} {im:Nat→Option Nat} {g:Nat→Option Blk} {μ:Nat→Nat×Nat} {w:World} {ok okp:Nat→Nat→Prop} {base:Nat} {e:Env} {a:Act} {o:Oper} {nx:Nat} {d:D} {bs:List Blk}
theorem Di{r:List D}{b:Nat}:∀{o:Nat},VRc im g μ w ok r b o→∃vs:List Value,VRl im g μ w ok r vs∧∀(j:Nat) v,vs[j]?=some v→w.cell? ⟨b,o+j,none⟩=some v:=by
 induction r with
 |nil=>intro o _;exact⟨[],by simp[VRl],λj v h=>by simp at h⟩
 |cons y ys ih=>
  intro o hr;simp only[VRc]at hr;obtain⟨⟨v,hv,hy⟩,hr⟩:=hr;obtain⟨vs,h1,h2⟩:=ih hr;refine⟨v::vs,by simp only[VRl];exact⟨v,vs,rfl,hy,h1⟩,λj u hj=>?_⟩;cases j with
  |zero=>simp only[bF,aA]at hj;subst hj;exact hv
  |succ j=>have:=h2 j u (by simpa using hj);rwa[show o+1+j=o+(j+1) by omega]at this
theorem K1{cs:List D}{vs:List Value}{l:List UInt8}(h:xY cs=some l)(hv:VRl im g μ w ok cs vs):
 ∃ns:List Int,vs=ns.map (Value.int .u8)∧l=ns.map λn=>UInt8.ofNat n.toNat:=by
 induction cs generalizing vs l with
 |nil=>simp only[VRl]at hv;subst hv;simp only[xY,aA]at h;subst h;exact⟨[],rfl,rfl⟩
 |cons c cs ih=>
  unfold xY at h;split at h
  ·cases ‹_::_=[]›
  ·rename_i n r he;simp only[List.cons.injEq]at he;obtain⟨rfl,rfl⟩:=he;split at h
   ·rename_i l' hl';simp only[aA]at h;subst h;simp only[VRl]at hv;obtain⟨v,r',rfl,hv,hr⟩:=hv;simp only[VR]at hv;subst hv;obtain⟨ns,rfl,rfl⟩:=ih hl' hr;exact⟨n::ns,rfl,rfl⟩
   ·cases h
  ·cases h
theorem qM(c:UInt8):∀(l:List UInt8)(acc:Nat),ej (l++[c]) acc=ej l acc*256+c.toNat
 |[],acc=>rfl
 |b::l,acc=>qM c l (acc*256+b.toNat)
theorem u6:∀(n:Nat)(l:List UInt8)(k:Nat)(acc:List UInt8),l.length=n→(∀c r,l=c::r→c.toNat≠0)→ej l 0≤k→mV k (ej l 0) acc=l++acc∧(l≠[]→0<ej l 0)
 |0,l,k,acc,hn,_,_=>by
  have:l=[]:=z1l.1 hn;subst this;refine⟨?_,λh=>absurd rfl h⟩;cases k<;>rfl
 |n+1,l,k,acc,hn,hc,hk=>by
  rcases List.eq_nil_or_concat l with h|⟨l',c,h⟩
  ·subst h;simp at hn
  ·have h:l=l'++[c]:=by simpa[List.concat_eq_append]using h
   subst h;have hl':l'.length=n:=by simpa using hn
   have hc':∀b r,l'=b::r→b.toNat≠0:=λb r e=>hc b (r++[c]) (by rw[e];rfl);rw[qM]at hk ⊢;have hlt:c.toNat<256:=c.toNat_lt;have pos:0<ej l' 0*256+c.toNat:=by
    cases hl:l' with
    |nil=>
     have:=hc c [] (by rw[hl];rfl);simp only[ej];omega
    |cons b r=>
     have:=(u6 n l' (ej l' 0) [] hl' hc' (aE _)).2 (by rw[hl];simp);rw[hl]at this;omega
   refine⟨?_,λ_=>pos⟩;cases k with
   |zero=>omega
   |succ k=>
    have e1:(ej l' 0*256+c.toNat)/256=ej l' 0:=by omega
    have e2:(ej l' 0*256+c.toNat)%256=c.toNat:=by omega
    have e3:Nat.beq (ej l' 0*256+c.toNat) 0=false:=by
     cases hq:Nat.beq (ej l' 0*256+c.toNat) 0 with
     |false=>rfl
     |true=>have:=aU hq;omega
    have ih:=(u6 n l' k (c::acc) hl' hc' (by omega)).1;show cond (Nat.beq (ej l' 0*256+c.toNat) 0) acc (mV k ((ej l' 0*256+c.toNat)/256) (UInt8.ofNat ((ej l' 0*256+c.toNat)%256)::acc))=_;rw[e3,e1,e2,UInt8.ofNat_toNat,cond_false,ih];simp
theorem TE(l:List UInt8):VR im g μ w ok (TF l) (.string ⟨l.toArray⟩):=by
 cases l with
 |nil=>simp[TF,VR,ep,mV]
 |cons c r=>
  unfold TF;simp only;cases hb:Nat.beq c.toNat 0 with
  |true=>simp[VR]
  |false=>
   have hc:c.toNat≠0:=by intro e;rw[e]at hb;simp at hb
   have:=(u6 _ (c::r) (ej (c::r) 0) [] rfl (λb q e=>by
    simp only[List.cons.injEq]at e;rw[←e.1];exact hc) (aE _)).1
   rw[ba]at this;simp only[cond_false,VR];show _=Value.string ⟨(mV (ej (c::r) 0) (ej (c::r) 0) []).toArray⟩;rw[this]
theorem KD(ns:List Int):∀(s:ByteArray),ns.foldl (λr n=>r.push (UInt8.ofNat n.toNat)) s=⟨(s.data.toList++ns.map λn=>UInt8.ofNat n.toNat).toArray⟩:=by
 induction ns with
 |nil=>intro s;cases s;simp
 |cons n ns ih=>intro s;rw[dq,ih];simp[ByteArray.push]
section
variable (R:Rel im g μ w ok okp base) (hE:qj im g μ w ok e a.tmps)
include R hE
theorem OU{s t:TypeId}{x:Operand}(ho:o.op=.convert s t x):ro P im g μ w ok okp base e a o nx:=by
 intro d bs h hf;rw[ho]at h;have hx:=jq hE x;simp only[cOp]at h;split at h
 ·rename_i k hs ht;simp only[evA]at h;split at h
  ·rename_i k' n hd;simp only[aA,aJ]at h;obtain⟨rfl,rfl⟩:=h;rw[hd]at hx;simp only[VR]at hx;exact gY R (s:=convert s t (a.eval x)) (v:=.int k (k.wrap n)) (by simp only[execOp,ho]) (by rw[hx];simp[convert,fJ hs,fJ ht,Conv.intToInt]) (by simp[VR])
  ·cases h
 ·rename_i hs ht;simp only[evA]at h;split at h
  ·rename_i l hl;simp only[aA,aJ]at h;obtain⟨rfl,rfl⟩:=h;have hv:=sL hl hx;exact gY R (s:=convert s t (a.eval x)) (v:=a.eval x) (by simp only[execOp,ho]) (by rw[hv];simp[convert,fJ hs,fJ ht]) hx
  ·cases h
 ·rename_i el hs ht;split at h
  ·rename_i he;simp only[evA]at h;split at h
   ·rename_i cs hcs;split at h
    ·rename_i l hl;simp only[aA,aJ]at h;obtain⟨rfl,rfl⟩:=h;obtain⟨ad,len,cap,hv,h1,h2,h3,h4⟩:=DZ R hcs hx;refine gY R (s:=convert s t (a.eval x)) (v:=.string ⟨l.toArray⟩) (by simp only[execOp,ho]) ?_ (TE l);rw[hv,run_convert_bytes_string w s t el ad len cap hs he ht];cases ad with
     |none=>
      have hn:cs=[]:=Classical.byContradiction λhn=>by obtain⟨x,hx,_⟩:=h4 hn;cases hx
      subst hn;simp only[xY,aA]at hl;subst hl;rfl
     |some ad=>
      have:∃vs:List Value,VRl im g μ w ok cs vs∧∀(j:Nat) v,vs[j]?=some v→w.cell? (ad.add j)=some v:=by
       by_cases hn:cs=[]
       ·subst hn;exact⟨[],by simp[VRl],λj v h=>by simp at h⟩
       ·obtain⟨y,hy,hs,hc⟩:=h4 hn;simp only[aA]at hy;subst hy;obtain⟨vs,e1,e2⟩:=Di hc;exact⟨vs,e1,λj v hj=>by rw[Addr.add_eq hs];exact e2 j v hj⟩
      obtain⟨vs,e1,e2⟩:=this;obtain⟨ns,rfl,rfl⟩:=K1 hl e1;have hlen:(ns.map (Value.int .u8)).length=len:=by rw[jT e1,h2,aj]
      have hload:(loadCells ad len).run P w=.ok (ns.map (Value.int .u8)).toArray w:=by
       rw[←hlen];exact run_loadCells_list w ad _ e2
      rw[run_bytesToString w ad len cap ns hload,KD];rfl
    ·cases h
   ·cases h
  ·simp[evA]at h
 ·rename_i el hs ht;split at h
  ·rename_i he;simp only[evA]at h;split at h
   ·rename_i l hl;simp only[aA,aJ]at h;obtain⟨rfl,rfl⟩:=h;have hv:=sL hl hx;have h0:g nx=none:=hf 0 (by simp);have hrun:=Lib.run_convert_string_bytes (P:=P) w s t el ⟨l.toArray⟩ hs ht he;refine⟨_,Lib.bytesWorld w el ⟨l.toArray⟩,.inl (by simp only[execOp,ho,hv,Sem.run_bind,hrun,Result.andThen_ok];rfl),
     Okv.new' R h0 (λb hb=>Lib.bytesWorld_at_old w el _ b hb) (Lib.bytesWorld_at_new w el _) (Lib.bytesWorld_size w el _) ⟨rfl,rfl⟩ (λo ho=>by simp only;omega) (λj y hj=>?_) (wC (aE _) ?_ (λh=>by cases h) ?_)⟩
    ·rw[ae]at hj;cases hc:l[j]?with
     |none=>rw[hc]at hj;cases hj
     |some c=>
      rw[hc]at hj;simp only[cF,aA]at hj;subst hj;obtain⟨hlt,hget⟩:=bE.1 hc;refine⟨.int .u8 c.toNat,?_,by simp[VR]⟩;simp[Lib.bytesCells,Array.getElem?_append,hlt,hget]
    ·unfold grownCap;simp[Question.cut,ByteArray.size]
    ·rw[nI (Lib.bytesWorld_at_new w el _)];have:l.length≤grownCap w l.length 0 el:=by unfold grownCap;simp[Question.cut]
     simp[Lib.bytesCells,ByteArray.size];omega
   ·cases h
  ·simp[evA]at h
 ·simp[evA]at h
theorem tW{d:D}{v:Value}{n:Nat}{x:Operand}{k:IntKind}{m:Int}(h:X.ev e (cX im x)=.i k m):a.eval x=.int k m:=by
 have:=jq hE x;rw[h]at this;simpa only[VR]using this
theorem vm{x:Option Operand}{dflt n:Nat}(h:sI (X.ev e) (x.map (cX im)) dflt=some n):
 (x=none∧n=dflt)∨∃y k m,x=some y∧a.eval y=.int k m∧0≤m∧m.toNat=n:=by
 cases x with
 |none=>simp only[sI,dN,aA]at h;exact .inl ⟨rfl,h.symm⟩
 |some y=>
  simp only[sI,cF]at h;split at h
  ·rename_i k m hd;split at h
   ·rename_i h0;simp only[aA]at h;exact .inr ⟨y,k,m,rfl,tW R hE (d:=.u) (v:=undef) (n:=0) hd,h0,h⟩
   ·cases h
  ·cases h
theorem kH{k:IntKind}{m:Int}{y n:Nat}{c:BoundsCode}(h0:0≤m)(hn:m.toNat=n)(h1:n≤y):(Instr.sliceBound (.int k m) y c).run P w=.ok n w:=by
 have:m≤y:=by omega
 simp[Instr.sliceBound,asIntOf,h0,this,hn]
theorem tG{len cap:Nat}{lo hi mx:Option Operand}{m h l:Nat}(isS:Bool)(hm:sI (X.ev e) (mx.map (cX im)) cap=some m)(hh:sI (X.ev e) (hi.map (cX im)) len=some h)
 (hl:sI (X.ev e) (lo.map (cX im)) 0=some l) (h1:m≤cap) (h2:h≤m) (h3:l≤h) (h4:hi=none→mx=none):
 (Instr.sliceBounds isS len cap (lo.map a.eval) (hi.map a.eval) (mx.map a.eval)).run P w=.ok (l,h,m) w:=by
 rcases vm R hE hm with⟨rfl,rfl⟩|⟨ym,km,nm,rfl,em,zm,tm⟩
 ·rcases vm R hE hh with⟨rfl,rfl⟩|⟨yh,kh,nh,rfl,eh,zh,th⟩
  ·rcases vm R hE hl with⟨rfl,rfl⟩|⟨yl,kl,nl,rfl,el,zl,tl⟩
   ·simp[Instr.sliceBounds]
   ·simp[Instr.sliceBounds,el,kH R hE zl tl h3]
  ·rcases vm R hE hl with⟨rfl,rfl⟩|⟨yl,kl,nl,rfl,el,zl,tl⟩
   ·simp[Instr.sliceBounds,eh,kH R hE zh th h2]
   ·simp[Instr.sliceBounds,eh,el,kH R hE zh th h2,kH R hE zl tl h3]
 ·rcases vm R hE hh with⟨rfl,rfl⟩|⟨yh,kh,nh,rfl,eh,zh,th⟩
  ·exact absurd (h4 rfl) (by simp)
  ·rcases vm R hE hl with⟨rfl,rfl⟩|⟨yl,kl,nl,rfl,el,zl,tl⟩
   ·simp[Instr.sliceBounds,em,eh,kH R hE zm tm h1,kH R hE zh th h2]
   ·simp[Instr.sliceBounds,em,eh,el,kH R hE zm tm h1,kH R hE zh th h2,kH R hE zl tl h3]
theorem Ea{x:Option Operand}{d1 d2 n:Nat}(h:sI (X.ev e) (x.map (cX im)) d1=some n):(x=none∧n=d1)∨sI (X.ev e) (x.map (cX im)) d2=some n:=by
 cases x with
 |none=>simp only[sI,dN,aA]at h;exact .inl ⟨rfl,h.symm⟩
 |some y=>right;exact h
theorem VX{t:TypeId}{x:Operand}{lo hi mx:Option Operand}(ho:o.op=.slice t x lo hi mx):ro P im g μ w ok okp base e a o nx:=by
 intro d bs h hf;rw[ho]at h;have hx:=jq hE x;simp only[cOp]at h;split at h
 ·rename_i el hu;split at h
  ·simp[evA]at h
  ·rename_i hc;simp only[ct,ai,decide_eq_true_eq,not_or,not_and]at hc;obtain⟨hnm,hsz⟩:=hc;have h4:hi=none→mx=none:=by
    intro hh;subst hh;have:=hnm rfl;cases mx<;>simp_all
   have hq:∃i,P.info? el=some i:=by
    unfold jH at hsz;split at hsz
    ·rename_i i hi;exact⟨i,hi⟩
    ·simp at hsz
   obtain⟨ti,hti⟩:=hq;have hrun:∀(p:Option Addr)(len cap l h m:Nat),(Instr.sliceBounds true len cap (lo.map a.eval) (hi.map a.eval) (mx.map a.eval)).run P w=.ok (l,h,m) w→
    (Instr.sliceAt t (.slice p len cap) (lo.map a.eval) (hi.map a.eval) (mx.map a.eval)).run P w=.ok (.slice (if m=l then p else p.map (·.add (l*jH P el))) (h-l) (m-l)) w:=by
    intro p len cap l h m hb;simp[Instr.sliceAt,Instr.slice,fJ hu,hb,jF hti,pJ hti]
   simp only[evA,Option.isSome_map]at h;split at h
   ·rename_i l off len cm z ex hd;rw[hd]at hx;simp only[VR]at hx;obtain⟨b,p,cap,hb,hv,hl⟩:=hx;split at h
    ·rename_i m hh lw b' em eh el' hb';rw[hb]at hb';simp only[aA]at hb';subst hb';split at h
     ·rename_i hcond;simp only[ai,decide_eq_true_eq]at hcond;obtain⟨⟨⟨⟨hlive,c1⟩,c2⟩,c3⟩,hz⟩:=hcond;obtain⟨hl1,rfl,hl2,hl3,hl5⟩:=hl hlive;obtain⟨M,hM,hM1,hM2,hM3⟩:∃M,sI (X.ev e) (mx.map (cX im)) cap=some M∧m≤M∧M≤cap∧(mx.isSome=true→M=m):=by
       rcases Ea R hE (d2:=cap) em with⟨rfl,rfl⟩|hm
       ·exact⟨cap,rfl,hl2,aE _,λh=>by cases h⟩
       ·cases mx with
        |none=>exact⟨cap,rfl,by omega,aE _,λh=>by cases h⟩
        |some y=>exact⟨m,hm,aE _,by omega,λ_=>rfl⟩
      have hbnd:=tG (P:=P) (w:=w) R hE true hM eh el' hM2 (by omega) c3 h4;have hex:(mx.isSome||ex)=true→M=m:=by
       intro hq;rcases(ct _ _).mp hq with h'|h'
       ·exact hM3 h'
       ·cases hmx:mx with
        |some y=>exact hM3 (by rw[hmx];rfl)
        |none=>
         subst hmx;simp only[sI,dN,aA]at hM em;have:=hl3 h';omega
      split at h
      ·rename_i hlt;simp only[aA,aJ]at h;obtain⟨rfl,rfl⟩:=h;refine gY R (s:=Instr.sliceAt t (a.eval x) (lo.map a.eval) (hi.map a.eval) (mx.map a.eval)) (by simp only[execOp,ho]) (by rw[hv];exact hrun _ _ _ _ _ _ hbnd) ?_;simp only[VR];rw[aF (by omega)];refine⟨b,_,_,hb,rfl,λ_=>⟨by omega,?_,by omega,λhq=>by have:=hex hq;omega,?_⟩⟩
       ·simp[Addr.add_eq,cy]
       ·subst hz;have e1:lw*jH P el+(M-lw)*jH P el=M*jH P el:=by rw[←aS];congr 1;omega
        have e2:M*jH P el≤cap*jH P el:=aL _ hM2;omega
      ·simp only[aA,aJ]at h;obtain⟨rfl,rfl⟩:=h;refine gY R (s:=Instr.sliceAt t (a.eval x) (lo.map a.eval) (hi.map a.eval) (mx.map a.eval)) (by simp only[execOp,ho]) (by rw[hv];exact hrun _ _ _ _ _ _ hbnd) ?_;simp only[VR,TR];have h00:hh-lw=0:=by omega
       rw[h00];refine⟨_,_,rfl,a9 _,λhq=>?_,λhn=>absurd rfl hn⟩
       ·have:=hex hq;omega
     ·cases h
    ·cases h
   ·rename_i cs len ex hd;rw[hd]at hx;simp only[VR,TR]at hx;obtain⟨p,cap,hv,hl1,hl2,hl3⟩:=hx;split at h
    ·rename_i m hh lw em eh el';split at h
     ·rename_i hcond;simp only[ai,decide_eq_true_eq]at hcond;obtain⟨⟨⟨c1,c2⟩,c3⟩,hlen⟩:=hcond;simp only[aA,aJ]at h;obtain⟨rfl,rfl⟩:=h;obtain⟨M,hM,hM1,hM2,hM3⟩:∃M,sI (X.ev e) (mx.map (cX im)) cap=some M∧m≤M∧M≤cap∧(mx.isSome=true→M=m):=by
       rcases Ea R hE (d2:=cap) em with⟨rfl,rfl⟩|hm
       ·exact⟨cap,rfl,hl1,aE _,λh=>by cases h⟩
       ·cases mx with
        |none=>
         simp only[sI,dN,aA]at em;exact⟨cap,rfl,by omega,aE _,λh=>by cases h⟩
        |some y=>exact⟨m,hm,aE _,by omega,λ_=>rfl⟩
      have hbnd:=tG (P:=P) (w:=w) R hE true hM eh el' hM2 (by omega) c3 h4;refine gY R (s:=Instr.sliceAt t (a.eval x) (lo.map a.eval) (hi.map a.eval) (mx.map a.eval)) (by simp only[execOp,ho]) (by rw[hv];exact hrun _ _ _ _ _ _ hbnd) ?_;simp only[VR,TR];refine⟨_,_,rfl,by omega,λhx=>?_,λhn=>?_⟩
      ·simp only[ct,ai,beq_iff_eq,dx]at hx;rcases hx with⟨q1,q2⟩|⟨⟨q1,q2⟩,q3⟩
       ·have:=hM3 q1;omega
       ·have hmx:mx=none:=by cases mx<;>simp_all
        subst hmx;simp only[sI,dN,aA]at hM em;have:=hl2 q2;omega
      ·have hne:cs≠[]:=by intro h;subst h;simp at hn
       have hpos:lw<hh:=by
        rcases az lw hh with h|h
        ·exact h
        ·have:hh-lw=0:=by omega
         rw[this,bT]at hn;simp at hn
       obtain⟨ad,rfl,e1,e2,e3⟩:=hl3 hne;rw[aF (by omega)];refine⟨_,rfl,?_,?_,?_⟩
       ·show(ad.add _).spot=none;rw[Addr.add_eq e1]
       ·show okN ok (ad.add _).block (ad.add _).off _;rw[Addr.add_eq e1];exact(e2.drop _).take _
       ·show TRc im w ok _ (ad.add _).block (ad.add _).off;rw[Addr.add_eq e1];exact Sk (Do e3 _) _
     ·cases h
    ·cases h
   ·cases h
 ·rename_i hu;split at h
  ·simp[evA]at h
  ·rename_i hmx;have hmx':mx=none:=by cases mx<;>simp_all
   subst hmx';simp only[evA]at h;split at h
   ·rename_i l hl;have hv:=sL hl hx;split at h
    ·rename_i hh lw eh el';split at h
     ·rename_i hcond;simp only[ai,decide_eq_true_eq]at hcond;obtain⟨c1,c2⟩:=hcond;simp only[aA,aJ]at h;obtain⟨rfl,rfl⟩:=h;have hbnd:=tG (P:=P) (w:=w) (mx:=none) (m:=l.length) R hE false rfl eh el' (aE _) c1 c2 (λ_=>rfl);refine gY R (s:=Instr.sliceAt t (a.eval x) (lo.map a.eval) (hi.map a.eval) none) (v:=.string ((ByteArray.mk l.toArray).extract lw hh)) (by simp only[execOp,ho];rfl) ?_ ?_
      ·rw[hv];have hsz:(ByteArray.mk l.toArray).size=l.length:=by simp[ByteArray.size]
       simp only[dN]at hbnd;simp[Instr.sliceAt,Instr.slice,fJ hu,hsz,hbnd]
      ·simp only[VR];congr 1;apply ByteArray.ext;apply Array.ext';simp
       try omega
     ·cases h
    ·cases h
   ·cases h
 ·simp[evA]at h
end
end
theorem uV(n:Nat)(z:List D):(oa n z).length=n*z.length:=by
 induction n with
 |zero=>simp[oa]
 |succ n ih=>simp only[oa,ay,ih];rw[eA];omega
theorem Mm{z:List D}(hz:0<z.length):∀(n j:Nat),j<n*z.length→(oa n z)[j]?=z[j%z.length]?:=by
 intro n
 induction n with
 |zero=>intro j h;omega
 |succ n ih=>
  intro j h;simp only[oa];by_cases hj:j<z.length
  ·rw[bO hj,bL hj]
  ·rw[bJ (by omega),ih _ (by rw[eA]at h;omega)];rw[Nat.mod_eq_sub_mod (by omega:j≥z.length)]
section
variable {P:Program} {im:Nat→Option Nat} {g:Nat→Option Blk} {μ:Nat→Nat×Nat} {w:World} {ok okp:Nat→Nat→Prop} {base:Nat} {e:Env} {a:Act} {o:Oper} {nx:Nat} {d:D} {bs:List Blk}
theorem AL{z:Value}{n m:Nat}(hm:m=n*(zc z).length):∀(j:Nat)(x:D),(oa n (zc z))[j]?=some x→∃v,((Array.range m).map (z.cells[· %z.cells.size]!))[j]?=some v∧VR im g μ w ok x v:=by
 intro j x hj;have hlen:(zc z).length=z.cells.size:=by simp[zc]
 have hlt:j<n*(zc z).length:=by
  have:=(bE.1 hj).1;rwa[uV]at this
 have hpos:0<(zc z).length:=by
  rcases bQ (zc z).length with h|h
  ·rw[h,dG]at hlt;omega
  ·exact h
 rw[Mm hpos _ _ hlt]at hj;obtain⟨v,hv,hr⟩:=sX (g:=g) (μ:=μ) (w:=w) (ok:=ok) (im:=im) (Iq z) _ _ hj;refine⟨v,?_,hr⟩;rw[hlen]at hv;have hmod:j%z.cells.size<z.cells.size:=bc _ (by omega);have h2:j<(Array.range m).size:=by simp;omega
 rw[Array.getElem?_map,Array.getElem?_range];rw[aC (by omega)];simp only[cF,aA];rw[getElem!_pos z.cells _ hmod];rw[getElem?_pos z.cells _ hmod]at hv;simpa using hv
section
variable (R:Rel im g μ w ok okp base) (hE:qj im g μ w ok e a.tmps)
include R hE
theorem Il{t:TypeId}{l c:Operand}(ho:o.op=.makeSlice t l c):ro P im g μ w ok okp base e a o nx:=by
 intro d bs h hf;rw[ho]at h;simp only[cOp]at h;split at h
 ·rename_i el hu;split at h
  ·rename_i z hz;obtain⟨ti,hti,hz⟩:=tD hz;split at h
   ·rename_i hzl;simp only[ai,beq_iff_eq,decide_eq_true_eq]at hzl;obtain⟨hzl,hpos⟩:=hzl;simp only[evA]at h;split at h
    ·rename_i n m hl hc;split at h
     ·rename_i hcond;simp only[ai,decide_eq_true_eq]at hcond;obtain⟨⟨⟨⟨c1,c2⟩,c3⟩,c4⟩,c5⟩:=hcond;simp only[aA,aJ]at h;obtain⟨rfl,rfl⟩:=h;have el':=tW R hE (d:=.u) (v:=undef) (n:=0) hl;have ec':=tW R hE (d:=.u) (v:=undef) (n:=0) hc;have h0:g nx=none:=hf 0 (by simp);have w1:IntKind.i64.wrap n=n:=by
       unfold IntKind.wrap;simp[IntKind.signed,IntKind.bits];omega
      have w2:IntKind.i64.wrap m=m:=by
       unfold IntKind.wrap;simp[IntKind.signed,IntKind.bits];omega
      have hb:(ti.bytes:Int)*m≤281474976710656:=by rw[Int.mul_comm];rw[G8 hti]at c4;omega
      have hn0:¬m<0:=by omega
      have hbig:¬(281474976710656<(ti.bytes:Int)*m):=by omega
      have hl0:¬n<0:=by omega
      have hlm:¬m<n:=by omega
      have hrun:(Instr.makeSlice t (.int .i64 n) (.int .i64 m)).run P w=.ok (.slice (some ⟨w.heap.size,0,none⟩) n.toNat m.toNat)
       (w.alloc (.cells ((Array.range (m.toNat*ti.size)).map (z.cells[· %z.cells.size]!)) el)):=by
       simp[Instr.makeSlice,fJ hu,t5 hti,asInt,asIntOf,w1,w2,hn0,hbig,hl0,hlm,jF hti];by_cases hq:m.toNat*ti.size=0
       ·rw[aC hq,hq];have q1:∀f:Nat→Value,(Array.range 0).map f= #[]:=λf=>by simp
        simp only[tg,q1,Result.andThen_ok]
       ·rw[aF hq];simp only[qJ hti hz,tg,Result.andThen_ok]
      refine⟨_,_,.inl (by simp only[execOp,ho,el',ec',Sem.run_bind,hrun,Result.andThen_ok];rfl),
       Okv.new R h0 (fr:=(0,0)) rfl (.alloc _ _ _) (λo _=>by simp) (AL (by rw[c5,pJ hti])) (wC (by omega) (aE _) (λ_=>rfl) (by rw[nI (heap_alloc_new w _)];simp[pJ hti]))⟩
     ·cases h
    ·cases h
   ·simp[evA]at h
  ·simp[evA]at h
 ·simp[evA]at h
theorem Z0{t:TypeId}{x:Operand}{el:TypeId}(ho:o.op=.call ⟨.builtin .len,#[x],#[t]⟩)(hu:P.underlying t=some (.slice el))(hc:cOp P im o.op=.len (cX im x)):ro P im g μ w ok okp base e a o nx:=by
 intro d bs h hf;rw[hc]at h;have hx:=jq hE x;simp only[evA]at h;split at h
 ·rename_i n hn;simp only[aA,aJ]at h;obtain⟨rfl,rfl⟩:=h;have key:∀q cap,a.eval x=.slice q n cap→wc im g μ w ok okp base (sZ g nx []) (.i .i64 n) ((execOp a.eval o).run P w):=by
   intro q cap h1;exact⟨.int .i64 n,w,.inl (by simp[execOp,ho,resolve,invoke,builtin,h1,Builtin.len_,fJ hu,goInt]),.same R (by simp[VR])⟩
  cases hd:X.ev e (cX im x)<;>rw[hd]at hn hx<;>simp only[lenOf]at hn<;>try cases hn
  ·simp only[VR,TR]at hx;obtain⟨q,cap,hv,_⟩:=hx;exact key q cap hv
  ·simp only[VR]at hx;obtain⟨b,q,cap,hb,hv,_⟩:=hx;exact key q cap hv
 ·cases h
theorem YM{t:TypeId}{x:Operand}(ho:o.op=.call ⟨.builtin .len,#[x],#[t]⟩)(hu:P.underlying t=some .string)(hc:cOp P im o.op=.lens (cX im x)):ro P im g μ w ok okp base e a o nx:=by
 intro d bs h hf;rw[hc]at h;have hx:=jq hE x;simp only[evA]at h;split at h
 ·rename_i l hl;simp only[aA,aJ]at h;obtain⟨rfl,rfl⟩:=h;have hv:=sL hl hx;have hsz:(ByteArray.mk l.toArray).size=l.length:=by simp[ByteArray.size]
  refine⟨.int .i64 l.length,w,.inl ?_,.same R (by simp[VR])⟩;simp[execOp,ho,resolve,invoke,builtin,hv,Builtin.len_,fJ hu,goInt,hsz]
 ·cases h
theorem ZZ{ts:Array TypeId}{x y:Operand}(ho:o.op=.call ⟨.builtin .max,#[x,y],ts⟩)(hc:cOp P im o.op=.max (cX im x) (cX im y)):ro P im g μ w ok okp base e a o nx:=by
 intro d bs h hf;rw[hc]at h;simp only[evA]at h;split at h
 ·rename_i k p k' q hp hq;split at h
  ·rename_i hk;simp only[aA,aJ]at h;obtain⟨rfl,rfl⟩:=h;have e1:=tW R hE (d:=.u) (v:=undef) (n:=0) hp;have e2:=tW R hE (d:=.u) (v:=undef) (n:=0) hq;exact⟨_,w,.inl (by simp[execOp,ho,resolve,invoke,builtin,e1,e2,run_max_int2];rfl),.same R (by simp[VR])⟩
  ·cases h
 ·cases h
theorem ZY{ts:Array TypeId}{x y:Operand}(ho:o.op=.call ⟨.builtin .min,#[x,y],ts⟩)(hc:cOp P im o.op=.min (cX im x) (cX im y)):ro P im g μ w ok okp base e a o nx:=by
 intro d bs h hf;rw[hc]at h;simp only[evA]at h;split at h
 ·rename_i k p k' q hp hq;split at h
  ·rename_i hk;simp only[aA,aJ]at h;obtain⟨rfl,rfl⟩:=h;have e1:=tW R hE (d:=.u) (v:=undef) (n:=0) hp;have e2:=tW R hE (d:=.u) (v:=undef) (n:=0) hq;exact⟨_,w,.inl (by simp[execOp,ho,resolve,invoke,builtin,e1,e2,run_min_int2];rfl),.same R (by simp[VR])⟩
  ·cases h
 ·cases h
omit R hE in
theorem Nx:∀(l:List Value)(off j:Nat)(cells:Array Value),off+j+l.length≤cells.size→
 ((l.zipIdx j).foldl (λcs(x:Value×Nat)=>cs.setIfInBounds (off+x.2) x.1) cells).size=cells.size∧
 ∀k,((l.zipIdx j).foldl (λcs(x:Value×Nat)=>cs.setIfInBounds (off+x.2) x.1) cells)[k]?=if off+j≤k∧k<off+j+l.length then l[k-(off+j)]?else cells[k]?:=by
 intro l
 induction l with
 |nil=>intro off j cells h;exact⟨rfl,λk=>by rw[aF (by simp only[c9];omega)];rfl⟩
 |cons v l ih=>
  intro off j cells h;simp only[bD]at h;simp only[List.zipIdx_cons,dq];obtain⟨h1,h2⟩:=ih off (j+1) (cells.setIfInBounds (off+j) v) (by simp;omega);refine⟨by rw[h1];simp,λk=>?_⟩;rw[h2 k];simp only[bD];by_cases hk:k=off+j
  ·subst hk;rw[aF (by omega),aC (by omega)];rw[z19 (by omega)];simp
  ·by_cases hk2:off+j≤k∧k<off+j+(l.length+1)
   ·rw[aC (by omega),aC hk2];rw[show k-(off+j)=(k-(off+(j+1)))+1 by omega];simp
   ·rw[aF (by omega),aF hk2,dL (by omega)]
omit R hE in
theorem B9{off:Nat}{new cs r:List D}(h:lay off new cs=some r):off+new.length≤cs.length∧r.length=cs.length∧∀k,r[k]?=if off≤k∧k<off+new.length then new[k-off]?else cs[k]?:=by
 unfold lay at h;split at h
 ·rename_i hle;simp only[aA]at h;subst h;refine⟨hle,by simp;omega,λk=>?_⟩;have htk:(cs.take off).length=off:=by simp;omega
  by_cases h1:k<off
  ·rw[aF (by omega),bV,bO (by omega),z1h h1]
  ·by_cases h2:k<off+new.length
   ·rw[aC (by omega),bV,bJ (by omega),htk,bO (by omega)]
   ·rw[aF (by omega),bV,bJ (by omega),htk,bJ (by omega),bw];congr 1;omega
 ·cases h
omit R hE in
theorem IU{ev:X→D}:∀(abs:List (Nat×Nat×X))(cs cs':List D),fill ev abs cs=some cs'→cs'.length=cs.length
 |[],cs,cs',h=>by simp only[fill,aA]at h;rw[h]
 |(off,sz,x)::abs,cs,cs',h=>by
  simp only[fill]at h;split at h
  ·split at h
   ·rename_i cs1 hl;rw[IU abs _ _ h,(B9 hl).2.1]
   ·cases h
  ·cases h
omit R in
theorem IS{place:Nat→Option (Nat×Nat)}:∀(l:List (Nat×Operand))(abs:List (Nat×Nat×X))(cs cs':List D)(arr:Array Value),
 (∀p q,(p,q)∈l.zip abs→place p.1=some (q.1,q.2.1)∧q.2.2=cX im p.2)→l.length=abs.length→
 fill (X.ev e) abs cs=some cs'→VRl im g μ w ok cs arr.toList→
 ∃arr',Instr.fill place arr (l.map λp=>(p.1,a.eval p.2))=some arr'∧VRl im g μ w ok cs' arr'.toList:=by
 intro l
 induction l with
 |nil=>
  intro abs cs cs' arr hp hl h hv;cases abs with
  |nil=>simp only[fill,aA]at h;subst h;exact⟨arr,rfl,hv⟩
  |cons x xs=>simp at hl
 |cons p l ih=>
  intro abs cs cs' arr hp hl h hv;cases abs with
  |nil=>simp at hl
  |cons q abs=>
   obtain⟨off,sz,x⟩:=q;obtain⟨h1,h2⟩:=hp p (off,sz,x) (by simp);simp only at h1 h2;subst h2;simp only[fill]at h;split at h
   ·rename_i hc;simp only[ai,decide_eq_true_eq]at hc;obtain⟨hsz,hone⟩:=hc;split at h
    ·rename_i cs1 hlay;obtain⟨hle,hlen,hget⟩:=B9 hlay;have hval:=AN (jq hE p.2) hone;have hvl:=jT hval;have hal:=jT hv;simp only[dR]at hvl hal;obtain⟨f1,f2⟩:=Nx (a.eval p.2).cells.toList off 0 arr (by simp;omega);have hstep:Instr.fill place arr ((p::l).map λp=>(p.1,a.eval p.2))=
      Instr.fill place ((a.eval p.2).cells.zipIdx.foldl (λcs(x:Value×Nat)=>cs.setIfInBounds (off+x.2) x.1) arr) (l.map λp=>(p.1,a.eval p.2)):=by
      simp only[bI,Instr.fill,h1];rw[aF];simp only[ct,decide_eq_true_eq,not_or,Decidable.not_not];omega
     rw[hstep];have hconv:(a.eval p.2).cells.zipIdx.foldl (λcs(x:Value×Nat)=>cs.setIfInBounds (off+x.2) x.1) arr=((a.eval p.2).cells.toList.zipIdx 0).foldl (λcs(x:Value×Nat)=>cs.setIfInBounds (off+x.2) x.1) arr:=by
      rw[←Array.foldl_toList,Array.toList_zipIdx]
     rw[hconv];refine ih abs cs1 cs' _ (λp' q' hm=>hp p' q' (by simp[hm])) (by simpa using hl) h (kK.2 ⟨?_,λj y hj=>?_⟩)
     ·simp only[dR];rw[f1,hlen];exact hal
     ·rw[hget]at hj;simp only[d9];rw[f2 j];simp only[bH,dR];rw[show(a.eval p.2).cells.size=(kP (X.ev e (cX im p.2))).length from hvl];split at hj
      ·rename_i hr;rw[aC hr];exact(kK.1 hval).2 _ _ hj
      ·rename_i hr;rw[aF hr];have:=(kK.1 hv).2 _ _ hj;simpa only[d9]using this
    ·cases h
   ·cases h
omit R hE in
theorem K0{places:List (Nat×Nat)}:∀(l:List (Nat×Operand))(abs:List (Nat×Nat×X)),D2 im places l=some abs→
 l.length=abs.length∧∀p q,(p,q)∈l.zip abs→places.toArray[p.1]?=some (q.1,q.2.1)∧q.2.2=cX im p.2:=by
 intro l
 induction l with
 |nil=>intro abs h;simp only[D2,aA]at h;subst h;exact⟨rfl,λp q h=>by simp at h⟩
 |cons p l ih=>
  intro abs h;obtain⟨i,x⟩:=p;simp only[D2]at h;split at h
  ·rename_i f r hf hr;simp only[aA]at h;subst h;obtain⟨h1,h2⟩:=ih r hr;refine⟨by simp[h1],λp' q' hm=>?_⟩;simp only[List.zip_cons_cons,bK,aJ]at hm;rcases hm with⟨rfl,rfl⟩|hm
   ·exact⟨by simpa using hf,rfl⟩
   ·exact h2 p' q' hm
  ·cases h
theorem V1{t:TypeId}{parts:Array (Nat×Operand)}(ho:o.op=.build t parts):ro P im g μ w ok okp base e a o nx:=by
 intro d bs h hf;rw[ho]at h;simp only[cOp]at h;split at h
 ·rename_i fs z hu hz;obtain⟨ti,hti,hz⟩:=tD hz;split at h
  ·rename_i places hp;split at h
   ·rename_i abs habs;obtain⟨hlen,hzip⟩:=K0 _ _ habs;simp only[evA]at h;split at h
    ·rename_i cs hcs;simp only[aA,aJ]at h;obtain⟨rfl,rfl⟩:=h;obtain⟨arr',h1,h2⟩:=IS hE (place:=(places.toArray[·]?)) parts.toList abs (zc z) cs z.cells hzip hlen hcs (Iq z);refine gY R (s:=Instr.build t (parts.map λ(i,x)=>(i,a.eval x))) (v:=.agg arr') (by simp only[execOp,ho]) (run_build w t _ _ ?_) (by simp only[VR];exact⟨arr',rfl,h2⟩);simp only[Program.built,hti,hu,hz,hp];rw[Array.toList_map];exact h1
    ·cases h
   ·simp[evA]at h
  ·simp[evA]at h
 ·simp[evA]at h
omit R in
theorem xZ{t:TypeId}{len:Nat}{parts:Array (Nat×Operand)}(ho:o.op=.buildSlice t len parts){n:Nat}{zr:List D}{l:List (Nat×Nat×X)}(h:cOp P im o.op=.bsl n zr l){cs:List D}(hcs:fill (X.ev e) l (oa n zr)=some cs):
 n=len∧∃(arr':Array Value)(el:TypeId),(execOp a.eval o).run P w=.ok (.value (.slice (some ⟨w.heap.size,0,none⟩) len len)) (w.alloc (.cells arr' el))∧VRl im g μ w ok cs arr'.toList∧arr'.size=len*zr.length:=by
 rw[ho]at h;simp only[cOp]at h;split at h
 ·rename_i el hu;split at h
  ·rename_i z hz;obtain⟨ti,hti,hz⟩:=tD hz;split at h
   ·rename_i hc;simp only[ai,decide_eq_true_eq,beq_iff_eq]at hc;obtain⟨⟨hsz,hzl⟩,hpos⟩:=hc;simp only[O.bsl.injEq]at h;obtain⟨rfl,rfl,rfl⟩:=h;rw[pJ hti]at hsz hzl hpos hcs;refine⟨rfl,?_⟩;have hz0:VRl im g μ w ok (oa len (zc z)) ((Array.range (len*ti.size)).map (z.cells[· %z.cells.size]!)).toList:=by
     refine kK.2 ⟨by simp[uV,hzl],λj x hj=>?_⟩;obtain⟨v,hv,hr⟩:=AL (g:=g) (μ:=μ) (w:=w) (ok:=ok) (im:=im) (z:=z) (n:=len) (m:=len*ti.size) (by rw[hzl]) j x hj;exact⟨v,by simpa only[d9]using hv,hr⟩
    obtain⟨arr',h1,h2⟩:=IS hE (place:=λi=>some (i*ti.size,ti.size)) parts.toList (parts.toList.map λp=>(p.1*ti.size,ti.size,cX im p.2)) (oa len (zc z)) cs _
     (λp q hm=>by
      obtain⟨i,hi⟩:=z1A.1 hm;rw[List.getElem?_zip_eq_some]at hi;obtain⟨i1,i2⟩:=hi;rw[ae,i1]at i2;simp only[cF,aA]at i2;subst i2;exact⟨rfl,rfl⟩) (by simp) hcs hz0
    have hrun:(Instr.buildSlice t len (parts.map λ(i,x)=>(i,a.eval x))).run P w=.ok (.slice (some ⟨w.heap.size,0,none⟩) len len) (w.alloc (.cells arr' el)):=by
     have hnb:¬(len*ti.size>2^24):=by omega
     have h1':Instr.fill (λi=>some (i*ti.size,ti.size)) ((Array.range (len*ti.size)).map (z.cells[· %z.cells.size]!)) (parts.map λ(i,x)=>(i,a.eval x)).toList=some arr':=by
      rw[Array.toList_map];exact h1
     by_cases hq:len*ti.size=0
     ·have q1:∀f:Nat→Value,(Array.range 0).map f= #[]:=λf=>by simp
      rw[hq,q1]at h1';simp only[Instr.buildSlice,Sem.run_bind,fJ hu,Result.andThen_ok,jF hti,hq,q1,h1'];simp[tg]
     ·simp only[Instr.buildSlice,Sem.run_bind,fJ hu,Result.andThen_ok,jF hti,aF hnb,Sem.run_pure,aF hq,qJ hti hz,h1',tg]
    have q1:=jT h2;have q2:=IU _ _ _ hcs;rw[uV,hzl]at q2;simp only[dR]at q1;exact⟨arr',el,by simp only[execOp,ho,Sem.run_bind,hrun,Result.andThen_ok];rfl,h2,by rw[hzl];omega⟩
   ·cases h
  ·cases h
 ·cases h
theorem Ge{t:TypeId}{len:Nat}{parts:Array (Nat×Operand)}(ho:o.op=.buildSlice t len parts):ro P im g μ w ok okp base e a o nx:=by
 intro d bs h hf;cases hc:cOp P im o.op with
 |bsl n zr l=>
  rw[hc]at h;simp only[evA]at h;split at h
  ·rename_i cs hcs;simp only[aA,aJ]at h;obtain⟨rfl,rfl⟩:=h;obtain⟨rfl,arr',el,h1,h2,h3⟩:=xZ (w:=w) (g:=g) (μ:=μ) (ok:=ok) hE ho hc hcs;exact⟨_,_,.inl h1,Okv.new R (hf 0 (by simp)) (fr:=(0,0)) rfl (.alloc _ _ _) (λo _=>by simp) (sX h2) (wC (aE _) (aE _) (λ_=>rfl) (by rw[nI (heap_alloc_new w _),h3];omega))⟩
  ·cases h
 |bad=>rw[hc]at h;simp[evA]at h
 |_=>
  exfalso;rw[ho]at hc;simp only[cOp]at hc
  (repeat' split at hc)<;>cases hc
end
end
section
variable {P:Program} {im:Nat→Option Nat} {g:Nat→Option Blk} {μ:Nat→Nat×Nat} {w:World} {ok okp:Nat→Nat→Prop} {base:Nat} {e:Env} {a:Act} {o:Oper} {nx:Nat} {d:D} {bs:List Blk}
theorem KK:∀(k1:List Nat)(c1 d1:List D)(k2:List Nat)(c2 d2:List D),c1.length=k1.length→d1.length=k1.length→
 eqL (k1++k2) (c1++c2) (d1++d2)=match eqL k1 c1 d1 with
  |some true=>eqL k2 c2 d2
  |r=>r:=by
 intro k1
 induction k1 with
 |nil=>
  intro c1 d1 k2 c2 d2 h1 h2;have e1:c1=[]:=by simpa using h1
  have e2:d1=[]:=by simpa using h2
  subst e1 e2;rfl
 |cons k k1 ih=>
  intro c1 d1 k2 c2 d2 h1 h2;cases c1 with
  |nil=>simp at h1
  |cons c c1=>
   cases d1 with
   |nil=>simp at h2
   |cons d d1=>
    simp only[bv,eqL];cases eq1 k c d with
    |none=>rfl
    |some r=>
     cases r with
     |false=>rfl
     |true=>exact ih c1 d1 k2 c2 d2 (by simpa using h1) (by simpa using h2)
def Seg(im:Nat→Option Nat)(g:Nat→Option Blk)(μ:Nat→Nat×Nat)(w:World)(ok:Nat→Nat→Prop)(xs:Array Value)(off:Nat)(cs:List D):Prop:=
 ∀(j:Nat)(d:D),cs[j]?=some d→∃v,xs[off+j]?=some v∧VR im g μ w ok d v
theorem Ut{t:TypeId}{td:TypeDesc}(hu:P.underlying t=some td){k:Nat}(hk:(td=.bool∧k=1)∨(∃i,td=.int i∧k=0)∨(td=.string∧k=2)){c d:D}{u v:Value}{r:Bool}
 (hc:VR im g μ w ok c u) (hd:VR im g μ w ok d v) (h:eq1 k c d=some r) (m:Nat):(Op.equalIn (m+1) t u v).run P w=.ok r w:=by
 rcases hk with⟨rfl,rfl⟩|⟨i,rfl,rfl⟩|⟨rfl,rfl⟩
 ·cases c<;>cases d<;>simp only[eq1]at h<;>try cases h
  simp only[VR]at hc hd;subst hc hd;exact run_equalIn_bool w m t _ _ hu
 ·cases c<;>cases d<;>simp only[eq1]at h<;>try cases h
  simp only[VR]at hc hd;subst hc hd;split at h
  ·rename_i hk;subst hk;simp only[aA]at h;subst h;exact run_equalIn_int w m t _ _ _ _ hu
  ·cases h
 ·have key:∀(x y:List UInt8),(Op.equalIn (m+1) t (.string ⟨x.toArray⟩) (.string ⟨y.toArray⟩)).run P w=.ok (x==y) w:=by
   intro x y;rw[run_equalIn_string w m t _ _ hu,AO,AO]
  unfold eq1 at h;split at h
  ·rename_i hh;cases hh
  ·rename_i hh;cases hh
  ·split at h
   ·rename_i x y;have e1:=sL (l:=ep x) rfl hc;have e2:=sL (l:=ep y) rfl hd;subst e1 e2;simp only[aA]at h;subst h;rw[key,wO]
   ·split at h
    ·rename_i h1 h2;have e1:=sL h1 hc;have e2:=sL h2 hd;subst e1 e2;simp only[aA]at h;subst h;exact key _ _
    ·cases h
  ·cases h
theorem Jl(w:World):∀(n:Nat)(t:TypeId)(ks:List Nat),wP P n t=some ks→ks.length=jH P t∧
 ∀(xs ys:Array Value)(off:Nat)(cs ds:List D)(r:Bool),Seg im g μ w ok xs off cs→Seg im g μ w ok ys off ds→cs.length=ks.length→ds.length=ks.length→eqL ks cs ds=some r→
  (∃u v,(part t xs off).run P w=.ok u w∧(part t ys off).run P w=.ok v w∧∀m,n≤m→(Op.equalIn m t u v).run P w=.ok r w)∧
  (∀m,off=0→(∃fs,P.underlying t=some (.struct fs))→n≤m→(Op.equalIn m t (.agg xs) (.agg ys)).run P w=.ok r w):=by
 intro n
 induction n with
 |zero=>intro t ks h;simp[wP]at h
 |succ n ih=>
  intro t ks h;have leaf:∀(td:TypeDesc)(k:Nat),P.underlying t=some td→((td=.bool∧k=1)∨(∃i,td=.int i∧k=0)∨(td=.string∧k=2))→jH P t=1→ks=[k]→ks.length=jH P t∧
   ∀(xs ys:Array Value)(off:Nat)(cs ds:List D)(r:Bool),Seg im g μ w ok xs off cs→Seg im g μ w ok ys off ds→cs.length=ks.length→ds.length=ks.length→eqL ks cs ds=some r→
    (∃u v,(part t xs off).run P w=.ok u w∧(part t ys off).run P w=.ok v w∧∀m,n+1≤m→(Op.equalIn m t u v).run P w=.ok r w)∧
    (∀m,off=0→(∃fs,P.underlying t=some (.struct fs))→n+1≤m→(Op.equalIn m t (.agg xs) (.agg ys)).run P w=.ok r w):=by
   intro td k hu hk hsz hks;subst hks;refine⟨by simp[hsz],λxs ys off cs ds r h1 h2 l1 l2 he=>?_⟩;obtain⟨c,rfl⟩:∃c,cs=[c]:=by
    match cs,l1 with
    |[c],_=>exact⟨c,rfl⟩
   obtain⟨d,rfl⟩:∃d,ds=[d]:=by
    match ds,l2 with
    |[d],_=>exact⟨d,rfl⟩
   obtain⟨u,hu1,hu2⟩:=h1 0 c rfl;obtain⟨v,hv1,hv2⟩:=h2 0 d rfl;simp only[bH]at hu1 hv1;have hag:De P t=false:=by
    simp only[De,hu];rcases hk with⟨rfl,_⟩|⟨i,rfl,_⟩|⟨rfl,_⟩<;>rfl
   have he1:eq1 k c d=some r:=by
    simp only[eqL]at he;cases hq:eq1 k c d with
    |none=>rw[hq]at he;cases he
    |some q=>rw[hq]at he;cases q<;>simp_all
   refine⟨⟨u,v,by simp[part,oP hu,hag,hu1],by simp[part,oP hu,hag,hv1],λm hm=>?_⟩,λm _ hs _=>?_⟩
   ·obtain⟨m,rfl⟩:∃q,m=q+1:=⟨m-1,by omega⟩
    exact Ut hu hk hu2 hv2 he1 m
   ·obtain⟨fs,hs⟩:=hs;rw[hu]at hs;cases hs;rcases hk with⟨h,_⟩|⟨i,h,_⟩|⟨h,_⟩<;>cases h
  simp only[wP]at h;split at h
  ·rename_i hu;split at h
   ·rename_i hs;simp only[aA]at h;exact leaf _ _ hu (.inl ⟨rfl,rfl⟩) hs h.symm
   ·cases h
  ·rename_i i hu;split at h
   ·rename_i hs;simp only[aA]at h;exact leaf _ _ hu (.inr (.inl ⟨i,rfl,rfl⟩)) hs h.symm
   ·cases h
  ·rename_i hu;split at h
   ·rename_i hs;simp only[aA]at h;exact leaf _ _ hu (.inr (.inr ⟨rfl,rfl⟩)) hs h.symm
   ·cases h
  ·rename_i fs hu;split at h
   ·cases h
   ·rename_i hst;split at h
    ·rename_i l hl;split at h
     ·rename_i hlen;simp only[aA]at h;subst h;refine⟨hlen,?_⟩;have hfo:P.fieldsOf t=fs:=by simp[Program.fieldsOf,hu]
      have hst':P.stoodInHeld t=false:=by simpa using hst
      have fld:∀(fl:List Field)(pos:Nat)(l:List Nat),z9 (wP P n) pos fl=some l→∀(xs ys:Array Value)(cs ds:List D)(r:Bool),
       Seg im g μ w ok xs pos cs→Seg im g μ w ok ys pos ds→cs.length=l.length→ds.length=l.length→eqL l cs ds=some r→∀m,n≤m→(Op.eqFields m xs ys fl).run P w=.ok r w:=by
       intro fl
       induction fl with
       |nil=>
        intro pos l hl xs ys cs ds r _ _ l1 l2 he m _;simp only[z9,aA]at hl;subst hl;have e1:cs=[]:=by simpa using l1
        have e2:ds=[]:=by simpa using l2
        subst e1 e2;simp only[eqL,aA]at he;subst he;simp[Op.eqFields]
       |cons f fl ihf=>
        intro pos l hl xs ys cs ds r s1 s2 l1 l2 he m hm;simp only[z9]at hl;split at hl
        ·cases hl
        ·rename_i hname;split at hl
         ·cases hl
         ·rename_i hoff;simp only[ne_eq,Decidable.not_not]at hoff;split at hl
          ·rename_i k1 hk1;split at hl
           ·rename_i k2 hk2;simp only[aA]at hl;subst hl;simp only[ay]at l1 l2;have ec:cs=cs.take k1.length++cs.drop k1.length:=(c7 _ _).symm;have ed:ds=ds.take k1.length++ds.drop k1.length:=(c7 _ _).symm;have lc:(cs.take k1.length).length=k1.length:=by simp;omega
            have ld:(ds.take k1.length).length=k1.length:=by simp;omega
            rw[ec,ed,KK _ _ _ _ _ _ lc ld]at he;have segT:∀(zs:Array Value)(es:List D),Seg im g μ w ok zs pos es→Seg im g μ w ok zs pos (es.take k1.length):=λzs es hs j y hj=>by
             rw[cf]at hj;split at hj
             ·exact hs j y hj
             ·cases hj
            have segD:∀(zs:Array Value)(es:List D),Seg im g μ w ok zs pos es→Seg im g μ w ok zs (pos+k1.length) (es.drop k1.length):=λzs es hs j y hj=>by
             rw[bw]at hj;obtain⟨v,h1,h2⟩:=hs _ y hj;exact⟨v,by rw[←h1];congr 1;omega,h2⟩
            cases hq:eqL k1 (cs.take k1.length) (ds.take k1.length)with
            |none=>rw[hq]at he;cases he
            |some q=>
             obtain⟨⟨u,v,p1,p2,p3⟩,_⟩:=(ih f.type k1 hk1).2 xs ys pos _ _ q (segT _ _ s1) (segT _ _ s2) lc ld hq;rw[hoff.symm]at p1 p2;simp only[Op.eqFields];rw[aC hname];simp only[Sem.run_bind,p1,p2,Result.andThen_ok,p3 m hm];rw[hq]at he;cases q with
             |false=>simp only[aA]at he;subst he;simp
             |true=>
              simp only[cG,bh,bx];exact ihf (pos+k1.length) k2 hk2 xs ys _ _ r (segD _ _ s1) (segD _ _ s2) (by simp;omega) (by simp;omega) he m hm
           ·cases hl
          ·cases hl
      intro xs ys off cs ds r s1 s2 l1 l2 he;have whole:∀m,n+1≤m→∀(xs ys:Array Value),Seg im g μ w ok xs 0 cs→Seg im g μ w ok ys 0 ds→(Op.equalIn m t (.agg xs) (.agg ys)).run P w=.ok r w:=by
       intro m hm xs ys s1 s2;obtain⟨m,rfl⟩:∃q,m=q+1:=⟨m-1,by omega⟩
       rw[run_equalIn_struct w m t xs ys (by rw[hfo];exact hu) hst',hfo];exact fld fs.toList 0 l hl xs ys cs ds r s1 s2 l1 l2 he m (by omega)
      have hag:De P t=true:=by simp[De,hu]
      obtain⟨ti,hti⟩:=pO hu;have segE:∀(zs:Array Value)(es:List D),es.length=l.length→Seg im g μ w ok zs off es→Seg im g μ w ok (zs.extract off (off+ti.size)) 0 es:=λzs es hel hs j y hj=>by
       obtain⟨v,h1,h2⟩:=hs j y hj;refine⟨v,?_,h2⟩;have hb:off+j<zs.size:=(bm.1 h1).1;have hj2:j<es.length:=(bE.1 hj).1;rw[hel,hlen,pJ hti]at hj2;rw[aV,Array.getElem?_extract,aC (by omega)];exact h1
      refine⟨⟨_,_,by simp[part,oP hu,hag,jF hti],by simp[part,oP hu,hag,jF hti],λm hm=>whole m hm _ _ (segE _ _ l1 s1) (segE _ _ l2 s2)⟩,λm h0 _ hm=>?_⟩;subst h0;exact whole m hm xs ys s1 s2
     ·cases h
    ·cases h
  ·cases h
section
variable (R:Rel im g μ w ok okp base) (hE:qj im g μ w ok e a.tmps)
include R hE
theorem Vy{op:BinOp}{t yt:TypeId}{x y:Operand}{neg:Bool}{ks:List Nat}{fs:Array Field}(ho:o.op=.binOp op t x y yt)(hc:cOp P im o.op=.eqs neg ks (cX im x) (cX im y))
 (hu:P.underlying t=some (.struct fs)) (hop:(op=.eql∧neg=false)∨(op=.neq∧neg=true)) (hg:P.eqGuardType P.depth t=false) (hk:wP P 8 t=some ks):ro P im g μ w ok okp base e a o nx:=by
 intro d bs h hf;rw[hc]at h;simp only[evA]at h;split at h
 ·rename_i cs ds hp hq;split at h
  ·rename_i hl;simp only[ai,decide_eq_true_eq]at hl;split at h
   ·rename_i r hr;simp only[aA,aJ]at h;obtain⟨rfl,rfl⟩:=h;have h1:=jq hE x;have h2:=jq hE y;rw[hp]at h1;rw[hq]at h2;simp only[VR]at h1 h2;obtain⟨xs,e1,v1⟩:=h1;obtain⟨ys,e2,v2⟩:=h2;obtain⟨hlen,hall⟩:=Jl (P:=P) (im:=im) (g:=g) (μ:=μ) (ok:=ok) w 8 t ks hk;have seg:∀(zs:Array Value)(es:List D),VRl im g μ w ok es zs.toList→Seg im g μ w ok zs 0 es:=λzs es hv j d hj=>by
     rw[aV];exact sX hv j d hj
    have heq:=(hall xs ys 0 cs ds r (seg _ _ v1) (seg _ _ v2) hl.1 hl.2 hr).2 10000 rfl ⟨fs,hu⟩ (by omega);have hgd:(eqGuard op t x y (.agg xs) (.agg ys)).run P w=.ok () w:=run_eqGuard_agg w op t x y xs ys hg;rcases hop with⟨rfl,rfl⟩|⟨rfl,rfl⟩
    ·refine gY (v:=.bool r) R (s:=do eqGuard .eql t x y (a.eval x) (a.eval y);binOp .eql t (a.eval x) (a.eval y)) (by simp only[execOp,ho]) ?_ (by simp[VR]);rw[e1,e2];simp only[Sem.run_bind,hgd,Result.andThen_ok,run_eql_struct,heq]
    ·refine gY (v:=.bool (!r)) R (s:=do eqGuard .neq t x y (a.eval x) (a.eval y);binOp .neq t (a.eval x) (a.eval y)) (by simp only[execOp,ho]) ?_ (by simp[VR]);rw[e1,e2];simp only[Sem.run_bind,hgd,Result.andThen_ok,run_neq_struct,heq]
   ·cases h
  ·cases h
 ·cases h
omit R hE in
theorem Uo{fn:Func}(hn:fn.name= "math/bits.Add64")(hor:fn.origin= ""):Extern.findNext fn=none∧Extern.find fn=some add64Entry:=by
 have a1:Extern.allNextRows.lookup "math/bits.Add64" =none:=by kernel_rfl
 have a2:Extern.allNextRows.lookup "" =none:=by kernel_rfl
 have a3:Extern.allGenericRows.lookup "math/bits.Add64" =none:=by kernel_rfl
 have a4:Extern.allTypedRows.lookup "math/bits.Add64" =none:=by kernel_rfl
 have a5:Extern.allRows.lookup "math/bits.Add64" =some add64Entry:=by kernel_rfl
 simp[Extern.findNext,Extern.find,hn,hor,a1,a2,a3,a4,a5]
def wH:Array Value→Sem Value:=λargs=>do
 let (x,y,b)←Extern.MathBitsCarry.three "Sub64" args
 pure (Extern.MathBitsCarry.pair ((x+Extern.MathBitsCarry.m64-y-b)%Extern.MathBitsCarry.m64) (if x<y+b then 1 else 0))
omit R hE in
theorem Un{fn:Func}(hn:fn.name= "math/bits.Sub64")(hor:fn.origin= ""):Extern.findNext fn=none∧Extern.find fn=some wH:=by
 have a1:Extern.allNextRows.lookup "math/bits.Sub64" =none:=by kernel_rfl
 have a2:Extern.allNextRows.lookup "" =none:=by kernel_rfl
 have a3:Extern.allGenericRows.lookup "math/bits.Sub64" =none:=by kernel_rfl
 have a4:Extern.allTypedRows.lookup "math/bits.Sub64" =none:=by kernel_rfl
 have a5:Extern.allRows.lookup "math/bits.Sub64" =some wH:=by kernel_rfl
 simp[Extern.findNext,Extern.find,hn,hor,a1,a2,a3,a4,a5]
omit R hE in
theorem EW(name:String)(p q c:Int)(hle:c.toNat≤1):(Extern.MathBitsCarry.three name #[.int .u64 p,.int .u64 q,.int .u64 c]).run P w=.ok (p.toNat,q.toNat,c.toNat) w:=by
 have h3:Extern.MathBitsCarry.three name #[.int .u64 p,.int .u64 q,.int .u64 c]=(do
  let c':=(←asInt (.int .u64 c)).toNat
  if c'>1 then unsupported (.noEntry ("extern/math/bits." ++name++ ": a carry that is neither 0 nor 1"))
  pure ((←asInt (.int .u64 p)).toNat,(←asInt (.int .u64 q)).toNat,c')):=rfl
 rw[h3];have:¬(c.toNat>1):=by omega
 simp only[Sem.run_bind,asInt,asIntOf,Sem.run_pure,Result.andThen_ok,aF this]
theorem V3{F:FuncId}{ts:Array TypeId}{x y z:Operand}{fn:Func}(ho:o.op=.call ⟨.value (.func F),#[x,y,z],ts⟩)(hF:P.funcs[F]?=some fn)(hb:fn.body.isNone=true)(hor:fn.origin= "")(hn:fn.name= "math/bits.Add64")
 (hc:cOp P im o.op=.add64 (cX im x) (cX im y) (cX im z)):ro P im g μ w ok okp base e a o nx:=by
 intro d bs h hf;rw[hc]at h;simp only[evA]at h;split at h
 ·rename_i p q c hp hq hcc;split at h
  ·rename_i hle;simp only[aA,aJ]at h;obtain⟨rfl,rfl⟩:=h;have e1:=tW R hE (d:=.u) (v:=undef) (n:=0) hp;have e2:=tW R hE (d:=.u) (v:=undef) (n:=0) hq;have e3:=tW R hE (d:=.u) (v:=undef) (n:=0) hcc;obtain⟨f1,f2⟩:=Uo (fn:=fn) hn hor;have hne:¬((fn.name== "runtime.NumGoroutine")=true):=by rw[hn];decide
   have hrun:(add64Entry #[.int .u64 p,.int .u64 q,.int .u64 c]).run P w=.ok (Extern.MathBitsCarry.pair ((p.toNat+q.toNat+c.toNat)%Extern.MathBitsCarry.m64) ((p.toNat+q.toNat+c.toNat)/Extern.MathBitsCarry.m64)) w:=by
    simp only[add64Entry,Sem.run_bind,EW _ _ _ _ hle,Result.andThen_ok,Sem.run_pure]
   have hcall:(callFunc F #[.int .u64 p,.int .u64 q,.int .u64 c]).run P w=.ok (.value (Extern.MathBitsCarry.pair ((p.toNat+q.toNat+c.toNat)%Extern.MathBitsCarry.m64) ((p.toNat+q.toNat+c.toNat)/Extern.MathBitsCarry.m64))) w:=by
    simp only[callFunc,Sem.run_bind,run_program,Result.andThen_ok,hF,aF hne,hb,b9,f1,f2,run_mark,hrun,Sem.run_pure]
   refine⟨_,w,.inl (?_:_=Result.ok (Next.value (Extern.MathBitsCarry.pair ((p.toNat+q.toNat+c.toNat)%Extern.MathBitsCarry.m64) ((p.toNat+q.toNat+c.toNat)/Extern.MathBitsCarry.m64))) w),.same R (d:=.tup _) ?_⟩
   ·simp only[execOp,ho,resolve,Act.eval,Deferred.ofValue,Sem.run_bind,Sem.run_pure,Result.andThen_ok,invoke];have harr:(#[]:Array Value)++(#[x,y,z]:Array Operand).map a.eval++ #[]= #[.int .u64 p,.int .u64 q,.int .u64 c]:=by simp[e1,e2,e3]
    rw[harr];exact hcall
   ·simp only[VR,Extern.MathBitsCarry.pair,Extern.MathBitsCarry.m64];exact⟨_,rfl,by simp[VRl,VR]⟩
  ·cases h
 ·cases h
theorem VW{F:FuncId}{ts:Array TypeId}{x y z:Operand}{fn:Func}(ho:o.op=.call ⟨.value (.func F),#[x,y,z],ts⟩)(hF:P.funcs[F]?=some fn)(hb:fn.body.isNone=true)(hor:fn.origin= "")(hn:fn.name= "math/bits.Sub64")
 (hc:cOp P im o.op=.sub64 (cX im x) (cX im y) (cX im z)):ro P im g μ w ok okp base e a o nx:=by
 intro d bs h hf;rw[hc]at h;simp only[evA]at h;split at h
 ·rename_i p q c hp hq hcc;split at h
  ·rename_i hle;simp only[aA,aJ]at h;obtain⟨rfl,rfl⟩:=h;have e1:=tW R hE (d:=.u) (v:=undef) (n:=0) hp;have e2:=tW R hE (d:=.u) (v:=undef) (n:=0) hq;have e3:=tW R hE (d:=.u) (v:=undef) (n:=0) hcc;obtain⟨f1,f2⟩:=Un (fn:=fn) hn hor;have hne:¬((fn.name== "runtime.NumGoroutine")=true):=by rw[hn];decide
   have hrun:(wH #[.int .u64 p,.int .u64 q,.int .u64 c]).run P w=.ok (Extern.MathBitsCarry.pair ((p.toNat+Extern.MathBitsCarry.m64-q.toNat-c.toNat)%Extern.MathBitsCarry.m64) (if p.toNat<q.toNat+c.toNat then 1 else 0)) w:=by
    simp only[wH,Sem.run_bind,EW _ _ _ _ hle,Result.andThen_ok,Sem.run_pure]
   have hcall:(callFunc F #[.int .u64 p,.int .u64 q,.int .u64 c]).run P w=.ok (.value (Extern.MathBitsCarry.pair ((p.toNat+Extern.MathBitsCarry.m64-q.toNat-c.toNat)%Extern.MathBitsCarry.m64) (if p.toNat<q.toNat+c.toNat then 1 else 0))) w:=by
    simp only[callFunc,Sem.run_bind,run_program,Result.andThen_ok,hF,aF hne,hb,b9,f1,f2,run_mark,hrun,Sem.run_pure]
   refine⟨_,w,.inl (?_:_=Result.ok (Next.value (Extern.MathBitsCarry.pair ((p.toNat+Extern.MathBitsCarry.m64-q.toNat-c.toNat)%Extern.MathBitsCarry.m64) (if p.toNat<q.toNat+c.toNat then 1 else 0))) w),.same R (d:=.tup _) ?_⟩
   ·simp only[execOp,ho,resolve,Act.eval,Deferred.ofValue,Sem.run_bind,Sem.run_pure,Result.andThen_ok,invoke];have harr:(#[]:Array Value)++(#[x,y,z]:Array Operand).map a.eval++ #[]= #[.int .u64 p,.int .u64 q,.int .u64 c]:=by simp[e1,e2,e3]
    rw[harr];exact hcall
   ·simp only[VR,Extern.MathBitsCarry.pair,Extern.MathBitsCarry.m64];exact⟨_,rfl,by simp[VRl,VR]⟩
  ·cases h
 ·cases h
theorem Me{op:BinOp}{t yt el:TypeId}{x y:Operand}{neg:Bool}(ho:o.op=.binOp op t x y yt)(hc:cOp P im o.op=.isnil neg (cX im x))
 (hu:P.underlying t=some (.slice el)) (hop:(op=.eql∧neg=false)∨(op=.neq∧neg=true)) (hy:Ty y=true):ro P im g μ w ok okp base e a o nx:=by
 intro d bs h hf;rw[hc]at h;simp only[evA]at h;have hx:=jq hE x;have ey:a.eval y=.slice none 0 0:=by
  cases y with
  |const v=>
   simp only[Ty,Ys]at hy;split at hy
   ·rfl
   ·cases hy
  |_=>cases hy
 have key:∀(ad:Addr)(l c:Nat),a.eval x=.slice (some ad) l c→wc im g μ w ok okp base g (.b neg) ((execOp a.eval o).run P w):=by
  intro ad l c hv;have hg:∀op,(eqGuard op t x y (.slice (some ad) l c) (.slice none 0 0)).run P w=.ok () w:=λop=>by cases op<;>simp[eqGuard]
  have h1:=run_equal_slice_nil (P:=P) w t el (some ad) l c hu;rcases hop with⟨rfl,rfl⟩|⟨rfl,rfl⟩
  ·refine gY (nx:=nx) (v:=.bool false) R (s:=do eqGuard .eql t x y (a.eval x) (a.eval y);binOp .eql t (a.eval x) (a.eval y)) (by simp only[execOp,ho]) ?_ (by simp[VR]);rw[hv,ey];simp only[Sem.run_bind,hg,Result.andThen_ok];simp[binOp,h1]
  ·refine gY (nx:=nx) (v:=.bool true) R (s:=do eqGuard .neq t x y (a.eval x) (a.eval y);binOp .neq t (a.eval x) (a.eval y)) (by simp only[execOp,ho]) ?_ (by simp[VR]);rw[hv,ey];simp only[Sem.run_bind,hg,Result.andThen_ok];simp[binOp,h1]
 split at h
 ·rename_i l off len cm z ex hd;split at h
  ·rename_i b hb;split at h
   ·rename_i hl;simp only[aA,aJ]at h;obtain⟨rfl,rfl⟩:=h;rw[hd]at hx;simp only[VR]at hx;obtain⟨b',p,cap,hb',hv,hk⟩:=hx;rw[hb]at hb';simp only[aA]at hb';subst hb';obtain⟨_,rfl,_⟩:=hk hl;exact key _ _ _ hv
   ·cases h
  ·cases h
 ·rename_i cs len ex hd;split at h
  ·cases h
  ·rename_i c cs';simp only[aA,aJ]at h;obtain⟨rfl,rfl⟩:=h;rw[hd]at hx;simp only[VR,TR]at hx;obtain⟨p,cap,hv,_,_,hk⟩:=hx;obtain⟨ad,rfl,_⟩:=hk (by simp);exact key _ _ _ hv
 ·cases h
theorem lX(hc:evA nx (X.ev e) g (cOp P im o.op)=none):ro P im g μ w ok okp base e a o nx:=by
 intro d bs h hf;rw[hc]at h;cases h
theorem tU:ro P im g μ w ok okp base e a o nx:=by
 cases ho:o.op with
 |move x=>exact YK R hE ho
 |assign x=>exact Sg R hE ho
 |pick c x y=>exact YJ R hE ho
 |alloc t=>exact V2 R hE ho
 |box t x=>exact Z2 R hE ho
 |build t ps=>exact V1 R hE ho
 |buildSlice t n ps=>exact Ge R hE ho
 |load t x=>exact YL R hE ho
 |nilCheck x=>exact K6 R hE ho
 |unOp op t x=>exact YI R hE ho
 |convert s t x=>exact OU R hE ho
 |makeFunc f x y=>exact K7 R hE ho
 |makeSlice t l c=>exact Il R hE ho
 |slice t x l h m=>exact VX R hE ho
 |fieldAddr s x f=>exact In R hE ho
 |field s x f=>exact VZ R hE ho
 |indexAddr t x i=>exact Im R hE ho
 |index t x i=>exact VY R hE ho
 |extract x i=>exact OT R hE ho
 |store t x y=>
  refine lX R hE ?_;rw[ho];simp only[cOp];split<;>rfl
 |binOp op t x y yt=>
  have hc:∀q,cOp P im (.binOp op t x y yt)=q→cOp P im o.op=q:=λq h=>by rw[ho];exact h
  cases hu:P.underlying t with
  |none=>refine lX R hE ?_;rw[ho];simp only[cOp,hu];rfl
  |some td=>
   cases td with
   |bool=>exact YN R hE ho (hc _ (by simp only[cOp,hu])) hu
   |string=>exact Vz R hE ho (hc _ (by simp only[cOp,hu]))
   |int k=>exact Vz R hE ho (hc _ (by simp only[cOp,hu]))
   |struct fs=>
    by_cases hg:P.eqGuardType P.depth t=true
    ·refine lX R hE ?_;rw[ho];cases op<;>simp[cOp,hu,hg,evA]
    ·cases hk:wP P 8 t with
     |none=>
      refine lX R hE ?_;rw[ho];cases op<;>simp[cOp,hu,hg,hk,evA]
     |some ks=>
      have hg':P.eqGuardType P.depth t=false:=by simpa using hg
      cases op
      case eql=>exact Vy R hE ho (hc _ (by simp only[cOp,hu,hg',hk];rfl)) hu (.inl ⟨rfl,rfl⟩) hg' hk
      case neq=>exact Vy R hE ho (hc _ (by simp only[cOp,hu,hg',hk];rfl)) hu (.inr ⟨rfl,rfl⟩) hg' hk
      all_goals (refine lX R hE ?_;rw[ho];simp[cOp,hu,evA])
   |slice el=>
    by_cases hn:Ty y=true
    ·cases op
     case eql=>exact Me R hE ho (hc _ (by simp only[cOp,hu,hn];rfl)) hu (.inl ⟨rfl,rfl⟩) hn
     case neq=>exact Me R hE ho (hc _ (by simp only[cOp,hu,hn];rfl)) hu (.inr ⟨rfl,rfl⟩) hn
     all_goals (refine lX R hE ?_;rw[ho];simp[cOp,hu,hn,evA])
    ·refine lX R hE ?_;rw[ho];simp[cOp,hu,hn,evA]
   |_=>refine lX R hE ?_;rw[ho];simp only[cOp,hu];rfl
 |call c=>
  have bad:evA nx (X.ev e) g .bad=none:=rfl;obtain⟨cal,args,tys⟩:=c;cases cal with
  |invoke r m=>refine lX R hE ?_;rw[ho];rfl
  |value f=>
   cases f with
   |func F=>
    cases hF:P.funcs[F]?with
    |none=>refine lX R hE ?_;rw[ho];simp only[cOp,gx,hF];rfl
    |some fn=>
     by_cases hb:(fn.body.isNone&&fn.origin== "")=true
     ·have hb':=hb;simp only[ai,beq_iff_eq]at hb';obtain⟨hb1,hor⟩:=hb';by_cases h1:(fn.name== "math/bits.Add64")=true
      ·have hc0:cOp P im o.op=match args.toList with
        |[x,y,z]=>.add64 (cX im x) (cX im y) (cX im z)
        |_=>.bad:=by rw[ho];simp only[cOp,gx,hF,aC hb,aC h1]<;>rfl
       match hal:args.toList,hc0 with
       |[x,y,z],hc0=>
        have:args= #[x,y,z]:=by obtain⟨l⟩:=args;simp at hal;subst hal;rfl
        subst this;exact V3 R hE ho hF hb1 hor (by simpa using h1) hc0
       |[],hc0=>exact lX R hE (by rw[hc0];rfl)
       |[x],hc0=>exact lX R hE (by rw[hc0];rfl)
       |[x,y],hc0=>exact lX R hE (by rw[hc0];rfl)
       |x::y::z::q::r,hc0=>exact lX R hE (by rw[hc0];rfl)
      ·by_cases h2:(fn.name== "math/bits.Sub64")=true
       ·have hc0:cOp P im o.op=match args.toList with
         |[x,y,z]=>.sub64 (cX im x) (cX im y) (cX im z)
         |_=>.bad:=by rw[ho];simp only[cOp,gx,hF,aC hb,aF h1,aC h2]<;>rfl
        match hal:args.toList,hc0 with
        |[x,y,z],hc0=>
         have:args= #[x,y,z]:=by obtain⟨l⟩:=args;simp at hal;subst hal;rfl
         subst this;exact VW R hE ho hF hb1 hor (by simpa using h2) hc0
        |[],hc0=>exact lX R hE (by rw[hc0];rfl)
        |[x],hc0=>exact lX R hE (by rw[hc0];rfl)
        |[x,y],hc0=>exact lX R hE (by rw[hc0];rfl)
        |x::y::z::q::r,hc0=>exact lX R hE (by rw[hc0];rfl)
       ·refine lX R hE ?_;rw[ho];simp only[cOp,gx,hF,aC hb,aF h1,aF h2]<;>rfl
     ·refine lX R hE ?_;rw[ho];simp only[cOp,gx,hF,aF hb];split<;>rfl
   |tmp t=>refine lX R hE ?_;rw[ho];rfl
   |const v=>refine lX R hE ?_;rw[ho];rfl
   |global n=>refine lX R hE ?_;rw[ho];rfl
  |builtin b=>
   cases b
   case len=>
    match hal:args.toList,htl:tys.toList with
    |[x],[t]=>
     have e1:args= #[x]:=by obtain⟨l⟩:=args;simp at hal;subst hal;rfl
     have e2:tys= #[t]:=by obtain⟨l⟩:=tys;simp at htl;subst htl;rfl
     subst e1 e2;cases hu:P.underlying t with
     |none=>refine lX R hE ?_;rw[ho];simp[cOp,gx,hu,evA]
     |some td=>
      cases td with
      |string=>exact YM R hE ho hu (by rw[ho];simp[cOp,gx,hu])
      |slice el=>exact Z0 R hE ho hu (by rw[ho];simp[cOp,gx,hu])
      |_=>refine lX R hE ?_;rw[ho];simp[cOp,gx,hu,evA]
    |[],_=>refine lX R hE ?_;rw[ho];simp[cOp,gx,hal,evA]
    |x::y::r,_=>refine lX R hE ?_;rw[ho];simp[cOp,gx,hal,evA]
    |[x],[]=>refine lX R hE ?_;rw[ho];simp[cOp,gx,hal,htl,evA]
    |[x],t::u::r=>refine lX R hE ?_;rw[ho];simp[cOp,gx,hal,htl,evA]
   case max=>
    match hal:args.toList with
    |[x,y]=>
     have e1:args= #[x,y]:=by obtain⟨l⟩:=args;simp at hal;subst hal;rfl
     subst e1;exact ZZ R hE ho (by rw[ho];simp[cOp,gx])
    |[]=>refine lX R hE ?_;rw[ho];simp[cOp,gx,hal,evA]
    |[x]=>refine lX R hE ?_;rw[ho];simp[cOp,gx,hal,evA]
    |x::y::z::r=>refine lX R hE ?_;rw[ho];simp[cOp,gx,hal,evA]
   case min=>
    match hal:args.toList with
    |[x,y]=>
     have e1:args= #[x,y]:=by obtain⟨l⟩:=args;simp at hal;subst hal;rfl
     subst e1;exact ZY R hE ho (by rw[ho];simp[cOp,gx])
    |[]=>refine lX R hE ?_;rw[ho];simp[cOp,gx,hal,evA]
    |[x]=>refine lX R hE ?_;rw[ho];simp[cOp,gx,hal,evA]
    |x::y::z::r=>refine lX R hE ?_;rw[ho];simp[cOp,gx,hal,evA]
   all_goals
    refine lX R hE ?_;rw[ho];simp only[cOp,gx]
    (repeat' split)<;>first|rfl|(exfalso;simp_all;done)
 |_=>refine lX R hE ?_;rw[ho];simp only[cOp];rfl
end
end
section
variable {P:Program} {im:Nat→Option Nat} {μ:Nat→Nat×Nat} {w:World} {ok okp:Nat→Nat→Prop} {base:Nat} {e:Env} {a:Act} {o:Oper} {d:D} {σ:Sto}
theorem BP{w:World}{b o:Nat}{cur:Array Value}{el:TypeId}{fr:Nat×Nat}(v:Value)(hb:w.heap[b]?=some (.cells cur el fr)):
 (w.setCell ⟨b,o,none⟩ v).heap[b]?=some (.cells (cur.setIfInBounds o v) el fr):=by
 simp[World.setCell,Array.getElem?_modify,hb]
theorem rk(b o:Nat)(el:TypeId)(fr:Nat×Nat):∀(vs:List Value)(i:Nat)(cur:Array Value)(w:World),w.heap[b]?=some (.cells cur el fr)→
 (∀k,k<cur.size→¬(fr.1≤k∧k<fr.2))→o+i+vs.length≤cur.size→(∀v∈vs,v.oneCell'=true)→
 ∃w' cur',(storeCells ⟨b,o,none⟩ vs i).run P w=.ok () w'∧w'.heap[b]?=some (.cells cur' el fr)∧cur'.size=cur.size∧
  (∀k,cur'[k]?=if o+i≤k∧k<o+i+vs.length then vs[k-(o+i)]?else cur[k]?)∧(∀k,k≠b→w'.heap[k]?=w.heap[k]?)∧w'.heap.size=w.heap.size∧Same w w':=by
 intro vs
 induction vs with
 |nil=>
  intro i cur w hb hf hl h1;exact⟨w,cur,by simp[storeCells],hb,rfl,λk=>by rw[aF (by simp only[c9];omega)],λ_ _=>rfl,rfl,.refl _⟩
 |cons v vs ih=>
  intro i cur w hb hf hl h1;simp only[bD]at hl;have hcell:w.cell? ⟨b,o+i,none⟩=some (cur[o+i]'(by omega)):=by
   simp[World.cell?,hb]
  have hfr:w.frozen? ⟨b,o+i,none⟩=false:=by
   have:=hf (o+i) (by omega);simp only[World.frozen?,hb];cases hq:(decide (fr.1≤o+i)&&decide (o+i<fr.2))with
   |false=>rfl
   |true=>simp only[ai,decide_eq_true_eq]at hq;exact absurd hq this
  have hadd:(⟨b,o,none⟩:Addr).add i=⟨b,o+i,none⟩:=Addr.add_eq rfl i;have hst:(store ⟨b,o+i,none⟩ v).run P w=.ok () (w.setCell ⟨b,o+i,none⟩ v):=by
   rw[run_store P w _ v _ (h1 v (by simp))];simp[hcell,hfr]
  obtain⟨w',cur',r1,r2,r3,r4,r5,r6,r7⟩:=ih (i+1) (cur.setIfInBounds (o+i) v) (w.setCell ⟨b,o+i,none⟩ v) (BP v hb) (λk hk=>hf k (by simpa using hk)) (by simp;omega) (λu hu=>h1 u (by simp[hu]));refine⟨w',cur',?_,r2,by rw[r3];simp,λk=>?_,λk hk=>by rw[r5 k hk,heap_setCell_other _ _ _ _ hk],by rw[r6];simp,(Same.setCell _ _ _).trans r7⟩
  ·simp only[storeCells,Sem.run_bind,hadd,hst,Result.andThen_ok,r1]
  ·rw[r4 k];simp only[bD];by_cases hk:k=o+i
   ·subst hk;rw[aF (by omega),aC (by omega),z19 (by omega)];simp
   ·by_cases hk2:o+i≤k∧k<o+i+(vs.length+1)
    ·rw[aC (by omega),aC hk2,show k-(o+i)=(k-(o+(i+1)))+1 by omega];simp
    ·rw[aF (by omega),aF hk2,dL (by omega)]
theorem get_put(σ:Sto)(l:Nat)(b:Blk):(σ.put l b).get=upd σ.get l (some b):=by
 funext m;rw[Sto.get_put];rfl
theorem get_add1(σ:Sto)(b:Blk):(σ.adds [b]).get=upd σ.get σ.nx (some b):=by
 funext m;rw[Sto.get_add1];rfl
theorem oQ{s:Stt}(h:s.wr=true):s.live=true:=by cases s<;>simp_all [Stt.wr,Stt.live]
theorem XJ{g:Nat→Option Blk}{off:Nat}{new cs r:List D}(h:lay off new cs=some r){o:Nat}{nv:List Value}{arr cur:Array Value}
 (hn:VRl im g μ w ok new nv) (ho:∀(j:Nat)(y:D),cs[j]?=some y→∃v,cur[o+j]?=some v∧VR im g μ w ok y v)
 (ha:∀k,arr[k]?=if o+off≤k∧k<o+off+nv.length then nv[k-(o+off)]?else cur[k]?):
 ∀(j:Nat)(y:D),r[j]?=some y→∃v,arr[o+j]?=some v∧VR im g μ w ok y v:=by
 obtain⟨hle,hlen,hget⟩:=B9 h;have hnl:=jT hn;intro j y hj;rw[hget]at hj;rw[ha];split at hj
 ·rename_i hr;obtain⟨v,h1,h2⟩:=(kK.1 hn).2 _ _ hj;exact⟨v,by rw[aC (by omega),show o+j-(o+off)=j-off by omega];exact h1,h2⟩
 ·rename_i hr;obtain⟨v,h1,h2⟩:=ho j y hj;exact⟨v,by rw[aF (by omega)];exact h1,h2⟩
theorem wB{g:Nat→Option Blk}{b:Nat}{o:Nat}{cs:List D}{cur:Array Value}{el:TypeId}{fr:Nat×Nat}(h:VRc im g μ w ok cs b o)(hb:w.heap[b]?=some (.cells cur el fr)):
 ∀(j:Nat)(y:D),cs[j]?=some y→∃v,cur[o+j]?=some v∧VR im g μ w ok y v:=by
 intro j y hj;obtain⟨v,h1,h2⟩:=yD h hj;exact⟨v,by simpa[World.cell?,hb]using h1,h2⟩
theorem Si{g:Nat→Option Blk}{b o:Nat}{cs:List D}{cur:Array Value}{el:TypeId}{fr:Nat×Nat}(h:VRc im g μ w ok cs b o)(hb:w.heap[b]?=some (.cells cur el fr)):cs.length=0∨o+cs.length≤cur.size:=by
 rcases bQ cs.length with h0|h0
 ·exact .inl h0
 ·right;obtain⟨v,h1,_⟩:=wB h hb (cs.length-1) (cs[cs.length-1]'(by omega)) (aB _);have:=(bm.1 h1).1;omega
theorem xh{l:Nat}{b:Blk}(R:Rel im σ.get μ w ok okp base)(hl:σ.get l=some b)(hw:b.st.wr=true){off:Nat}{new cs:List D}(hlay:lay off new b.cs=some cs){nv:List Value}
 (hn:VRl im σ.get μ w ok new nv) (h1:∀v∈nv,v.oneCell'=true):
 ∃w',(storeCells ⟨(μ l).1,(μ l).2+off,none⟩ nv).run P w=.ok () w'∧Rel im (σ.put l ⟨cs,.rw⟩).get μ w' ok okp base∧Stp σ.get μ w ok (σ.put l ⟨cs,.rw⟩).get μ w' ok base:=by
 obtain⟨⟨cur,el,fr,hb,hfr⟩,hvc⟩:=R.blk l b hl (oQ hw);obtain⟨hle,hlen,hget⟩:=B9 hlay;have hnl:=jT hn;have hsz:=Si hvc hb;by_cases hz:nv=[]
 ·subst hz;have hz':new.length=0:=by simpa using hnl.symm
  refine⟨w,by simp[storeCells],?_⟩;rw[get_put];refine R.write hl hw hb hfr (λ_ _=>rfl) rfl (nI hb).symm (.refl _) (λj y hj=>?_);rw[hget,aF (by omega)]at hj;exact wB hvc hb j y hj
 ·have hpos:0<nv.length:=cU.2 hz;obtain⟨w',cur',r1,r2,r3,r4,r5,r6,r7⟩:=rk (P:=P) (μ l).1 ((μ l).2+off) el fr nv 0 cur w hb hfr (by omega) h1;refine⟨w',r1,?_⟩;rw[get_put];exact R.write hl hw r2 (λo ho=>hfr o (by omega)) r5 r6 (by rw[r3,nI hb]) r7 (XJ hlay hn (wB hvc hb) (by simpa using r4))
def FO(P:Program)(im:Nat→Option Nat)(μ:Nat→Nat×Nat)(w:World)(ok okp:Nat→Nat→Prop)(base:Nat)(e:Env)(a:Act)(o:Oper)(σ:Sto):Prop:=
 ∀d σ',evW (X.ev e) σ (cOp P im o.op)=some (d,σ')→wc im σ.get μ w ok okp base σ'.get d ((execOp a.eval o).run P w)
section
variable (R:Rel im σ.get μ w ok okp base) (hE:qj im σ.get μ w ok e a.tmps) (hfresh:σ.get σ.nx=none)
include R hE hfresh
theorem Ss{t:TypeId}{x y:Operand}(ho:o.op=.store t x y):FO P im μ w ok okp base e a o σ:=by
 intro d σ' h;rw[ho]at h;simp only[cOp]at h;split at h
 ·simp[evW]at h
 ·rename_i ti hti;simp only[evW]at h;split at h
  ·rename_i l off hd;have hx:=jq hE x;rw[hd]at hx;simp only[VR]at hx;obtain⟨b,p,hb,hv,hl⟩:=hx;rw[hb]at h;simp only at h;split at h
   ·rename_i hc;simp only[ai,decide_eq_true_eq]at hc;obtain⟨⟨hw,hlen⟩,hone⟩:=hc;split at h
    ·rename_i cs hlay;simp only[aA,aJ]at h;obtain⟨rfl,rfl⟩:=h;have hp:=hl (oQ hw);subst hp;have hy:=AN (jq hE y) hone;have hone':∀v∈(a.eval y).cells.toList,v.oneCell'=true:=by
      intro v hv;obtain⟨j,hj⟩:=z1A.1 hv;have hjl:j<(kP (X.ev e (cX im y))).length:=by rw[←jT hy];exact(bE.1 hj).1
      obtain⟨u,h1,h2⟩:=(kK.1 hy).2 j _ (aB hjl);rw[hj]at h1;simp only[aA]at h1;subst h1;exact QW h2 (cg.1 hone _ (ak _))
     obtain⟨w',r1,r2,r3⟩:=xh (P:=P) R hb hw hlay hy hone';refine⟨undef,w',.inr ⟨?_,rfl⟩,μ,ok,r2,r3,by simp[VR]⟩;have hsz:¬((a.eval y).cells.size≠ti.size):=by
      have:=jT hy;simp only[dR]at this;omega
     simp[execOp,ho,Instr.storeAt,hv,Instr.sureAddr,storeVar,jF hti,hsz,r1]
    ·cases h
   ·cases h
  ·cases h
omit R hE hfresh in
theorem z5{g:Nat→Option Blk}{cs:List D}{vs:List Value}(h:VRl im g μ w ok cs vs)(h1:cs.all one=true):∀v∈vs,v.oneCell'=true:=by
 intro v hv;obtain⟨j,hj⟩:=z1A.1 hv;have hjl:j<cs.length:=by rw[←jT h];exact(bE.1 hj).1
 obtain⟨u,e1,e2⟩:=(kK.1 h).2 j _ (aB hjl);rw[hj]at e1;simp only[aA]at e1;subst e1;exact QW e2 (cg.1 h1 _ (ak _))
omit hE hfresh in
theorem mI{d:D}{v:Value}{cs:List D}{sz n:Nat}(h:cellsOf σ.get sz d=some cs)(hn:lenOf d=some n)(hv:VR im σ.get μ w ok d v):
 ∃ad cap vs,v=.slice ad n cap∧n≤cap∧VRl im σ.get μ w ok cs vs∧cs.length=n*sz∧(Builtin.firstCells sz n v).run P w=.ok vs.toArray w∧
  ∀k,k≤n→(Builtin.firstCells sz k v).run P w=.ok (vs.take (k*sz)).toArray w:=by
 obtain⟨ad,len,cap,e1,e2,e3,e4,e5⟩:=DZ R h hv;rw[hn]at e2;simp only[aA]at e2;subst e2;have key:∃vs:List Value,VRl im σ.get μ w ok cs vs∧∀k,k≤n→(Builtin.firstCells sz k v).run P w=.ok (vs.take (k*sz)).toArray w:=by
  by_cases hc:cs=[]
  ·subst hc;simp only[c9]at e3;refine⟨[],by simp[VRl],λk hk=>?_⟩;have hk0:k*sz=0:=by
    have:=aL sz hk;omega
   rw[e1];cases ad with
   |none=>simp[Builtin.firstCells]
   |some x=>simp[Builtin.firstCells,hk0,loadCells,loadCellsFrom]
  ·obtain⟨x,rfl,hs,hvc⟩:=e5 hc;obtain⟨vs,v1,v2⟩:=Di hvc;refine⟨vs,v1,λk hk=>?_⟩;have hlen:(vs.take (k*sz)).length=k*sz:=by
    have h1:=jT v1;have:=aL sz hk;simp;omega
   rw[e1];simp only[Builtin.firstCells];have:=run_loadCells_list (P:=P) w x (vs.take (k*sz)) (λj u hj=>by
    rw[Addr.add_eq hs];refine v2 j u ?_;rw[cf]at hj;split at hj
    ·exact hj
    ·cases hj)
   rw[hlen]at this;exact this
 obtain⟨vs,k1,k2⟩:=key;have hfull:vs.take (n*sz)=vs:=by
  rw[←e3,←jT k1];exact ch
 exact⟨ad,cap,vs,e1,e4,k1,e3,by have:=k2 n (aE _);rwa[hfull]at this,k2⟩
theorem WF{t u:TypeId}{x y:Operand}{el:TypeId}(ho:o.op=.call ⟨.builtin .copy,#[x,y],#[t,u]⟩)(hu:P.underlying t=some (.slice el))(hpos:0<jH P el)
 (hc:cOp P im o.op=.copy (jH P el) (cX im x) (cX im y)):FO P im μ w ok okp base e a o σ:=by
 intro d σ' h;rw[hc]at h;simp only[evW]at h;have hq:∃i,P.info? el=some i:=by
  unfold jH at hpos;split at hpos
  ·rename_i i hi;exact⟨i,hi⟩
  ·simp at hpos
 obtain⟨ti,hti⟩:=hq;split at h
 ·rename_i l off len cm z ex n hd hn;split at h
  ·rename_i b src hb hsrc;split at h
   ·rename_i hcond;simp only[ai,decide_eq_true_eq]at hcond;obtain⟨⟨hw,hz⟩,hone⟩:=hcond;split at h
    ·rename_i cs hlay;simp only[aA,aJ]at h;obtain⟨rfl,rfl⟩:=h;have hx:=jq hE x;rw[hd]at hx;simp only[VR]at hx;obtain⟨b',p,cap,hb',hv,hl⟩:=hx;rw[hb]at hb';simp only[aA]at hb';subst hb';obtain⟨l1,rfl,l2,l3,l5⟩:=hl (oQ hw);obtain⟨ad,cap2,vs,f1,f2,f3,f4,f5,f6⟩:=mI (P:=P) R hsrc hn (jq hE y);have hk:Nat.min n len≤n:=Nat.min_le_left _ _;have hnew:VRl im σ.get μ w ok (src.take (Nat.min n len*jH P el)) (vs.take (Nat.min n len*jH P el)):=by
      refine kK.2 ⟨by have:=jT f3;simp[this],λj q hj=>?_⟩;rw[cf]at hj;split at hj
      ·rename_i hlt;obtain⟨v,e1,e2⟩:=(kK.1 f3).2 j q hj;exact⟨v,by rw[cf,aC hlt];exact e1,e2⟩
      ·cases hj
     obtain⟨w',r1,r2,r3⟩:=xh (P:=P) R hb hw hlay hnew (λv hv=>z5 f3 hone v (br hv));refine⟨.int .i64 (Nat.min n len:Nat),w',.inl ?_,μ,ok,r2,r3,by simp[VR]⟩;have hcopy:(Builtin.copy_ #[t,u] o.type #[.slice (some ⟨(μ l).1,(μ l).2+off,none⟩) len cap,a.eval y]).run P w=.ok (goInt (Nat.min n len:Nat)) w':=by
      have hlen:(Builtin.lenOf (a.eval y)).run P w=.ok n w:=by rw[f1];simp[Builtin.lenOf]
      have hfc:=f6 _ hk;rw[pJ hti]at hfc r1;simp[Builtin.copy_,fJ hu,hlen,jF hti,hfc,r1]
     simp only[execOp,ho,resolve,Sem.run_bind,Sem.run_pure,Result.andThen_ok,invoke,builtin];have harr:(#[x,y]:Array Operand).map a.eval= #[.slice (some ⟨(μ l).1,(μ l).2+off,none⟩) len cap,a.eval y]:=by simp[hv]
     rw[harr,hcopy];rfl
    ·cases h
   ·cases h
  ·cases h
 ·cases h
theorem Su{t:TypeId}{x:Operand}{el:TypeId}{zv:Value}(ho:o.op=.call ⟨.builtin .clear,#[x],#[t]⟩)(hu:P.underlying t=some (.slice el))(hz:qG P el=some zv)
 (hc:cOp P im o.op=.clr (jH P el) (zc zv) (cX im x)):FO P im μ w ok okp base e a o σ:=by
 intro d σ' h;rw[hc]at h;simp only[evW]at h;have hx:=jq hE x;obtain⟨ti,hti,hz⟩:=tD hz;split at h
 ·rename_i l off len cm z ex hd;rw[hd]at hx;simp only[VR]at hx;obtain⟨b,p,cap,hb,hv,hl⟩:=hx;rw[hb]at h;simp only at h;split at h
  ·rename_i hcond;simp only[ai,decide_eq_true_eq]at hcond;obtain⟨⟨⟨hw,hzl⟩,hzz⟩,hone⟩:=hcond;split at h
   ·rename_i cs hlay;simp only[aA,aJ]at h;obtain⟨rfl,rfl⟩:=h;obtain⟨l1,rfl,l2,l3,l5⟩:=hl (oQ hw);have hzs:(zc zv).length=zv.cells.size:=by simp[zc]
    have hnew:VRl im σ.get μ w ok (oa len (zc zv)) (Builtin.zeroCells zv.cells len).toList:=by
     refine kK.2 ⟨by simp[uV,Builtin.zeroCells,hzs],λj x hj=>?_⟩;obtain⟨v,h1,h2⟩:=AL (g:=σ.get) (μ:=μ) (w:=w) (ok:=ok) (im:=im) (z:=zv) (n:=len) (m:=len*zv.cells.size) (by rw[hzs]) j x hj;exact⟨v,by simpa only[d9,Builtin.zeroCells]using h1,h2⟩
    have hall:(oa len (zc zv)).all one=true:=by
     have:∀n,(oa n (zc zv)).all one=true:=by
      intro n
      induction n with
      |zero=>rfl
      |succ n ih=>simp only[oa,z29,hone,ih,dI]
     exact this len
    obtain⟨w',r1,r2,r3⟩:=xh (P:=P) R hb hw hlay hnew (z5 hnew hall);have hrun:(Builtin.clear_ #[t] o.type #[.slice (some ⟨(μ l).1,(μ l).2+off,none⟩) len cap]).run P w=.ok (.tuple #[]) w':=by
     cases len with
     |zero=>
      have e0:(Builtin.zeroCells zv.cells 0).toList=[]:=by simp[Builtin.zeroCells]
      rw[e0]at r1;simp only[storeCells,Sem.run_pure,Result.ok.injEq,true_and]at r1;subst r1;simp[Builtin.clear_,fJ hu]
     |succ n=>simp[Builtin.clear_,fJ hu,qJ hti hz,r1]
    refine⟨.tuple #[],w',.inl ?_,μ,ok,r2,r3,by simp[VR]⟩;simp only[execOp,ho,resolve,Sem.run_bind,Sem.run_pure,Result.andThen_ok,invoke,builtin];have harr:(#[x]:Array Operand).map a.eval= #[.slice (some ⟨(μ l).1,(μ l).2+off,none⟩) len cap]:=by simp[hv]
    rw[harr,hrun];rfl
   ·cases h
  ·cases h
 ·rename_i cs ex hd;simp only[aA,aJ]at h;obtain⟨rfl,rfl⟩:=h;rw[hd]at hx;simp only[VR,TR]at hx;obtain⟨p,cap,hv,_⟩:=hx;have hrun:(Builtin.clear_ #[t] o.type #[.slice p 0 cap]).run P w=.ok (.tuple #[]) w:=by
   cases p<;>simp[Builtin.clear_,fJ hu]
  refine⟨.tuple #[],w,.inl ?_,.same R (by simp[VR])⟩;simp only[execOp,ho,resolve,Sem.run_bind,Sem.run_pure,Result.andThen_ok,invoke,builtin];have harr:(#[x]:Array Operand).map a.eval= #[.slice p 0 cap]:=by simp[hv]
  rw[harr,hrun];rfl
 ·cases h
omit R hE hfresh in
theorem re{t u ty el el2:TypeId}{ti:TypeInfo}(hu:P.underlying t=some (.slice el))(hu2:P.underlying u=some (.slice el2))(hti:P.info? el=some ti)
 {p:Option Addr} {sLen sCap n:Nat} {v:Value} {vs:List Value} {w':World} (hl:(Builtin.lenOf v).run P w=.ok n w) (hf:(Builtin.firstCells ti.size n v).run P w=.ok vs.toArray w)
 (hroom:sLen+n≤sCap) (hst:∀x,p=some x→(storeCells (x.add (sLen*ti.size)) vs).run P w=.ok () w') (hn:p=none→w'=w):
 (Builtin.append_ #[t,u] ty #[.slice p sLen sCap,v]).run P w=.ok (.slice p (sLen+n) sCap) w':=by
 cases p with
 |none=>
  have:=hn rfl;subst this;simp[Builtin.append_,fJ hu,fJ hu2,jF hti,hl,hroom,hf]
 |some x=>simp[Builtin.append_,fJ hu,fJ hu2,jF hti,hl,hroom,hf,hst x rfl]
omit R hE hfresh in
theorem vh{t u ty el el2:TypeId}{ti:TypeInfo}{z:Value}(hu:P.underlying t=some (.slice el))(hu2:P.underlying u=some (.slice el2))(hti:P.info? el=some ti)(hz:ti.zero=some z)
 {p:Option Addr} {sLen sCap n:Nat} {v:Value} {vs os:List Value} (hl:(Builtin.lenOf v).run P w=.ok n w) (hf:(Builtin.firstCells ti.size n v).run P w.drew=.ok vs.toArray w.drew)
 (ho:(Builtin.firstCells ti.size sLen (.slice p sLen sCap)).run P w.drew=.ok os.toArray w.drew)
 (hroom:sCap<sLen+n) (hfit:(sLen+n)*ti.bytes≤1099511627776) (h63:sLen+n≤1099511627776):
 (Builtin.append_ #[t,u] ty #[.slice p sLen sCap,v]).run P w=.ok (.slice (some ⟨w.heap.size,0,none⟩) (sLen+n) (grownCap w (sLen+n) sCap el))
  (w.drew.alloc (.cells (os.toArray++vs.toArray++Builtin.zeroCells z.cells (grownCap w (sLen+n) sCap el-(sLen+n))) el)):=by
 have hn:¬(sLen+n≤sCap):=by omega
 have hcap:=nextslicecap_le hroom;have h1:Builtin.nextslicecap (sLen+n) sCap*ti.bytes≤2*(sLen+n)*ti.bytes:=aL _ hcap;have h2:2*(sLen+n)*ti.bytes=2*((sLen+n)*ti.bytes):=aa _ _ _;have h48:¬(281474976710656<Builtin.nextslicecap (sLen+n) sCap*ti.bytes):=by omega
 have h63':¬(9223372036854775807<((sLen:Int)+(n:Int))):=by omega
 simp[Builtin.append_,fJ hu,fJ hu2,jF hti,t5 hti,qJ hti hz,hl,hn,h48,h63',Question.forced,hf,ho,newRow,grownCap];congr 2;apply Array.ext';simp[bV]
omit hE hfresh in
theorem Okv.drew{g':Nat→Option Blk}{d:D}{v:Value}{w':World}(h:Okv im σ.get μ w.drew ok okp base g' d v w'):Okv im σ.get μ w ok okp base g' d v w':=by
 obtain⟨μ',ok',h1,h2,h3⟩:=h;exact⟨μ',ok',h1,(R.heap (w':=w.drew) rfl (.drew _)).2.trans h2,h3⟩
omit R hE hfresh in
theorem BG(w:World)(need old:Nat)(el:TypeId):need≤grownCap w need old el:=by
 unfold grownCap;simp[Question.cut]
omit R hE hfresh in
theorem BF{g:Nat→Option Blk}{c1 c2:List D}{v1 v2:List Value}{zs:Array Value}(h1:VRl im g μ w ok c1 v1)(h2:VRl im g μ w ok c2 v2):
 ∀(j:Nat)(y:D),(c1++c2)[j]?=some y→∃v,(v1.toArray++v2.toArray++zs)[j]?=some v∧VR im g μ w ok y v:=by
 intro j y hj;have e1:=jT h1;have e2:=jT h2;by_cases hlt:j<c1.length
 ·rw[bO hlt]at hj;obtain⟨v,a1,a2⟩:=(kK.1 h1).2 j y hj;refine⟨v,?_,a2⟩;rw[Array.append_assoc,z1a (by simp;omega)];simpa using a1
 ·rw[bJ (by omega)]at hj;obtain⟨v,a1,a2⟩:=(kK.1 h2).2 _ y hj;have hj2:j-c1.length<c2.length:=(bE.1 hj).1;refine⟨v,?_,a2⟩;rw[z1a (by simp;omega),Array.getElem?_append_right (by simp;omega)];simpa[e1]using a1
theorem FL{t u:TypeId}{x y:Operand}{el el2:TypeId}{zv:Value}(ho:o.op=.call ⟨.builtin .append,#[x,y],#[t,u]⟩)(hu:P.underlying t=some (.slice el))(hu2:P.underlying u=some (.slice el2))
 (hz:qG P el=some zv) (hpos:0<jH P el) (hzl:(zc zv).length=jH P el)
 {d:D} {σ':Sto} (h:tA (X.ev e) σ (jH P el) (D4 P el) (cX im x) (cX im y)=some (d,σ')):wc im σ.get μ w ok okp base σ'.get d ((execOp a.eval o).run P w):=by
 unfold tA at h;have hx:=jq hE x;obtain⟨ti,hti,hz⟩:=tD hz;rw[pJ hti]at h hpos hzl;rw[G8 hti]at h;have exec:∀{v w'},(Builtin.append_ #[t,u] o.type #[a.eval x,a.eval y]).run P w=.ok v w'→(execOp a.eval o).run P w=.ok (.value v) w':=by
  intro v w' hr;simp only[execOp,ho,resolve,Sem.run_bind,Sem.run_pure,Result.andThen_ok,invoke,builtin];have harr:(#[x,y]:Array Operand).map a.eval= #[a.eval x,a.eval y]:=by simp
  rw[harr,hr];rfl
 split at h
 ·rename_i new n hnew hn;obtain⟨ad,cap2,vs,f1,f2,f3,f4,f5,f6⟩:=mI (P:=P) R hnew hn (jq hE y);have hlen:(Builtin.lenOf (a.eval y)).run P w=.ok n w:=by rw[f1];simp[Builtin.lenOf]
  obtain⟨Rd,Sd⟩:=R.heap (w':=w.drew) rfl (.drew _);obtain⟨adD,cap2D,vsD,f1D,f2D,f3D,f4D,f5D,f6D⟩:=mI (P:=P) Rd hnew hn (o7 Sd _ _ (jq hE y));have zsz:∀m,(Builtin.zeroCells zv.cells m).size=m*ti.size:=λm=>by
   have:zv.cells.size=ti.size:=by rw[←hzl];simp[zc]
   simp[Builtin.zeroCells,this]
  have grow:∀(g1:Nat→Option Blk)(p:Option Addr)(len cap:Nat)(old:List D)(os:List Value),a.eval x=.slice p len cap→Rel im g1 μ w.drew ok okp base→Stp σ.get μ w.drew ok g1 μ w.drew ok base→g1 σ.nx=none→
   VRl im σ.get μ w.drew ok old os→(Builtin.firstCells ti.size len (.slice p len cap)).run P w.drew=.ok os.toArray w.drew→old.length=len*ti.size→cap<len+n→(len+n)*ti.bytes≤1099511627776→len+n≤1099511627776→
   wc im σ.get μ w ok okp base (upd g1 σ.nx (some ⟨old++new,.rw⟩)) (.sl σ.nx 0 (len+n) (len+n) ti.size false) ((execOp a.eval o).run P w):=by
   intro g1 p len cap old os hv R1 S1 hf1 ho1 ho2 ho3 hroom hb hb2;have hrun:=vh (ty:=o.type) hu hu2 hti hz hlen f5D ho2 hroom hb hb2;have hl1:=jT ho1;have hl2:=jT f3D;have hg:=BG w (len+n) cap el;have hmul:(len+n)*ti.size≤grownCap w (len+n) cap el*ti.size:=aL _ hg;have hmul2:(grownCap w (len+n) cap el-(len+n))*ti.size=grownCap w (len+n) cap el*ti.size-(len+n)*ti.size:=z2e _ _ _;have hmul3:(len+n)*ti.size=len*ti.size+n*ti.size:=aS _ _ _;refine⟨_,_,.inl (exec (by rw[hv];exact hrun)),Okv.drew R ?_⟩;have hk:=Okv.new' (w':=w.drew.alloc (.cells (os.toArray++vsD.toArray++Builtin.zeroCells zv.cells (grownCap w (len+n) cap el-(len+n))) el)) (v:=.slice (some ⟨w.heap.size,0,none⟩) (len+n) (grownCap w (len+n) cap el)) (d:=.sl σ.nx 0 (len+n) (len+n) ti.size false) R1 hf1 (cs:=old++new)
    (λb hb=>heap_alloc_old w.drew _ b hb) (heap_alloc_new w.drew _) (by simp) (.alloc _ _ _) (fr:=(0,0)) (λo _=>by simp)
    (BF (uE S1 _ _ ho1) (uE S1 _ _ f3D))
    (wC (aE _) hg (λh=>by cases h) (by
     show _≤qm (w.drew.alloc (.cells (os.toArray++vsD.toArray++Builtin.zeroCells zv.cells (grownCap w (len+n) cap el-(len+n))) el)) w.drew.heap.size;rw[nI (heap_alloc_new w.drew _)];simp only[Array.size_append,z21,zsz];omega))
   obtain⟨μ',ok',k1,k2,k3⟩:=hk;exact⟨μ',ok',k1,S1.trans k2,k3⟩
  split at h
  ·rename_i cs len ex hd;rw[hd]at hx;have hx0:=hx;simp only[VR,TR]at hx;obtain⟨p,cap,hv,l1,l2,l3⟩:=hx;split at h
   ·rename_i hn0;subst hn0;simp only[aA,aJ]at h;obtain⟨rfl,rfl⟩:=h;have hvs:vs=[]:=by
     have:=jT f3;simp only[bT]at f4;rw[f4]at this;simpa using this
    subst hvs;refine⟨.slice p len cap,w,.inl (exec ?_),.same R (by rw[hv]at hx0;exact hx0)⟩;rw[hv];exact re hu hu2 hti (n:=0) hlen f5 (by omega) (λx _=>by simp[storeCells]) (λ_=>rfl)
   ·rename_i hn0;split at h
    ·rename_i hcond;simp only[ai,decide_eq_true_eq]at hcond;obtain⟨⟨⟨hex,hcl⟩,hb⟩,hb2⟩:=hcond;simp only[aA,aJ]at h;obtain⟨rfl,rfl⟩:=h;have hcap:=l2 hex;obtain⟨adO,capO,os,g1,g2,g3,g4,g5,g6⟩:=mI (P:=P) (d:=.tree cs len ex) (n:=len) (sz:=ti.size) (cs:=cs) Rd (by simp only[cellsOf];rw[aC hcl]) rfl (o7 Sd _ _ hx0);rw[get_add1];rw[hv]at g1;simp only[Value.slice.injEq]at g1;obtain⟨rfl,-,rfl⟩:=g1;rw[hv]at g5;exact grow σ.get p len cap cs os hv Rd (.refl ..) hfresh g3 g5 g4 (by omega) hb hb2
    ·cases h
  ·rename_i l off len cm z ex hd;rw[hd]at hx;simp only[VR]at hx;obtain⟨b,p,cap,hb,hv,hl⟩:=hx;rw[hb]at h;simp only at h;split at h
   ·rename_i hcond;simp only[ai,decide_eq_true_eq]at hcond;obtain⟨⟨⟨⟨hw,hzz⟩,hone⟩,hb1⟩,hb2⟩:=hcond;obtain⟨l1,rfl,l2,l3,l5⟩:=hl (oQ hw);subst hzz;split at h
    ·rename_i hroom;split at h
     ·rename_i cs hlay;simp only[aA,aJ]at h;obtain⟨rfl,rfl⟩:=h;obtain⟨w',r1,r2,r3⟩:=xh (P:=P) R hb hw hlay f3 (z5 f3 hone);refine⟨_,w',.inl (exec (v:=.slice (some ⟨(μ l).1,(μ l).2+off,none⟩) (len+n) cap) ?_),μ,ok,r2,r3,?_⟩
      ·rw[hv];refine re hu hu2 hti hlen f5 (by omega) (λx hx=>?_) (λh=>by cases h);simp only[aA]at hx;subst hx;rw[Addr.add_eq rfl,cy];exact r1
      ·simp only[VR];refine⟨⟨cs,.rw⟩,_,_,by rw[get_put,fC],rfl,λ_=>⟨hroom,rfl,l2,l3,?_⟩⟩;obtain⟨b2,hb2',k⟩:=r3.locs l b hb;rw[get_put,fC]at hb2';simp only[aA]at hb2';subst hb2';rw[(k rfl).2.2];exact l5
     ·cases h
    ·rename_i hroom;split at h
     ·rename_i old hcut;simp only[aA,aJ]at h;obtain⟨rfl,rfl⟩:=h;have hxD:VR im σ.get μ w.drew ok (.sl l off len cm ti.size ex) (a.eval x):=by
       have:=jq hE x;rw[hd]at this;exact o7 Sd _ _ this
      have hco:cellsOf σ.get ti.size (.sl l off len cm ti.size ex)=some old:=by
       simp only[cellsOf,hb,oQ hw];simpa using hcut
      obtain⟨adO,capO,os,g1,g2,g3,g4,g5,g6⟩:=mI (P:=P) (d:=.sl l off len cm ti.size ex) (n:=len) (sz:=ti.size) (cs:=old) Rd hco rfl hxD;rw[hv]at g1;simp only[Value.slice.injEq]at g1;obtain⟨rfl,-,rfl⟩:=g1;rw[hv]at g5;by_cases hex:ex=true
      ·have hcap:=l3 hex;simp only[hex,b9,get_add1];exact grow σ.get _ len cap old os hv Rd (.refl ..) hfresh g3 g5 g4 (by omega) hb1 hb2
      ·have hex':ex=false:=by simpa using hex
       subst hex';have hnl:σ.nx≠l:=λe=>by rw[e,hb]at hfresh;cases hfresh
       have hgk:(σ.put l ⟨[],.gone⟩).get=upd σ.get l (some ⟨[],.gone⟩):=get_put _ _ _;simp only[bh,bx,get_add1,Sto.nx_put,hgk];by_cases hcap:len+n≤cap
       ·
        obtain⟨⟨cur,el',fr,hbb,hfr⟩,hvc⟩:=R.blk l b hb (oQ hw);have hrs:=nI hbb;have hvl:=jT f3;have hcl:n*ti.size+len*ti.size≤cap*ti.size:=by rw[←aS];exact aL _ (by omega)
        obtain⟨w',cur',r1,r2,r3,r4,r5,r6,r7⟩:=rk (P:=P) (μ l).1 ((μ l).2+off+len*ti.size) el' fr vs 0 cur w hbb hfr (by omega) (z5 f3 hone);obtain⟨m1,m2⟩:=R.move (w':=w') (l2:=σ.nx) (cs:=old++new) (arr:=cur') (o2:=(μ l).2+off) hb hw hfresh r2 (λo ho=>hfr o (by omega)) r5 r6 (by rw[r3,hrs]) r7 (λj y hj=>by
         have hol:old.length=len*ti.size:=(wY hcut).2;by_cases hlt:j<old.length
         ·rw[bO hlt]at hj;obtain⟨v,a1,a2⟩:=wB (wZ hcut hvc) hbb j y hj;exact⟨v,by rw[r4,aF (by omega)];exact a1,a2⟩
         ·rw[bJ (by omega)]at hj;have hj2:j-old.length<new.length:=(bE.1 hj).1;obtain⟨v,a1,a2⟩:=(kK.1 f3).2 _ y hj;refine⟨v,?_,a2⟩;rw[r4,aC (by omega),←a1];congr 1;omega)
        refine⟨_,w',.inl (exec (v:=.slice (some ⟨(μ l).1,(μ l).2+off,none⟩) (len+n) cap) ?_),_,ok,m1,m2,?_⟩
        ·rw[hv];refine re hu hu2 hti hlen f5 hcap (λx hx=>?_) (λh=>by cases h);simp only[aA]at hx;subst hx;rw[Addr.add_eq rfl];exact r1
        ·simp only[VR];refine⟨_,_,_,fC _ _ _,rfl,λ_=>⟨aE _,by rw[fC];rfl,hcap,(λh=>by cases h),?_⟩⟩;rw[fC];show(μ l).2+off+0+cap*ti.size≤qm w' (μ l).1;rw[nI r2,r3,←hrs];omega
       ·obtain⟨k1,k2⟩:=Rd.kill (cs:=[]) hb;exact grow _ _ len cap old os hv k1 k2 (by rw[fP _ _ hnl];exact hfresh) g3 g5 g4 (by omega) hb1 hb2
     ·cases h
   ·cases h
  ·cases h
 ·cases h
theorem O4{t u:TypeId}{x y:Operand}{el el2:TypeId}{zv:Value}(ho:o.op=.call ⟨.builtin .append,#[x,y],#[t,u]⟩)(hu:P.underlying t=some (.slice el))(hu2:P.underlying u=some (.slice el2))
 (hz:qG P el=some zv) (hpos:0<jH P el) (hzl:(zc zv).length=jH P el)
 (hc:cOp P im o.op=.app (jH P el) (D4 P el) (cX im x) (cX im y)):FO P im μ w ok okp base e a o σ:=by
 intro d σ' h;rw[hc]at h;simp only[evW]at h;exact FL R hE hfresh ho hu hu2 hz hpos hzl h
omit R hE hfresh in
theorem Ke{α:Type}(f:Nat→α)(l:Nat)(x y:α):upd (upd f l x) l y=upd f l y:=by
 funext m;by_cases e:m=l
 ·subst e;rw[fC,fC]
 ·rw[fP _ _ e,fP _ _ e,fP _ _ e]
theorem WG{t u:TypeId}{x y:Operand}{el el2:TypeId}{zv:Value}(ho:o.op=.call ⟨.builtin .append,#[x,y],#[t,u]⟩)(hu:P.underlying t=some (.slice el))(hu2:P.underlying u=some (.slice el2))
 (hz:qG P el=some zv) (hpos:0<jH P el) (hzl:(zc zv).length=jH P el)
 {d:D} {σ':Sto} (h:evW (X.ev e) σ (.appk (jH P el) (D4 P el) (cX im x) (cX im y))=some (d,σ')):wc im σ.get μ w ok okp base σ'.get d ((execOp a.eval o).run P w):=by
 simp only[evW]at h;split at h
 ·rename_i l off len cm z hd;have hx:=jq hE x;obtain⟨ti,hti,hz⟩:=tD hz;rw[pJ hti]at h hpos hzl;rw[G8 hti]at h;have exec:∀{v w'},(Builtin.append_ #[t,u] o.type #[a.eval x,a.eval y]).run P w=.ok v w'→(execOp a.eval o).run P w=.ok (.value v) w':=by
   intro v w' hr;simp only[execOp,ho,resolve,Sem.run_bind,Sem.run_pure,Result.andThen_ok,invoke,builtin];have harr:(#[x,y]:Array Operand).map a.eval= #[a.eval x,a.eval y]:=by simp
   rw[harr,hr];rfl
  split at h
  ·rename_i new n b hnew hn hb;obtain⟨ad,cap2,vs,f1,f2,f3,f4,f5,f6⟩:=mI (P:=P) R hnew hn (jq hE y);have hlen:(Builtin.lenOf (a.eval y)).run P w=.ok n w:=by rw[f1];simp[Builtin.lenOf]
   obtain⟨Rd,Sd⟩:=R.heap (w':=w.drew) rfl (.drew _);obtain⟨adD,cap2D,vsD,f1D,f2D,f3D,f4D,f5D,f6D⟩:=mI (P:=P) Rd hnew hn (o7 Sd _ _ (jq hE y));have zsz:∀m,(Builtin.zeroCells zv.cells m).size=m*ti.size:=λm=>by
    have:zv.cells.size=ti.size:=by rw[←hzl];simp[zc]
    simp[Builtin.zeroCells,this]
   split at h
   ·rename_i hcond;simp only[ai,decide_eq_true_eq]at hcond;obtain⟨⟨⟨⟨⟨hown,hzz⟩,hone⟩,hb1⟩,hb2⟩,hend⟩:=hcond;subst hzz;have hlive:=gM hown;rw[hd]at hx;have hx0:=hx;simp only[VR]at hx;obtain⟨b',p,cap,hb',hv,hl⟩:=hx;rw[hb]at hb';simp only[aA]at hb';subst hb';obtain⟨l1,rfl,l2,l3,l5⟩:=hl hlive;split at h
    ·rename_i old hcut;simp only[aA,aJ]at h;obtain⟨rfl,rfl⟩:=h;have hol:old.length=len*ti.size:=(wY hcut).2;have hgk:(σ.put l ⟨b.cs,.frz⟩).get=upd σ.get l (some ⟨b.cs,.frz⟩):=get_put _ _ _;have hnl:σ.nx≠l:=λe=>by rw[e,hb]at hfresh;cases hfresh
     simp only[get_add1,Sto.nx_put,hgk];have hvl:=jT f3;by_cases hcap:len+n≤cap
     ·
      obtain⟨R1,S1⟩:=R.toApd hb hown;obtain⟨⟨cur,el',fr,hbb,hfr⟩,hvc⟩:=R.blk l b hb hlive;have hrs:=nI hbb;have hcl:n*ti.size+len*ti.size≤cap*ti.size:=by rw[←aS];exact aL _ (by omega)
      obtain⟨w',cur',r1,r2,r3,r4,r5,r6,r7⟩:=rk (P:=P) (μ l).1 ((μ l).2+off+len*ti.size) el' fr vs 0 cur w hbb hfr (by omega) (z5 f3 hone);obtain⟨m1,m2⟩:=R1.share (w':=w') (l:=l) (l2:=σ.nx) (b:=⟨b.cs,.apd⟩) (cs:=old++new) (arr:=cur') (o2:=(μ l).2+off) (fC _ _ _) rfl (by rw[fP _ _ hnl];exact hfresh) hbb r2
       (λo ho=>hfr o (by omega)) (λk hk=>by rw[r4,aF (by simp only at hk;omega)]) r5 r6 (by rw[r3,hrs]) r7 (by simp only[ay];omega) (λj y hj=>by
        by_cases hlt:j<old.length
        ·rw[bO hlt]at hj;obtain⟨v,a1,a2⟩:=wB (wZ hcut hvc) hbb j y hj;exact⟨v,by rw[r4,aF (by omega)];exact a1,o7 S1 _ _ a2⟩
        ·rw[bJ (by omega)]at hj;have hj2:j-old.length<new.length:=(bE.1 hj).1;obtain⟨v,a1,a2⟩:=(kK.1 f3).2 _ y hj;refine⟨v,?_,o7 S1 _ _ a2⟩;rw[r4,aC (by omega),←a1];congr 1;omega)
      simp only[Ke]at m1 m2;refine⟨_,w',.inl (exec (v:=.slice (some ⟨(μ l).1,(μ l).2+off,none⟩) (len+n) cap) ?_),_,_,m1,S1.trans m2,?_⟩
      ·rw[hv];refine re hu hu2 hti hlen f5 hcap (λx hx=>?_) (λh=>by cases h);simp only[aA]at hx;subst hx;rw[Addr.add_eq rfl];exact r1
      ·simp only[VR];refine⟨_,_,_,fC _ _ _,rfl,λ_=>⟨aE _,by rw[fC];rfl,hcap,(λh=>by cases h),?_⟩⟩;rw[fC];show(μ l).2+off+0+cap*ti.size≤qm w' (μ l).1;rw[nI r2,r3,←hrs];omega
     ·
      have hxD:VR im σ.get μ w.drew ok (.sl l off len cm ti.size false) (a.eval x):=o7 Sd _ _ hx0;have hco:cellsOf σ.get ti.size (.sl l off len cm ti.size false)=some old:=by
       simp only[cellsOf,hb,hlive];simpa using hcut
      obtain⟨adO,capO,os,g1,g2,g3,g4,g5,g6⟩:=mI (P:=P) (d:=.sl l off len cm ti.size false) (n:=len) (sz:=ti.size) (cs:=old) Rd hco rfl hxD;rw[hv]at g1;simp only[Value.slice.injEq]at g1;obtain⟨rfl,-,rfl⟩:=g1;rw[hv]at g5;have hrun:=vh (ty:=o.type) hu hu2 hti hz hlen f5D g5 (by omega) hb1 hb2;have hl1:=jT g3;have hl2:=jT f3D;have hg:=BG w (len+n) cap el;have hmul:(len+n)*ti.size≤grownCap w (len+n) cap el*ti.size:=aL _ hg;have hmul2:(grownCap w (len+n) cap el-(len+n))*ti.size=grownCap w (len+n) cap el*ti.size-(len+n)*ti.size:=z2e _ _ _;have hmul3:(len+n)*ti.size=len*ti.size+n*ti.size:=aS _ _ _;obtain⟨ok1,R1,S1⟩:=Rd.freezeF hb hown;have hf1:upd σ.get l (some ⟨b.cs,.frz⟩) σ.nx=none:=by rw[fP _ _ hnl];exact hfresh
      refine⟨_,_,.inl (exec (by rw[hv];exact hrun)),Okv.drew R ?_⟩;have hk:=Okv.new' (w':=w.drew.alloc (.cells (os.toArray++vsD.toArray++Builtin.zeroCells zv.cells (grownCap w (len+n) cap el-(len+n))) el)) (v:=.slice (some ⟨w.heap.size,0,none⟩) (len+n) (grownCap w (len+n) cap el)) (d:=.sl σ.nx 0 (len+n) (len+n) ti.size false) R1 hf1 (cs:=old++new)
       (λb hb=>heap_alloc_old w.drew _ b hb) (heap_alloc_new w.drew _) (by simp) (.alloc _ _ _) (fr:=(0,0)) (λo _=>by simp)
       (BF (uE S1 _ _ g3) (uE S1 _ _ f3D))
       (wC (aE _) hg (λh=>by cases h) (by
        show _≤qm (w.drew.alloc (.cells (os.toArray++vsD.toArray++Builtin.zeroCells zv.cells (grownCap w (len+n) cap el-(len+n))) el)) w.drew.heap.size;rw[nI (heap_alloc_new w.drew _)];simp only[Array.size_append,z21,zsz];omega))
      obtain⟨μ',ok',k1,k2,k3⟩:=hk;obtain⟨k4,k5⟩:=k1.toApd (fC _ _ _) rfl;simp only[Ke]at k4 k5;exact⟨μ',_,k4,(S1.trans k2).trans k5,o7 k5 _ _ k3⟩
    ·cases h
   ·cases h
  ·cases h
 ·cases hq:tA (X.ev e) σ (jH P el) (D4 P el) (cX im x) (cX im y)with
  |none=>rw[hq]at h;cases h
  |some r=>
   obtain⟨d1,σ1⟩:=r;have hd:=FL R hE hfresh ho hu hu2 hz hpos hzl hq;rw[hq]at h;split at h
   ·rename_i l off len cm z ex σ2 he;simp only[aA,aJ]at he;obtain⟨rfl,rfl⟩:=he;split at h
    ·split at h
     ·rename_i b hb;split at h
      ·rename_i hown;simp only[aA,aJ]at h;obtain⟨rfl,rfl⟩:=h;obtain⟨v,w',h1,μ',ok',k1,k2,k3⟩:=hd;obtain⟨r1,r2⟩:=k1.toApd hb hown;have hg:(σ1.put l ⟨b.cs,.apd⟩).get=upd σ1.get l (some ⟨b.cs,.apd⟩):=get_put _ _ _;exact⟨v,w',h1,μ',_,by rw[hg];exact r1,by rw[hg];exact k2.trans r2,by rw[hg];exact o7 r2 _ _ k3⟩
      ·cases h
     ·cases h
    ·simp only[aA,aJ]at h;obtain⟨rfl,rfl⟩:=h;exact hd
   ·rw[h]at hq;simp only[aA,aJ]at h;obtain⟨rfl,rfl⟩:=h;exact hd
theorem oc(hc:evW (X.ev e) σ (cOp P im o.op)=none):FO P im μ w ok okp base e a o σ:=by
 intro d σ' h;rw[hc]at h;cases h
theorem Ey:FO P im μ w ok okp base e a o σ:=by
 cases ho:o.op with
 |store t x y=>exact Ss R hE hfresh ho
 |call c=>
  obtain⟨cal,args,tys⟩:=c;cases cal with
  |invoke r m=>refine oc R hE hfresh ?_;rw[ho];rfl
  |value f=>
   refine oc R hE hfresh ?_;rw[ho];simp only[cOp,gx]
   (repeat' split)<;>rfl
  |builtin b=>
   cases b
   case append=>
    match hal:args.toList,htl:tys.toList with
    |[x,y],[t,u]=>
     have e1:args= #[x,y]:=by obtain⟨l⟩:=args;simp at hal;subst hal;rfl
     have e2:tys= #[t,u]:=by obtain⟨l⟩:=tys;simp at htl;subst htl;rfl
     subst e1 e2;have hcc:cOp P im o.op=match P.underlying t,P.underlying u with
      |some (.slice el),some (.slice _)=>match qG P el with
       |some z=>if 0<jH P el&&(zc z).length==jH P el then .app (jH P el) (D4 P el) (cX im x) (cX im y)else .bad
       |none=>.bad
      |_,_=>.bad:=by rw[ho];rfl
     split at hcc
     ·rename_i el el2 hu hu2;split at hcc
      ·rename_i z hz;split at hcc
       ·rename_i hq;simp only[ai,decide_eq_true_eq,beq_iff_eq]at hq;exact O4 R hE hfresh ho hu hu2 hz hq.1 hq.2 hcc
       ·exact oc R hE hfresh (by rw[hcc];rfl)
      ·exact oc R hE hfresh (by rw[hcc];rfl)
     ·exact oc R hE hfresh (by rw[hcc];rfl)
    |[],_=>refine oc R hE hfresh ?_;rw[ho];simp[cOp,gx,hal,evW]
    |[x],_=>refine oc R hE hfresh ?_;rw[ho];simp[cOp,gx,hal,evW]
    |x::y::z::r,_=>refine oc R hE hfresh ?_;rw[ho];simp[cOp,gx,hal,evW]
    |[x,y],[]=>refine oc R hE hfresh ?_;rw[ho];simp[cOp,gx,hal,htl,evW]
    |[x,y],[t]=>refine oc R hE hfresh ?_;rw[ho];simp[cOp,gx,hal,htl,evW]
    |[x,y],t::u::v::r=>refine oc R hE hfresh ?_;rw[ho];simp[cOp,gx,hal,htl,evW]
   case copy=>
    match hal:args.toList,htl:tys.toList with
    |[x,y],[t,u]=>
     have e1:args= #[x,y]:=by obtain⟨l⟩:=args;simp at hal;subst hal;rfl
     have e2:tys= #[t,u]:=by obtain⟨l⟩:=tys;simp at htl;subst htl;rfl
     subst e1 e2;have hcc:cOp P im o.op=match P.underlying t,P.underlying u with
      |some (.slice el),some (.slice _)=>if 0<jH P el then .copy (jH P el) (cX im x) (cX im y)else .bad
      |_,_=>.bad:=by rw[ho];rfl
     split at hcc
     ·rename_i el el2 hu hu2;split at hcc
      ·rename_i hq;exact WF R hE hfresh ho hu hq hcc
      ·exact oc R hE hfresh (by rw[hcc];rfl)
     ·exact oc R hE hfresh (by rw[hcc];rfl)
    |[],_=>refine oc R hE hfresh ?_;rw[ho];simp[cOp,gx,hal,evW]
    |[x],_=>refine oc R hE hfresh ?_;rw[ho];simp[cOp,gx,hal,evW]
    |x::y::z::r,_=>refine oc R hE hfresh ?_;rw[ho];simp[cOp,gx,hal,evW]
    |[x,y],[]=>refine oc R hE hfresh ?_;rw[ho];simp[cOp,gx,hal,htl,evW]
    |[x,y],[t]=>refine oc R hE hfresh ?_;rw[ho];simp[cOp,gx,hal,htl,evW]
    |[x,y],t::u::v::r=>refine oc R hE hfresh ?_;rw[ho];simp[cOp,gx,hal,htl,evW]
   case clear=>
    match hal:args.toList,htl:tys.toList with
    |[x],[t]=>
     have e1:args= #[x]:=by obtain⟨l⟩:=args;simp at hal;subst hal;rfl
     have e2:tys= #[t]:=by obtain⟨l⟩:=tys;simp at htl;subst htl;rfl
     subst e1 e2;have hcc:cOp P im o.op=match P.underlying t with
      |some (.slice el)=>match qG P el with
       |some z=>.clr (jH P el) (zc z) (cX im x)
       |none=>.bad
      |_=>.bad:=by rw[ho];rfl
     split at hcc
     ·rename_i el hu;split at hcc
      ·rename_i z hz;exact Su R hE hfresh ho hu hz hcc
      ·exact oc R hE hfresh (by rw[hcc];rfl)
     ·exact oc R hE hfresh (by rw[hcc];rfl)
    |[],_=>refine oc R hE hfresh ?_;rw[ho];simp[cOp,gx,hal,evW]
    |x::y::r,_=>refine oc R hE hfresh ?_;rw[ho];simp[cOp,gx,hal,evW]
    |[x],[]=>refine oc R hE hfresh ?_;rw[ho];simp[cOp,gx,hal,htl,evW]
    |[x],t::u::r=>refine oc R hE hfresh ?_;rw[ho];simp[cOp,gx,hal,htl,evW]
   all_goals
    refine oc R hE hfresh ?_;rw[ho];simp only[cOp,gx]
    (repeat' split)<;>first|rfl|(exfalso;simp_all;done)
 |_=>refine oc R hE hfresh ?_;rw[ho];simp only[cOp];(repeat' split)<;>first|rfl|contradiction
omit R hE hfresh in
theorem VM{op:Op}{sz bs:Nat}{X1 Y1:X}(h:cOp P im op=.app sz bs X1 Y1):∃x y t u el el2 zv,op=.call ⟨.builtin .append,#[x,y],#[t,u]⟩∧P.underlying t=some (.slice el)∧P.underlying u=some (.slice el2)∧
 qG P el=some zv∧0<jH P el∧(zc zv).length=jH P el∧sz=jH P el∧bs=D4 P el∧X1=cX im x∧Y1=cX im y:=by
 cases op with
 |call c=>
  obtain⟨cal,args,tys⟩:=c;cases cal with
  |invoke r m=>cases h
  |value f=>
   exfalso;simp only[cOp,gx]at h
   (repeat' split at h)<;>cases h
  |builtin b=>
   cases b
   case append=>
    match hal:args.toList,htl:tys.toList with
    |[x,y],[t,u]=>
     have e1:args= #[x,y]:=by obtain⟨l⟩:=args;simp at hal;subst hal;rfl
     have e2:tys= #[t,u]:=by obtain⟨l⟩:=tys;simp at htl;subst htl;rfl
     subst e1 e2;have hcc:(match P.underlying t,P.underlying u with
      |some (.slice el),some (.slice _)=>match qG P el with
       |some z=>if 0<jH P el&&(zc z).length==jH P el then .app (jH P el) (D4 P el) (cX im x) (cX im y)else .bad
       |none=>.bad
      |_,_=>.bad)=O.app sz bs X1 Y1:=h
     split at hcc
     ·rename_i el el2 hu hu2;split at hcc
      ·rename_i z hz;split at hcc
       ·rename_i hq;simp only[ai,decide_eq_true_eq,beq_iff_eq]at hq;simp only[O.app.injEq]at hcc;exact⟨x,y,t,u,el,el2,z,rfl,hu,hu2,hz,hq.1,hq.2,hcc.1.symm,hcc.2.1.symm,hcc.2.2.1.symm,hcc.2.2.2.symm⟩
       ·cases hcc
      ·cases hcc
     ·cases hcc
    |[],_=>simp[cOp,gx,hal]at h
    |[x],_=>simp[cOp,gx,hal]at h
    |x::y::z::r,_=>simp[cOp,gx,hal]at h
    |[x,y],[]=>simp[cOp,gx,hal,htl]at h
    |[x,y],[t]=>simp[cOp,gx,hal,htl]at h
    |[x,y],t::u::v::r=>simp[cOp,gx,hal,htl]at h
   all_goals
    exfalso;simp only[cOp,gx]at h
    (repeat' split at h)<;>first|(cases h;done)|(simp_all;done)
 |makeFunc fn fi ca=>
  exfalso;cases fn<;>first|(cases h;done)|(simp only[cOp]at h;(repeat' split at h)<;>cases h)
 |_=>
  exfalso;simp only[cOp]at h
  (repeat' split at h)<;>cases h
omit R hE hfresh in
theorem A0(q:O):puO q=q∨(∃a,q=.load1 a∧puO q=.pld1 a)∨(∃n a,q=.loadn n a∧puO q=.pldn n a)∨(∃sz x a b c,q=.slice sz x a b c∧puO q=.psl sz x a b c)∨
 (∃sz x i,q=.iaddr sz x i∧puO q=.pia sz x i)∨(∃n z l,q=.bsl n z l∧puO q=.pbs n z l):=by
 cases q with
 |load1 a=>exact .inr (.inl ⟨a,rfl,rfl⟩)
 |loadn n a=>exact .inr (.inr (.inl ⟨n,a,rfl,rfl⟩))
 |slice sz x a b c=>exact .inr (.inr (.inr (.inl ⟨sz,x,a,b,c,rfl,rfl⟩)))
 |iaddr sz x i=>exact .inr (.inr (.inr (.inr (.inl ⟨sz,x,i,rfl,rfl⟩))))
 |bsl n z l=>exact .inr (.inr (.inr (.inr (.inr ⟨n,z,l,rfl,rfl⟩))))
 |_=>exact .inl rfl
omit R hE hfresh in
theorem Ab(nt:Nat)(q:O):kpO nt q=q∨kpO nt q=puO q∨∃sz bs x y,q=.app sz bs x y∧kpO nt q=.appk sz bs x y:=by
 unfold kpO;split
 ·cases q with
  |bsl n z l=>
   show(if z.length=1 then O.bsl n z l else .pbs n z l)=_∨(if z.length=1 then O.bsl n z l else .pbs n z l)=_∨_;split
   ·exact .inl rfl
   ·exact .inr (.inl rfl)
  |_=>exact .inr (.inl rfl)
 ·split
  ·exact .inr (.inl rfl)
  ·split
   ·split
    ·exact .inr (.inr ⟨_,_,_,_,rfl,rfl⟩)
    ·exact .inl rfl
   ·exact .inl rfl
theorem DM{nt:Nat}{d:D}{σ':Sto}(h:evW (X.ev e) σ (kpO nt (cOp P im o.op))=some (d,σ')):wc im σ.get μ w ok okp base σ'.get d ((execOp a.eval o).run P w):=by
 rcases Ab nt (cOp P im o.op)with hq|hq|⟨sz,bs,x,y,h1,h2⟩
 ·rw[hq]at h;exact Ey R hE hfresh d σ' h
 ·rw[hq]at h;rcases A0 (cOp P im o.op)with h2|⟨_,_,h2⟩|⟨_,_,_,h2⟩|⟨_,_,_,_,_,_,h2⟩|⟨_,_,_,_,h2⟩|⟨_,_,_,_,h2⟩
  ·rw[h2]at h;exact Ey R hE hfresh d σ' h
  all_goals
   rw[h2]at h;cases h
 ·rw[h2]at h;obtain⟨x,y,t,u,el,el2,zv,k1,k2,k3,k4,k5,k6,rfl,rfl,rfl,rfl⟩:=VM h1;exact WG R hE hfresh k1 k2 k3 k4 k5 k6 h
end
end
end Go.Proofs.Ev
