/- An evaluator of the code in the model, proved sound, and residuals of code as Lean functions. -/
import GoSem.Step
import Derived.Calls
import Derived.Laws.Sem
import Derived.Laws.World
import Derived.Laws.Rows
import Derived.Laws.Cells
import Derived.Laws.Small
import Derived.Laws.Slices
import Derived.Laws.Append
import Derived.Laws.StructEq
import Derived.Laws.Strings
import Derived.Laws.BytesString
import Derived.Lib.ConvBytes
import Derived.Laws.Tables
import Derived.Laws.Externs
import Derived.Laws.Cover3
set_option linter.all false
namespace Go.Proofs.Ev
def aA:=@Option.some.injEq
def aB:=@List.getElem?_eq_getElem
def aC:=@if_pos
def aD:=@Nat.le_refl
def aE:=@if_neg
def aF:=@Nat.ble_eq_true_of_le
def aH:=@List.getD_eq_getElem?_getD
def aI:=@List.length_map
def aJ:=@Prod.mk.injEq
def aK:=@Nat.mul_comm
def aL:=@Nat.mul_le_mul_right
def aM:=@List.take_of_length_le
def aN:=@decide_eq_false
def aP:=@Nat.add_mul
def aS:=@decide_eq_true
def aT:=@Nat.eq_of_beq_eq_true
def aU:=@Nat.mul_assoc
def aV:=@Nat.zero_add
def aW:=@List.mem_map
def aZ:=@Nat.mul_le_mul_left
def a7:=@Nat.add_sub_cancel
def a8:=@List.eq_nil_of_length_eq_zero
def a9:=@Nat.zero_le
def aa:=@Nat.le_of_ble_eq_true
def ae:=@Bool.and_eq_true
def ah:=@List.length_take
def ai:=@Nat.mul_one
def aj:=@List.drop_zero
def ak:=@List.map_append
def am:=@List.mem_append
def ao:=@List.getElem?_set_self
def au:=@List.getElem?_map
def av:=@Nat.pow_succ
def ax:=@List.mem_map_of_mem
def ay:=@List.length_cons
def az:=@Nat.lt_or_ge
def bA:=@Nat.mul_add
def bB:=@List.map_cons
def bC:=@List.getElem?_eq_some_iff
def bD:=@List.length_set
def bE:=@Nat.one_mul
def bF:=@List.length_append
def bG:=@List.getElem?_cons_zero
def bH:=@Nat.add_zero
def bI:=@List.mem_cons
def bJ:=@Nat.mod_eq_of_lt
def bK:=@List.getElem_mem
def bL:=@Nat.eq_zero_or_pos
def bM:=@List.getElem?_cons_succ
def bN:=@List.getElem?_append_right
def bO:=@Nat.min_eq_left
def bP:=@Nat.zero_mul
def bQ:=@List.getElem?_append_left
def bR:=@Nat.pow_pos
def bS:=@Nat.lt_irrefl
def bT:=@Nat.le_trans
def bU:=@List.mem_of_getElem?
def bV:=@List.getElem?_set_ne
def bW:=@List.append_assoc
def bX:=@List.getElem?_eq_none
def bY:=@Nat.pow_add
def bZ:=@List.drop_eq_getElem_cons
def b9:=@List.mem_append_left
def ba:=@Nat.pow_le_pow_right
def bc:=@Nat.le_of_lt_succ
def bf:=@if_true
def bg:=@Nat.mod_lt
def bh:=@List.drop_eq_nil_of_le
def bi:=@List.mem_singleton
def bj:=@Bool.false_eq_true
def bk:=@Array.getElem?_eq_some_iff
def bm:=@List.mem_cons_of_mem
def bn:=@Nat.div_lt_iff_lt_mul
def bp:=@Nat.lt_of_lt_of_le
def bq:=@List.append_nil
def br:=@Nat.lt_of_le_of_lt
def bt:=@Nat.add_sub_add_right
def bu:=@List.cons_append
def bv:=@Nat.mul_le_mul
def bw:=@List.mem_of_mem_take
def bx:=@List.getElem?_drop
def bz:=@if_false
def cA:=@List.mem_cons_self
def cC:=@Nat.sub_self
def cE:=@List.map_map
def cF:=@List.mem_append_right
def cG:=@List.getElem_map
def cH:=@List.take_add_one
def cI:=@Bool.not_true
def cJ:=@List.all_cons
def cK:=@Nat.lt_succ_self
def cL:=@Nat.div_eq_of_lt
def cM:=@List.length_pos_iff
def cN:=@List.map_congr_left
def cO:=@List.take_append_drop
def cP:=@Nat.add_sub_cancel'
def cQ:=@List.nil_append
def cR:=@Nat.div_add_mod
def cU:=@Nat.not_lt_zero
def cW:=@Nat.mul_pos
def cY:=@List.getElem?_take
def cZ:=@List.all_eq_true
def c7:=@List.take_length
def c9:=@List.take_succ_eq_append_getElem
def ce:=@Nat.pow_zero
def cf:=@Nat.mul_left_comm
def cg:=@of_decide_eq_true
def ch:=@Nat.add_mul_mod_self_left
def ci:=@Bool.or_eq_true
def cj:=@List.length_nil
def ck:=@Option.some.inj
def co:=@List.set_append_right
def cp:=@List.length_drop
def cr:=@Nat.succ_mul
def ct:=@Nat.add_comm
def cw:=@Rat.inv_mul_cancel
def cx:=@Nat.add_assoc
def cy:=@Nat.one_pos
def dA:=@Nat.lt_trichotomy
def dB:=@Option.map_some
def dC:=@Array.getD_eq_getD_getElem?
def dD:=@Nat.mul_lt_mul_of_pos_right
def dE:=@Nat.mod_add_div
def dF:=@Nat.div_mul_le_self
def dG:=@Nat.mul_zero
def dH:=@List.drop_of_length_le
def dI:=@Bool.and_self
def dJ:=@Nat.mul_right_comm
def dK:=@Array.getElem?_setIfInBounds_ne
def dL:=@Rat.mul_one
def dM:=@Option.map_none
def dN:=@Nat.le_of_lt
def dO:=@Nat.gcd_comm
def dP:=@List.Pairwise.imp_of_mem
def dR:=@List.foldl_append
def dS:=@List.pairwise_map
def dT:=@Array.length_toList
def dU:=@List.mem_flatMap
def dV:=@List.dropLast_concat_getLast
def dW:=@Nat.beq_refl
def dZ:=@Nat.two_pow_add_eq_or_of_lt
def d5:=@Nat.gcd_zero_right
def d6:=@Array.getElem?_toList
def d7:=@Nat.le_div_iff_mul_le
def d8:=@Nat.div_lt_of_lt_mul
def d9:=@List.take_zero
def dc:=@Int.negSucc_eq
def de:=@List.eq_of_mem_replicate
def dh:=@List.foldl_cons
def di:=@Bool.eq_iff_iff
def dj:=@List.set_cons_zero
def dk:=@List.pairwise_cons
def dl:=@Int.natAbs_natCast
def dm:=@Nat.pow_mul
def dn:=@Bool.not_eq_true'
def dp:=@List.Pairwise.nil
def dq:=@Bool.and_false
def dr:=@List.map_set
def du:=@List.length_replicate
def dw:=@Int.natAbs_mul
def dx:=@List.mem_of_mem_drop
def dy:=@Nat.blt_eq
def dz:=@List.findIdx_getElem
def eA:=@List.mem_iff_getElem
def eB:=@Array.getElem?_setIfInBounds_self_of_lt
def eC:=@Array.getElem?_append_left
def eE:=@List.sum_cons
def eF:=@List.take_succ_cons
def eG:=@List.drop_succ_cons
def eH:=@Array.getElem?_eq_getElem
def z0E:=@Nat.le_antisymm
def z0F:=@List.getLast?_eq_getElem?
def z0G:=@Rat.intCast_neg
def z0H:=@Nat.mul_ne_zero
def z0I:=@List.getElem?_take_of_lt
def z0J:=@Nat.add_le_add_iff_right
def z0K:=@Option.isSome_iff_exists
def z0L:=@Nat.le_of_eq
def z0M:=@List.mapM_cons
def z0N:=@List.length_eq_zero_iff
def z0O:=@List.getLast?_cons_cons
def z0P:=@List.pairwise_singleton
def z0Q:=@Nat.lt_succ_of_lt
def z0R:=@List.any_eq_false
def z0S:=@List.set_eq_take_append_cons_drop
def z0T:=@Nat.div_pos
def z0U:=@Nat.le_log2
def z0V:=@Nat.le_mul_of_pos_left
def z0W:=@List.findIdx_le_length
def z0X:=@List.eraseIdx_append_of_length_le
def z0Y:=@List.map_take
def z0Z:=@List.cons.inj
def z10:=@Nat.log2_self_le
def z11:=@Nat.max_eq_right
def z12:=@List.mem_iff_getElem?
def z13:=@Nat.mul_mod_mul_right
def z14:=@List.cons.injEq
def z15:=@Int.natCast_mul
def z16:=@Nat.div_le_self
def z17:=@Nat.add_mul_div_left
def z18:=@Nat.and_two_pow_sub_one_eq_mod
def z19:=@Nat.mul_add_div
def z1a:=@List.foldr_cons
def z1b:=@List.pairwise_append
def z1c:=@List.range_succ
def z1d:=@List.drop_set_of_lt
def z1e:=@List.length_flatMap
def z1f:=@List.mem_range
def z1g:=@Bool.false_and
def z1h:=@List.Perm.refl
def z1i:=@Nat.log2_lt
def z1j:=@Nat.mul_div_cancel
def z1k:=@Nat.pos_of_ne_zero
def z1l:=@Rat.mul_inv_cancel
def z1m:=@Rat.sub_eq_add_neg
def z1n:=@Bool.true_and
def z1o:=@Nat.lt_of_mul_lt_mul_right
def z1p:=@Nat.mul_lt_mul_of_lt_of_le
def z1q:=@Bool.false_or
def z1r:=@List.eraseIdx_of_length_le
def z1s:=@List.size_toArray
def z1t:=@Nat.mod_le
def z1u:=@List.mem_or_eq_of_mem_set
def z1v:=@Nat.lt_of_mul_lt_mul_left
def z1w:=@List.pairwise_iff_getElem
def z1x:=@List.map_nil
def z1y:=@Nat.succ_pos
def z1z:=@Nat.le_add_right
def z1A:=@List.set_set
def z1B:=@List.all_append
def z1C:=@Nat.le_add_left
def z1D:=@Rat.intCast_mul
def z1E:=@List.nodup_cons
def z1F:=@Nat.sub_mul
def z1G:=@Nat.gcd_rec
def z1H:=@Rat.one_mul
def z1I:=@Rat.neg_num
def z1J:=@Rat.neg_den
end Go.Proofs.Ev
namespace Go.Proofs.Ev
inductive Tr (α:Type) where
 |nil
 |node (v:Option α) (l r:Tr α)
def Tr.get{α:Type}:Tr α→Nat→Option α
 |.nil,_=>none
 |.node v l r,n=>cond (Nat.beq n 0) v (cond (Nat.beq (Nat.mod n 2) 1) (l.get (Nat.div n 2)) (r.get (Nat.pred (Nat.div n 2))))
def Tr.setF{α:Type}:Nat→Tr α→Nat→α→Tr α
 |0,t,_,_=>t
 |k+1,.nil,n,x=>cond (Nat.beq n 0) (.node (some x) .nil .nil)
  (cond (Nat.beq (Nat.mod n 2) 1) (.node none (Tr.setF k .nil (Nat.div n 2) x) .nil) (.node none .nil (Tr.setF k .nil (Nat.pred (Nat.div n 2)) x)))
 |k+1,.node v l r,n,x=>cond (Nat.beq n 0) (.node (some x) l r)
  (cond (Nat.beq (Nat.mod n 2) 1) (.node v (Tr.setF k l (Nat.div n 2) x) r) (.node v l (Tr.setF k r (Nat.pred (Nat.div n 2)) x)))
def Tr.set{α:Type}(t:Tr α)(n:Nat)(x:α):Tr α:=Tr.setF (Nat.succ n) t n x
inductive D where
 |u
 |i (k:IntKind) (n:Int)
 |b (x:Bool)
 |s (l:List UInt8)
 |n (m:Nat)
 |np
 |nf
 |tree (cs:List D) (len:Nat) (ex:Bool)
 |own (cs:List D) (len sz:Nat)
 |sl (l off len cm sz:Nat) (ex:Bool)
 |ptr (l off:Nat)
 |fp (cs:List D)
 |agg (cs:List D)
 |tup (vs:List D)
 |fn (f:Nat) (caps:List D)
 deriving Inhabited
def ll:Nat→Nat→List UInt8→List UInt8
 |0,_,acc=>acc
 |k+1,n,acc=>cond (Nat.beq n 0) acc (ll k (Nat.div n 256) (UInt8.ofNat (Nat.mod n 256)::acc))
def eo(n:Nat):List UInt8:=ll n n []
inductive Stt where
 |rw
 |frz
 |gone
 |apd
structure Blk where
 cs:List D
 st:Stt
def Stt.live:Stt→Bool
 |.gone=>false
 |_=>true
def Stt.wr:Stt→Bool
 |.rw=>true
 |_=>false
def Stt.fz:Stt→Stt
 |.rw=>.frz
 |s=>s
def Stt.own:Stt→Bool
 |.rw=>true
 |.apd=>true
 |_=>false
structure Sto where
 m:Tr Blk
 nx:Nat
def Sto.empty:Sto:=⟨.nil,0⟩
inductive X where
 |t (n:Nat)
 |c (d:D)
inductive O where
 |bad
 |mv (x:X)
 |pick (c a b:X)
 |alloc (zero:List D)
 |box (x:X)
 |build (zero:List D) (parts:List (Nat×Nat×X))
 |bsl (len:Nat) (zero:List D) (parts:List (Nat×Nat×X))
 |load1 (a:X)
 |loadn (n:Nat) (a:X)
 |store (n:Nat) (a x:X)
 |nilc (x:X)
 |isnil (neg:Bool) (x:X)
 |bin (op:BinOp) (x y:X)
 |binb (op:BinOp) (x y:X)
 |eqs (neg:Bool) (ks:List Nat) (x y:X)
 |neg (x:X)
 |not (x:X)
 |toInt (k:IntKind) (x:X)
 |sid (x:X)
 |b2s (x:X)
 |s2b (x:X)
 |mkfn (f:Nat) (caps:List X)
 |mksl (sz bytes:Nat) (zero:List D) (l c:X)
 |slice (sz:Nat) (x:X) (lo hi mx:Option X)
 |slstr (x:X) (lo hi:Option X)
 |faddr (off:Nat) (x:X)
 |field1 (off:Nat) (x:X)
 |fieldn (off n:Nat) (x:X)
 |iaddr (sz:Nat) (x i:X)
 |index (x i:X)
 |ext (x:X) (i:Nat)
 |len (x:X)
 |lens (x:X)
 |max (x y:X)
 |min (x y:X)
 |add64 (x y c:X)
 |sub64 (x y c:X)
 |call (pure:Bool) (f:X) (args:List X)
 |app (sz bytes:Nat) (x y:X)
 |pld1 (a:X)
 |pldn (n:Nat) (a:X)
 |psl (sz:Nat) (x:X) (lo hi mx:Option X)
 |pia (sz:Nat) (x i:X)
 |pbs (len:Nat) (zero:List D) (parts:List (Nat×Nat×X))
 |appk (sz bytes:Nat) (x y:X)
 |copy (sz:Nat) (x y:X)
 |clr (sz:Nat) (zero:List D) (x:X)
 |apart (a x:X)
structure Ins where
 dst:Option Nat
 gd:Option (Nat×Bool)
 op:O
inductive C where
 |bad
 |skip
 |reg (l:List Ins)
 |seq (a b:C)
 |cond (x:X) (a b:C)
 |block (id:Nat) (c:C)
 |loop (c:C)
 |exit (id:Nat)
 |ret
 |cut (ls:List Nat) (c:C)
def C.er:C→C
 |.bad=>.bad
 |.skip=>.skip
 |.reg l=>.reg l
 |.seq a b=>.seq a.er b.er
 |.cond x a b=>.cond x a.er b.er
 |.block id c=>.block id c.er
 |.loop c=>.loop c.er
 |.exit id=>.exit id
 |.ret=>.ret
 |.cut _ c=>c.er
structure Fun where
 np:Nat
 res:List (Nat×Option Nat)
 mode:Nat
 body:C
def Fun.er(F:Fun):Fun:=⟨F.np,F.res,F.mode,F.body.er⟩
inductive Ent where
 |body (F:Fun)
 |model (M:List D→Option D)
abbrev Env:=Tr D
def X.ev(e:Env):X→D
 |.t n=>match e.get n with|some d=>d|none=>.u
 |.c d=>d
def str:D→Option (List UInt8)
 |.s l=>some l
 |.n m=>some (eo m)
 |_=>none
def jr:D→List D
 |.agg cs=>cs
 |d=>[d]
def one:D→Bool
 |.agg _|.tup _|.u|.own .. =>false
 |_=>true
def ww(op:BinOp)(k:IntKind)(a b:Int):Option D:=
 match op with
 |.add=>some (.i k (k.wrap (a+b)))
 |.sub=>some (.i k (k.wrap (a-b)))
 |.mul=>some (.i k (k.wrap (a*b)))
 |.quo=>if b=0 then none else some (.i k (k.wrap (a.tdiv b)))
 |.rem=>if b=0 then none else some (.i k (a.tmod b))
 |.and=>some (.i k (k.wrap (BitVec.ofInt k.bits a&&&BitVec.ofInt k.bits b).toNat))
 |.or=>some (.i k (k.wrap (BitVec.ofInt k.bits a|||BitVec.ofInt k.bits b).toNat))
 |.xor=>some (.i k (k.wrap (BitVec.ofInt k.bits a^^^BitVec.ofInt k.bits b).toNat))
 |.andNot=>some (.i k (k.wrap (BitVec.ofInt k.bits a&&& ~~~BitVec.ofInt k.bits b).toNat))
 |.eql=>some (.b (a==b))
 |.neq=>some (.b (a != b))
 |.lss=>some (.b (decide (a<b)))
 |.leq=>some (.b (decide (a≤b)))
 |.gtr=>some (.b (decide (a>b)))
 |.geq=>some (.b (decide (a≥b)))
 |_=>none
def R4(op:BinOp)(x y:List UInt8):Option D:=
 match op with
 |.eql=>some (.b (x==y))
 |.neq=>some (.b (!(x==y)))
 |.lss=>some (.b (Op.bytesLess x y))
 |.leq=>some (.b (Op.bytesLess x y||x==y))
 |.gtr=>some (.b (!(Op.bytesLess x y||x==y)))
 |.geq=>some (.b (!Op.bytesLess x y))
 |_=>none
def bin(op:BinOp)(x y:D):Option D:=
 match x,y with
 |.i k a,.i k' b=>
  match op with
  |.shl=>if b<0 then none else some (.i k (k.wrap (a*2^(Nat.min b.toNat k.bits))))
  |.shr=>if b<0 then none else some (.i k (a.fdiv (2^(Nat.min b.toNat k.bits))))
  |op=>if k=k' then ww op k a b else none
 |.n a,.n b=>
  match op with
  |.eql=>some (.b (Nat.beq a b))
  |.neq=>some (.b (!(Nat.beq a b)))
  |op=>R4 op (eo a) (eo b)
 |x,y=>
  match str x,str y with
  |some a,some b=>R4 op a b
  |_,_=>none
def eq1:Nat→D→D→Option Bool
 |0,.i k a,.i k' b=>if k=k' then some (a==b)else none
 |1,.b a,.b b=>some (a==b)
 |2,x,y=>match x,y with
  |.n a,.n b=>some (Nat.beq a b)
  |x,y=>match str x,str y with
   |some a,some b=>some (a==b)
   |_,_=>none
 |_,_,_=>none
def eqL:List Nat→List D→List D→Option Bool
 |[],[],[]=>some true
 |k::ks,x::xs,y::ys=>match eq1 k x y with
  |some true=>eqL ks xs ys
  |some false=>some false
  |none=>none
 |_,_,_=>none
def cut(off n:Nat)(cs:List D):Option (List D):=
 let r:=(cs.drop off).take n
 if r.length=n then some r else none
def lay(off:Nat)(new cs:List D):Option (List D):=
 if off+new.length≤cs.length then some (cs.take off++new++cs.drop (off+new.length))else none
def trD:D→Bool
 |.i .. =>true
 |.b _=>true
 |.s _=>true
 |.n _=>true
 |.np=>true
 |.nf=>true
 |.tree .. =>true
 |.fp _=>true
 |_=>false
def fill(ev:X→D):List (Nat×Nat×X)→List D→Option (List D)
 |[],cs=>some cs
 |(off,sz,x)::r,cs=>
  let new:=jr (ev x)
  if new.length=sz&&new.all one then
   match lay off new cs with
   |some cs=>fill ev r cs
   |none=>none
  else none
def oG(n:Nat)(zero:List D):List D:=
 match n with
 |0=>[]
 |n+1=>zero++oG n zero
def rQ(ev:X→D)(x:Option X)(dflt:Nat):Option Nat:=
 match x with
 |none=>some dflt
 |some x=>match ev x with
  |.i _ n=>if 0≤n then some n.toNat else none
  |_=>none
def at_(g:Nat→Option Blk):D→Option (List D)
 |.ptr l off=>match g l with
  |some b=>if !b.st.live then none else some (b.cs.drop off)
  |none=>none
 |.fp cs=>some cs
 |_=>none
def cellsOf(g:Nat→Option Blk)(sz:Nat):D→Option (List D)
 |.sl l off len _ z _=>match g l with
  |some b=>if !b.st.live then none else if z=sz then cut off (len*sz) b.cs else none
  |none=>none
 |.tree cs len _=>if cs.length=len*sz then some cs else none
 |_=>none
def lenOf:D→Option Nat
 |.sl _ _ len _ _ _=>some len
 |.tree _ len _=>some len
 |_=>none
def ef:List UInt8→Nat→Nat
 |[],acc=>acc
 |c::l,acc=>ef l (acc*256+c.toNat)
def SJ(l:List UInt8):D:=
 match l with
 |[]=>.n 0
 |c::r=>cond (Nat.beq c.toNat 0) (.s l) (.n (ef l 0))
def wq:List D→Option (List UInt8)
 |[]=>some []
 |.i .u8 n::r=>match wq r with
  |some l=>some (UInt8.ofNat n.toNat::l)
  |none=>none
 |_=>none
def evA(nx:Nat)(ev:X→D)(g:Nat→Option Blk):O→Option (D×List Blk)
 |.mv x=>some (ev x,[])
 |.pick c a b=>match ev c with
  |.b true=>some (ev a,[])
  |.b false=>some (ev b,[])
  |_=>none
 |.alloc zero=>some (.ptr nx 0,[⟨zero,.rw⟩])
 |.box x=>
  let cs:=jr (ev x)
  if cs.all one then some (.ptr nx 0,[⟨cs,.rw⟩])else none
 |.build zero parts=>match fill ev parts zero with
  |some cs=>some (.agg cs,[])
  |none=>none
 |.bsl len zero parts=>match fill ev parts (oG len zero)with
  |some cs=>some (.sl nx 0 len len zero.length true,[⟨cs,.rw⟩])
  |none=>none
 |.load1 a=>match at_ g (ev a)with
  |some (d::_)=>some (d,[])
  |_=>none
 |.loadn n a=>match at_ g (ev a)with
  |some cs=>match cut 0 n cs with
   |some r=>some (.agg r,[])
   |none=>none
  |none=>none
 |.nilc x=>match ev x with
  |.ptr l o=>match g l with
   |some b=>if b.st.live then some (.ptr l o,[])else none
   |none=>none
  |.fp cs=>some (.fp cs,[])
  |.fn f cs=>some (.fn f cs,[])
  |_=>none
 |.isnil neg x=>match ev x with
  |.sl l o len cm z ex=>match g l with
   |some b=>if b.st.live then some (.b neg,[])else none
   |none=>none
  |.tree cs len ex=>match cs with
   |[]=>none
   |_::_=>some (.b neg,[])
  |_=>none
 |.bin op x y=>match bin op (ev x) (ev y)with
  |some d=>some (d,[])
  |none=>none
 |.binb op x y=>match ev x,ev y with
  |.b p,.b q=>match op with
   |.eql=>some (.b (p==q),[])
   |.neq=>some (.b (!(p==q)),[])
   |_=>none
  |_,_=>none
 |.eqs neg ks x y=>match ev x,ev y with
  |.agg a,.agg b=>if a.length=ks.length&&b.length=ks.length then match eqL ks a b with
   |some r=>some (.b (if neg then !r else r),[])
   |none=>none
   else none
  |_,_=>none
 |.neg x=>match ev x with
  |.i k n=>some (.i k (k.wrap (0-n)),[])
  |_=>none
 |.not x=>match ev x with
  |.b p=>some (.b (!p),[])
  |_=>none
 |.toInt k x=>match ev x with
  |.i _ n=>some (.i k (k.wrap n),[])
  |_=>none
 |.sid x=>match str (ev x)with
  |some _=>some (ev x,[])
  |none=>none
 |.b2s x=>match cellsOf g 1 (ev x)with
  |some cs=>match wq cs with
   |some l=>some (SJ l,[])
   |none=>none
  |none=>none
 |.s2b x=>match str (ev x)with
  |some l=>some (.sl nx 0 l.length l.length 1 false,[⟨l.map λc=>.i .u8 c.toNat,.rw⟩])
  |none=>none
 |.mkfn f caps=>some (.fn f (caps.map ev),[])
 |.mksl sz bytes zero l c=>match ev l,ev c with
  |.i .i64 l,.i .i64 c=>
   if 0≤l&&l≤c&&c≤140737488355328&&c*bytes≤140737488355328&&zero.length=sz then
    some (.sl nx 0 l.toNat c.toNat sz true,[⟨oG c.toNat zero,.rw⟩])
   else none
  |_,_=>none
 |.slice sz x lo hi mx=>match ev x with
  |.sl l off len cm z ex=>
   match rQ ev mx cm,rQ ev hi len,rQ ev lo 0,g l with
   |some m,some h,some lw,some b=>
    if b.st.live&&m≤cm&&h≤m&&lw≤h&&z=sz then
     if lw<m then some (.sl l (off+lw*sz) (h-lw) (m-lw) sz (mx.isSome||ex),[])
     else some (.tree [] 0 (mx.isSome||ex),[])
    else none
   |_,_,_,_=>none
  |.tree cs len ex=>
   match rQ ev mx len,rQ ev hi len,rQ ev lo 0 with
   |some m,some h,some lw=>
    if m≤len&&h≤m&&lw≤h&&cs.length=len*sz then
     some (.tree ((cs.drop (lw*sz)).take ((h-lw)*sz)) (h-lw) ((mx.isSome&&m==h)||(!mx.isSome&&ex&&h==len)),[])
    else none
   |_,_,_=>none
  |_=>none
 |.slstr x lo hi=>match str (ev x)with
  |some l=>match rQ ev hi l.length,rQ ev lo 0 with
   |some h,some lw=>if h≤l.length&&lw≤h then some (.s ((l.drop lw).take (h-lw)),[])else none
   |_,_=>none
  |none=>none
 |.faddr off x=>match ev x with
  |.ptr l o=>match g l with
   |some b=>if b.st.live then some (.ptr l (o+off),[])else none
   |none=>none
  |.fp cs=>some (.fp (cs.drop off),[])
  |_=>none
 |.field1 off x=>match ev x with
  |.agg cs=>match cs.drop off with
   |d::_=>some (d,[])
   |[]=>none
  |_=>none
 |.fieldn off n x=>match ev x with
  |.agg cs=>match cut off n cs with
   |some r=>some (.agg r,[])
   |none=>none
  |_=>none
 |.iaddr sz x i=>match ev i with
  |.i _ n=>match ev x with
   |.sl l off len _ z _=>match g l with
    |some b=>if b.st.live&&0≤n&&n<len&&z=sz then some (.ptr l (off+n.toNat*sz),[])else none
    |none=>none
   |.tree cs len _=>if 0≤n&&n<len then match cs.drop (n.toNat*sz)with
    |[]=>none
    |d::r=>some (.fp (d::r),[])
    else none
   |_=>none
  |_=>none
 |.index x i=>match ev i,str (ev x)with
  |.i _ n,some l=>if 0≤n then match l.drop n.toNat with
   |c::_=>some (.i .u8 c.toNat,[])
   |[]=>none
   else none
  |_,_=>none
 |.ext x i=>match ev x with
  |.tup vs=>match vs.drop i with
   |d::_=>some (d,[])
   |[]=>none
  |_=>none
 |.len x=>match lenOf (ev x)with
  |some n=>some (.i .i64 n,[])
  |none=>none
 |.lens x=>match str (ev x)with
  |some l=>some (.i .i64 l.length,[])
  |none=>none
 |.max x y=>match ev x,ev y with
  |.i k a,.i k' b=>if k=k' then some (.i k (if b>a then b else a),[])else none
  |_,_=>none
 |.min x y=>match ev x,ev y with
  |.i k a,.i k' b=>if k=k' then some (.i k (if b<a then b else a),[])else none
  |_,_=>none
 |.add64 x y c=>match ev x,ev y,ev c with
  |.i .u64 a,.i .u64 b,.i .u64 c=>
   if c.toNat≤1 then some (.tup [.i .u64 (Int.ofNat ((a.toNat+b.toNat+c.toNat)%2^64)),.i .u64 (Int.ofNat ((a.toNat+b.toNat+c.toNat)/2^64))],[])else none
  |_,_,_=>none
 |.sub64 x y c=>match ev x,ev y,ev c with
  |.i .u64 a,.i .u64 b,.i .u64 c=>
   if c.toNat≤1 then some (.tup [.i .u64 (Int.ofNat ((a.toNat+2^64-b.toNat-c.toNat)%2^64)),.i .u64 (Int.ofNat (if a.toNat<b.toNat+c.toNat then 1 else 0))],[])else none
  |_,_,_=>none
 |.pld1 a=>match ev a with
  |.fp (d::_)=>some (d,[])
  |_=>none
 |.pldn n a=>match ev a with
  |.fp cs=>match cut 0 n cs with
   |some r=>some (.agg r,[])
   |none=>none
  |_=>none
 |.psl sz x lo hi mx=>match ev x with
  |.tree cs len ex=>
   match rQ ev mx len,rQ ev hi len,rQ ev lo 0 with
   |some m,some h,some lw=>
    if m≤len&&h≤m&&lw≤h&&cs.length=len*sz then
     some (.tree ((cs.drop (lw*sz)).take ((h-lw)*sz)) (h-lw) ((mx.isSome&&m==h)||(!mx.isSome&&ex&&h==len)),[])
    else none
   |_,_,_=>none
  |_=>none
 |.pia sz x i=>match ev i with
  |.i _ n=>match ev x with
   |.tree cs len _=>if 0≤n&&n<len then match cs.drop (n.toNat*sz)with
    |[]=>none
    |d::r=>some (.fp (d::r),[])
    else none
   |_=>none
  |_=>none
 |.pbs len zero parts=>match fill ev parts (oG len zero)with
  |some cs=>if cs.all trD then some (.tree cs len true,[])else none
  |none=>none
 |.apart a x=>match ev a,ev x with
  |.fp _,_=>some (.u,[])
  |.ptr l _,.sl l' _ _ _ _ _=>if l=l' then none else some (.u,[])
  |.ptr l _,.ptr l' _=>if l=l' then none else some (.u,[])
  |.ptr _ _,.tree .. =>some (.u,[])
  |_,_=>none
 |_=>none
def Sto.get(σ:Sto)(l:Nat):Option Blk:=σ.m.get l
def Sto.put(σ:Sto)(l:Nat)(b:Blk):Sto:=⟨σ.m.set l b,σ.nx⟩
def Sto.adds(σ:Sto):List Blk→Sto
 |[]=>σ
 |b::bs=>Sto.adds ⟨σ.m.set σ.nx b,Nat.succ σ.nx⟩ bs
def sJ(ev:X→D)(σ:Sto)(sz bytes:Nat)(x y:X):Option (D×Sto):=
 match cellsOf σ.get sz (ev y),lenOf (ev y)with
 |some new,some n=>
  match ev x with
  |.tree cs len ex=>
   if n=0 then some (.tree cs len ex,σ)
   else if ex&&cs.length=len*sz&&(len+n)*bytes≤1099511627776&&len+n≤1099511627776 then
    some (.sl σ.nx 0 (len+n) (len+n) sz false,σ.adds [⟨cs++new,.rw⟩])
   else none
  |.sl l off len cm z ex=>match σ.get l with
   |some b=>
    if b.st.wr&&z=sz&&new.all one&&(len+n)*bytes≤1099511627776&&len+n≤1099511627776 then
     if len+n≤cm then
      match lay (off+len*sz) new b.cs with
      |some cs=>some (.sl l off (len+n) cm sz ex,σ.put l ⟨cs,.rw⟩)
      |none=>none
     else match cut off (len*sz) b.cs with
      |some old=>
       let σ':=if ex then σ else σ.put l ⟨[],.gone⟩
       some (.sl σ.nx 0 (len+n) (len+n) sz false,σ'.adds [⟨old++new,.rw⟩])
      |none=>none
    else none
   |none=>none
  |_=>none
 |_,_=>none
def evW(ev:X→D)(σ:Sto):O→Option (D×Sto)
 |.store n a x=>match ev a with
  |.ptr l off=>match σ.get l with
   |some b=>
    let new:=jr (ev x)
    if b.st.wr&&new.length=n&&new.all one then
     match lay off new b.cs with
     |some cs=>some (.u,σ.put l ⟨cs,.rw⟩)
     |none=>none
    else none
   |none=>none
  |_=>none
 |.app sz bytes x y=>sJ ev σ sz bytes x y
 |.appk sz bytes x y=>match ev x with
  |.sl l off len cm z false=>match cellsOf σ.get sz (ev y),lenOf (ev y),σ.get l with
   |some new,some n,some b=>
    if b.st.own&&z=sz&&new.all one&&(len+n)*bytes≤1099511627776&&len+n≤1099511627776&&off+len*sz=b.cs.length then
     match cut off (len*sz) b.cs with
     |some old=>some (.sl σ.nx 0 (len+n) (len+n) sz false,(σ.put l ⟨b.cs,.frz⟩).adds [⟨old++new,.apd⟩])
     |none=>none
    else none
   |_,_,_=>none
  |_=>match sJ ev σ sz bytes x y with
   |some (.sl l off len cm z ex,σ')=>if Nat.beq l σ.nx then match σ'.get l with
    |some b=>if b.st.own then some (.sl l off len cm z ex,σ'.put l ⟨b.cs,.apd⟩)else none
    |none=>none
    else some (.sl l off len cm z ex,σ')
   |r=>r
 |.copy sz x y=>match ev x,lenOf (ev y)with
  |.sl l off len _ z _,some n=>match σ.get l,cellsOf σ.get sz (ev y)with
   |some b,some src=>
    let k:=Nat.min n len
    if b.st.wr&&z=sz&&src.all one then
     match lay off (src.take (k*sz)) b.cs with
     |some cs=>some (.i .i64 k,σ.put l ⟨cs,.rw⟩)
     |none=>none
    else none
   |_,_=>none
  |_,_=>none
 |.clr sz zero x=>match ev x with
  |.sl l off len _ z _=>match σ.get l with
   |some b=>
    if b.st.wr&&zero.length=sz&&z=sz&&zero.all one then
     match lay off (oG len zero) b.cs with
     |some cs=>some (.u,σ.put l ⟨cs,.rw⟩)
     |none=>none
    else none
   |none=>none
  |.tree _ 0 _=>some (.u,σ)
  |_=>none
 |_=>none
def iP{α β:Type}(f:α→Option (β×List Nat)):List α→Option (List β×List Nat)
 |[]=>some ([],[])
 |x::xs=>match f x with
  |some (y,a)=>match iP f xs with
   |some (ys,b)=>some (y::ys,a++b)
   |none=>none
  |none=>none
def res(g:Nat→Option Blk):Nat→D→Option (D×List Nat)
 |0,_=>none
 |k+1,d=>match d with
  |.u=>none
  |.own .. =>none
  |.sl l off len cm z ex=>match g l with
   |some b=>if !b.st.live then none else match cut off (len*z) b.cs with
    |some r=>match iP (res g k) r with
     |some (cs,ls)=>some (.tree cs len (ex&&cm==len),l::ls)
     |none=>none
    |none=>none
   |none=>none
  |.ptr l off=>match g l with
   |some b=>if !b.st.live then none else match iP (res g k) (b.cs.drop off)with
    |some (cs,ls)=>some (.fp cs,l::ls)
    |none=>none
   |none=>none
  |.agg cs=>match iP (res g k) cs with
   |some (cs,ls)=>some (.agg cs,ls)
   |none=>none
  |.tup cs=>match iP (res g k) cs with
   |some (cs,ls)=>some (.tup cs,ls)
   |none=>none
  |.fn f cs=>match iP (res g k) cs with
   |some (cs,ls)=>some (.fn f cs,ls)
   |none=>none
  |d=>some (d,[])
def yi:Option (D×List Nat)→Option (D×List Nat×List Nat)
 |some (d,ls)=>some (d,[],ls)
 |none=>none
def tN(own:Bool)(g:Nat→Option Blk)(k:Nat)(d:D):Option (D×List Nat×List Nat):=
 match own,d with
 |true,.sl l off len _ z _=>match g l with
  |some b=>if b.st.wr then match cut off (len*z) b.cs with
   |some r=>match iP (res g k) r with
    |some (cs,ls)=>some (.own cs len z,[l],ls)
    |none=>none
   |none=>none
   else yi (res g k d)
  |none=>none
 |_,d=>yi (res g k d)
def nu(own:Bool)(g:Nat→Option Blk)(k:Nat)(d:D):Option D:=
 match d with
 |.tup (d::ds)=>match tN own g k d,iP (res g k) ds with
  |some (d,o,ls),some (ds,ls')=>if o.all λl=> !(ls++ls').contains l then some (.tup (d::ds))else none
  |_,_=>none
 |d=>match tN own g k d with
  |some (d,o,ls)=>if o.all λl=> !ls.contains l then some d else none
  |none=>none
def mat(nx:Nat):D→D×List Blk
 |.own cs len z=>(.sl nx 0 len len z false,[⟨cs,.rw⟩])
 |.tup (.own cs len z::ds)=>(.tup (.sl nx 0 len len z false::ds),[⟨cs,.rw⟩])
 |d=>(d,[])
def Sto.frz(σ:Sto):List Nat→Sto
 |[]=>σ
 |l::ls=>match σ.get l with
  |some b=>Sto.frz (σ.put l ⟨b.cs,b.st.fz⟩) ls
  |none=>Sto.frz σ ls
def ot:D→Bool
 |.i .. =>true
 |.b _=>true
 |.s _=>true
 |.n _=>true
 |.np=>true
 |.nf=>true
 |_=>false
def tL:D→Bool
 |.agg cs=>cs.all ot
 |d=>ot d
def tM:D→Bool
 |.agg cs=>cs.all ot
 |.tup cs=>cs.all tL
 |d=>ot d
def fin(σ:Sto)(ls:List Nat)(r:D):D×Sto:=
 match tM r with
 |true=>(r,σ)
 |false=>((mat σ.nx r).1,(σ.frz ls).adds (mat σ.nx r).2)
inductive Ex where
 |nrm
 |exit (id:Nat)
 |ret
inductive Job where
 |code (c:C) (e:Env) (σ:Sto)
 |ops (l:List Ins) (e:Env) (σ:Sto)
 |call (p:Bool) (f:D) (args:List D) (σ:Sto)
inductive Out where
 |code (x:Ex) (e:Env) (σ:Sto)
 |val (d:D) (σ:Sto)
def put(e:Env):Option Nat→D→Env
 |some t,d=>e.set t d
 |none,_=>e
def rM:Env→Nat→List D→Env
 |e,_,[]=>e
 |e,t,d::ds=>rM (e.set t d) (Nat.succ t) ds
def xm(e:Env)(σ:Sto):Nat×Option Nat→Option D
 |(t,none)=>e.get t
 |(t,some n)=>match e.get t with
  |some a=>match at_ σ.get a with
   |some cs=>match n with
    |0=>match cs with
     |d::_=>some d
     |[]=>none
    |n=>match cut 0 n cs with
     |some r=>some (.agg r)
     |none=>none
   |none=>none
  |none=>none
def um(e:Env)(σ:Sto):List (Nat×Option Nat)→Option (List D)
 |[]=>some []
 |r::rs=>match xm e σ r,um e σ rs with
  |some d,some ds=>some (d::ds)
  |_,_=>none
def qI(e:Env)(σ:Sto)(rs:List (Nat×Option Nat)):Option D:=
 match um e σ rs with
 |some [d]=>some d
 |some ds=>some (.tup ds)
 |none=>none
def fv:Nat:=60
def wd:List Nat→Env→Env
 |[],_=>.nil
 |t::ls,e=>match e.get t with
  |some d=>(wd ls e).set t d
  |none=>wd ls e
def gdv(e:Env):Option (Nat×Bool)→Option Bool
 |none=>some true
 |some (t,want)=>match e.get t with
  |some (.b p)=>some (p==want)
  |some (.tup _)=>some false
  |_=>none
def run(Δ:Tr Ent):Nat→Job→Option Out
 |0,_=>none
 |k+1,.code c e σ=>match c with
  |.bad=>none
  |.skip=>some (.code .nrm e σ)
  |.reg l=>run Δ k (.ops l e σ)
  |.seq a b=>match run Δ k (.code a e σ)with
   |some (.code .nrm e σ)=>run Δ k (.code b e σ)
   |r=>r
  |.cond x a b=>match x.ev e with
   |.b true=>run Δ k (.code a e σ)
   |.b false=>run Δ k (.code b e σ)
   |_=>none
  |.block id c=>match run Δ k (.code c e σ)with
   |some (.code (.exit j) e σ)=>cond (Nat.beq j id) (some (.code .nrm e σ)) (some (.code (.exit j) e σ))
   |r=>r
  |.loop c=>match run Δ k (.code c e σ)with
   |some (.code .nrm e σ)=>run Δ k (.code (.loop c) e σ)
   |r=>r
  |.exit id=>some (.code (.exit id) e σ)
  |.ret=>some (.code .ret e σ)
  |.cut ls c=>run Δ k (.code c (wd ls e) σ)
 |_+1,.ops [] e σ=>some (.code .nrm e σ)
 |k+1,.ops (i::l) e σ=>
  match gdv e i.gd with
  |none=>none
  |some false=>run Δ k (.ops l (put e i.dst (.tup [])) σ)
  |some true=>match i.op with
   |.call p f as=>match run Δ k (.call p (f.ev e) (as.map (X.ev e)) σ)with
    |some (.val d σ)=>run Δ k (.ops l (put e i.dst d) σ)
    |_=>none
   |o=>match evA σ.nx (X.ev e) σ.get o with
    |some (d,bs)=>run Δ k (.ops l (put e i.dst d) (σ.adds bs))
    |none=>match evW (X.ev e) σ o with
     |some (d,σ)=>run Δ k (.ops l (put e i.dst d) σ)
     |none=>none
 |k+1,.call p f as σ=>match f with
  |.fn f caps=>match Δ.get f with
   |none=>none
   |some (.model M)=>match iP (res σ.get fv) (as++caps)with
    |some (as,ls)=>match M as with
     |some r=>some (.val (fin σ ls r).1 (fin σ ls r).2)
     |none=>none
    |none=>none
   |some (.body F)=>match !p&&Nat.beq F.mode 2 with
    |true=>match run Δ k (.code F.body (rM .nil 0 (as++caps)) σ)with
     |some (.code x e σ)=>match x with
      |.exit _=>none
      |_=>match qI e σ F.res with
       |some d=>some (.val d σ)
       |none=>none
     |_=>none
    |false=>match iP (res σ.get fv) (as++caps)with
     |some (as,ls)=>match run Δ k (.code F.body (rM .nil 0 as) Sto.empty)with
      |some (.code x e σ')=>match x with
       |.exit _=>none
       |_=>match qI e σ' F.res with
        |some d=>match nu (!Nat.beq F.mode 0) σ'.get fv d with
         |some r=>some (.val (fin σ ls r).1 (fin σ ls r).2)
         |none=>none
        |none=>none
      |_=>none
     |none=>none
  |_=>none
def Yk(l:List UInt8):D:=if eo (ef l 0)=l then .n (ef l 0)else .s l
def cV1:Value→D
 |.int k n=>.i k n
 |.bool b=>.b b
 |.string s=>Yk s.data.toList
 |.pointer none=>.np
 |.nilFunc=>.nf
 |.slice none 0 0=>.tree [] 0 true
 |_=>.u
def cV:Value→D
 |.agg cs=>.agg (cs.toList.map cV1)
 |v=>cV1 v
def zc(v:Value):List D:=v.cells.toList.map cV1
section
variable (P:Program) (im:Nat→Option Nat)
def cX:Operand→X
 |.tmp t=>.t t
 |.const v=>.c (cV v)
 |.func f=>match im f with
  |some k=>.c (.fn k [])
  |none=>.c .u
 |.global _=>.c .u
def il(t:TypeId):Nat:=match P.info? t with
 |some i=>i.size
 |none=>0
def Ck(t:TypeId):Nat:=match P.info? t with
 |some i=>i.bytes
 |none=>0
def pX(t:TypeId):Option Value:=match P.info? t with
 |some i=>i.zero
 |none=>none
def Ct(t:TypeId):Bool:=match P.underlying t with
 |some (.struct _)=>true
 |some (.array _ _)=>true
 |_=>false
def yx(f:TypeId→Option (List Nat)):Nat→List Field→Option (List Nat)
 |_,[]=>some []
 |pos,fd::fs=>if fd.name= "_" then none else if fd.offset≠pos then none else match f fd.type with
  |some l=>match yx f (pos+l.length) fs with
   |some r=>some (l++r)
   |none=>none
  |none=>none
def vj:Nat→TypeId→Option (List Nat)
 |0,_=>none
 |d+1,t=>match P.underlying t with
  |some .bool=>if il P t=1 then some [1]else none
  |some (.int _)=>if il P t=1 then some [0]else none
  |some .string=>if il P t=1 then some [2]else none
  |some (.struct fs)=>if P.stoodInHeld t then none else match yx (vj d) 0 fs.toList with
   |some l=>if l.length=il P t then some l else none
   |none=>none
  |_=>none
def Ci(places:List (Nat×Nat)):List (Nat×Operand)→Option (List (Nat×Nat×X))
 |[]=>some []
 |(i,x)::r=>match places[i]?,Ci places r with
  |some p,some l=>some ((p.1,p.2,cX im x)::l)
  |_,_=>none
def gf(c:Call):O:=
 match c.callee with
 |.invoke .. =>.bad
 |.value f=>
  match f with
  |.func F=>match P.funcs[F]?with
   |some fn=>
    if fn.body.isNone&&fn.origin== "" then
     if fn.name== "math/bits.Add64" then match c.args.toList with
      |[x,y,z]=>.add64 (cX im x) (cX im y) (cX im z)
      |_=>.bad
     else if fn.name== "math/bits.Sub64" then match c.args.toList with
      |[x,y,z]=>.sub64 (cX im x) (cX im y) (cX im z)
      |_=>.bad
     else .bad
    else if fn.body.isNone then .bad else .call false (cX im f) (c.args.toList.map (cX im))
   |none=>.bad
  |.tmp t=>.call false (.t t) (c.args.toList.map (cX im))
  |_=>.bad
 |.builtin b=>match b,c.args.toList,c.argTypes.toList with
  |.len,[x],[t]=>match P.underlying t with
   |some .string=>.lens (cX im x)
   |some (.slice _)=>.len (cX im x)
   |_=>.bad
  |.append,[x,y],[t,u]=>match P.underlying t,P.underlying u with
   |some (.slice el),some (.slice _)=>match pX P el with
    |some z=>if 0<il P el&&(zc z).length==il P el then .app (il P el) (Ck P el) (cX im x) (cX im y)else .bad
    |none=>.bad
   |_,_=>.bad
  |.copy,[x,y],[t,u]=>match P.underlying t,P.underlying u with
   |some (.slice el),some (.slice _)=>if 0<il P el then .copy (il P el) (cX im x) (cX im y)else .bad
   |_,_=>.bad
  |.clear,[x],[t]=>match P.underlying t with
   |some (.slice el)=>match pX P el with
    |some z=>.clr (il P el) (zc z) (cX im x)
    |none=>.bad
   |_=>.bad
  |.max,[x,y],_=>.max (cX im x) (cX im y)
  |.min,[x,y],_=>.min (cX im x) (cX im y)
  |_,_,_=>.bad
def YM:Value→Bool
 |.slice none 0 0=>true
 |_=>false
def TO:Operand→Bool
 |.const v=>YM v
 |_=>false
def cOp(o:Op):O:=
 match o with
 |.move x=>.mv (cX im x)
 |.assign x=>.mv (cX im x)
 |.pick c a b=>.pick (cX im c) (cX im a) (cX im b)
 |.alloc el=>match pX P el with
  |some z=>.alloc (zc z)
  |none=>.bad
 |.box _ x=>.box (cX im x)
 |.build t parts=>match P.underlying t,pX P t with
  |some (.struct fs),some z=>match fs.toList.mapM (λf=>(P.info? f.type).map λi=>(f.offset,i.size))with
   |some places=>match Ci im places parts.toList with
    |some l=>.build (zc z) l
    |none=>.bad
   |none=>.bad
  |_,_=>.bad
 |.buildSlice t len parts=>match P.underlying t with
  |some (.slice el)=>match pX P el with
   |some z=>if len*il P el≤16777216&&(zc z).length==il P el&&0<il P el then
    .bsl len (zc z) (parts.toList.map λp=>(p.1*il P el,il P el,cX im p.2))else .bad
   |none=>.bad
  |_=>.bad
 |.load t a=>match P.underlying t with
  |none=>.bad
  |some _=>if Ct P t then .loadn (il P t) (cX im a)else .load1 (cX im a)
 |.store t a x=>match P.info? t with
  |none=>.bad
  |some i=>.store i.size (cX im a) (cX im x)
 |.nilCheck x=>.nilc (cX im x)
 |.binOp op t x y _=>match P.underlying t with
  |some (.struct _)=>match op with
   |.eql=>if P.eqGuardType P.depth t then .bad else match vj P 8 t with
    |some ks=>.eqs false ks (cX im x) (cX im y)
    |none=>.bad
   |.neq=>if P.eqGuardType P.depth t then .bad else match vj P 8 t with
    |some ks=>.eqs true ks (cX im x) (cX im y)
    |none=>.bad
   |_=>.bad
  |some (.slice _)=>if TO y then match op with
   |.eql=>.isnil false (cX im x)
   |.neq=>.isnil true (cX im x)
   |_=>.bad
   else .bad
  |some .bool=>.binb op (cX im x) (cX im y)
  |some .string=>.bin op (cX im x) (cX im y)
  |some (.int _)=>.bin op (cX im x) (cX im y)
  |_=>.bad
 |.unOp op _ x=>match op with
  |.neg=>.neg (cX im x)
  |.not=>.not (cX im x)
  |_=>.bad
 |.convert s d x=>match P.underlying s,P.underlying d with
  |some (.int _),some (.int k)=>.toInt k (cX im x)
  |some .string,some .string=>.sid (cX im x)
  |some (.slice e),some .string=>match P.underlying e with
   |some (.int .u8)=>.b2s (cX im x)
   |_=>.bad
  |some .string,some (.slice e)=>match P.underlying e with
   |some (.int .u8)=>.s2b (cX im x)
   |_=>.bad
  |_,_=>.bad
 |.makeFunc (.func f) first caps=>match im f,first.toList with
  |some k,[]=>.mkfn k (caps.toList.map (cX im))
  |_,_=>.bad
 |.makeSlice t l c=>match P.underlying t with
  |some (.slice el)=>match pX P el with
   |some z=>if(zc z).length==il P el&&0<il P el then .mksl (il P el) (Ck P el) (zc z) (cX im l) (cX im c)else .bad
   |none=>.bad
  |_=>.bad
 |.slice t x lo hi mx=>match P.underlying t with
  |some (.slice el)=>if(hi.isNone&&mx.isSome)||il P el=0 then .bad else .slice (il P el) (cX im x) (lo.map (cX im)) (hi.map (cX im)) (mx.map (cX im))
  |some .string=>if mx.isSome then .bad else .slstr (cX im x) (lo.map (cX im)) (hi.map (cX im))
  |_=>.bad
 |.fieldAddr s x f=>match P.underlying s with
  |some (.struct fs)=>match fs[f]?with
   |some f=>if il P f.type=0 then .bad else .faddr f.offset (cX im x)
   |none=>.bad
  |_=>.bad
 |.field s x f=>match P.underlying s with
  |some (.struct fs)=>match fs[f]?with
   |some f=>match P.underlying f.type with
    |some _=>if Ct P f.type then .fieldn f.offset (il P f.type) (cX im x)else .field1 f.offset (cX im x)
    |none=>.bad
   |none=>.bad
  |_=>.bad
 |.indexAddr t x i=>match P.underlying t with
  |some (.slice el)=>if il P el=0 then .bad else .iaddr (il P el) (cX im x) (cX im i)
  |_=>.bad
 |.index t x i=>match P.underlying t with
  |some .string=>.index (cX im x) (cX im i)
  |_=>.bad
 |.extract x i=>.ext (cX im x) i
 |.call c=>gf P im c
 |_=>.bad
def cGd(ops:List Oper):Option (Nat×Bool)→Option (Option (Nat×Bool))
 |none=>some none
 |some (j,want)=>match ops[j]?with
  |some q=>match q.dst with
   |some t=>some (some (t,want))
   |none=>none
  |none=>none
def Jc(nt:Nat):Option Nat→O→O
 |some t,q=>if t<nt then q else .bad
 |none,q=>q
def uf:Nat:=1000000
def puO:O→O
 |.load1 a=>.pld1 a
 |.loadn n a=>.pldn n a
 |.slice sz x a b c=>.psl sz x a b c
 |.iaddr sz x i=>.pia sz x i
 |.bsl n z l=>.pbs n z l
 |q=>q
def puB:O→O
 |.bsl n z l=>if z.length=1 then .bsl n z l else .pbs n z l
 |q=>puO q
def kpO(nt:Nat)(q:O):O:=
 if 3*uf≤nt then puB q else if 2*uf≤nt then puO q else match q with
 |.app sz bytes x y=>if uf≤nt then .appk sz bytes x y else .app sz bytes x y
 |q=>q
def sG(nt:Nat)(ops:List Oper)(o:Oper):Ins:=
 match cGd ops o.guard with
 |none=>⟨o.dst,none,.bad⟩
 |some gd=>⟨o.dst,gd,Jc (nt%uf) o.dst (kpO nt (cOp P im o.op))⟩
def wu(A:List Nat):List Edge→Nat
 |[]=>0
 |e::r=>if Region.binds .any e then(2^e.on|||(A[e.on]?).getD 0)|||wu A r else wu A r
def Am(A:List Nat):List Oper→List Nat
 |[]=>[]
 |o::r=>wu A o.after.toList::Am (A++[wu A o.after.toList]) r
def uE(ops:List Oper):List Nat:=Am [] ops
def xT:X→List Nat
 |.t n=>[n]
 |.c _=>[]
def xsT(l:List X):List Nat:=l.flatMap xT
def oT:Option X→List Nat
 |some x=>xT x
 |none=>[]
def O.reads:O→List Nat
 |.bad=>[]
 |.mv x=>xT x
 |.pick c a b=>xsT [c,a,b]
 |.alloc _=>[]
 |.box x=>xT x
 |.build _ l=>xsT (l.map (·.2.2))
 |.bsl _ _ l=>xsT (l.map (·.2.2))
 |.load1 a=>xT a
 |.loadn _ a=>xT a
 |.store _ a x=>xsT [a,x]
 |.nilc x=>xT x
 |.isnil _ x=>xT x
 |.bin _ x y=>xsT [x,y]
 |.binb _ x y=>xsT [x,y]
 |.eqs _ _ x y=>xsT [x,y]
 |.neg x=>xT x
 |.not x=>xT x
 |.toInt _ x=>xT x
 |.sid x=>xT x
 |.b2s x=>xT x
 |.s2b x=>xT x
 |.mkfn _ l=>xsT l
 |.mksl _ _ _ l c=>xsT [l,c]
 |.slice _ x a b c=>xT x++(oT a++(oT b++oT c))
 |.slstr x a b=>xT x++(oT a++oT b)
 |.faddr _ x=>xT x
 |.field1 _ x=>xT x
 |.fieldn _ _ x=>xT x
 |.iaddr _ x i=>xsT [x,i]
 |.index x i=>xsT [x,i]
 |.ext x _=>xT x
 |.len x=>xT x
 |.lens x=>xT x
 |.max x y=>xsT [x,y]
 |.min x y=>xsT [x,y]
 |.add64 x y c=>xsT [x,y,c]
 |.sub64 x y c=>xsT [x,y,c]
 |.call _ f l=>xsT (f::l)
 |.pld1 a=>xT a
 |.pldn _ a=>xT a
 |.psl _ x a b c=>xT x++(oT a++(oT b++oT c))
 |.pia _ x i=>xsT [x,i]
 |.pbs _ _ l=>xsT (l.map (·.2.2))
 |.app _ _ x y=>xsT [x,y]
 |.appk _ _ x y=>xsT [x,y]
 |.copy _ x y=>xsT [x,y]
 |.clr _ _ x=>xT x
 |.apart a x=>xsT [a,x]
def Ins.reads(i:Ins):List Nat:=i.op.reads++(match i.gd with
 |some (t,_)=>[t]
 |none=>[])
def blind:O→Bool
 |.mv _=>true
 |.pick .. =>true
 |.bin .. =>true
 |.binb .. =>true
 |.neg _=>true
 |.not _=>true
 |.toInt .. =>true
 |.sid _=>true
 |.field1 .. =>true
 |.fieldn .. =>true
 |.index .. =>true
 |.ext .. =>true
 |.len _=>true
 |.lens _=>true
 |.max .. =>true
 |.min .. =>true
 |.add64 .. =>true
 |.sub64 .. =>true
 |.apart .. =>true
 |.pld1 .. =>true
 |.pldn .. =>true
 |.psl .. =>true
 |.pia .. =>true
 |.pbs .. =>true
 |_=>false
def qG:O→Bool
 |.bad=>true
 |.store .. =>true
 |.app .. =>true
 |.appk .. =>true
 |.copy .. =>true
 |.clr .. =>true
 |.call p _ _=> !p
 |_=>false
def O.adr:O→Option X
 |.load1 x=>some x
 |.loadn _ x=>some x
 |.b2s x=>some x
 |.nilc x=>some x
 |.isnil _ x=>some x
 |.slice _ x _ _ _=>some x
 |.faddr _ x=>some x
 |.iaddr _ x _=>some x
 |_=>none
def YS:D→Bool
 |.sl .. =>true
 |.ptr .. =>true
 |_=>false
def Rj(q:O):Bool:=match q.adr with
 |some (.c d)=> !YS d
 |_=>true
structure Pl where
 i:Ins
 bs:Nat
def lone(l:List Pl)(k:Nat)(bs:Nat):Nat→List Pl→Bool
 |_,[]=>true
 |j,q::r=>(blind q.i.op||Nat.beq j k||(if j<k then bs.testBit j else q.bs.testBit k))&&lone l k bs (j+1) r
def Gx(s:Nat)(l:List Pl):Bool:=l.all λr=>match r.i.dst with
 |some t=> !Nat.beq t s
 |none=>true
def D9:X→Option Nat
 |.t s=>some s
 |.c _=>none
def w9:O→Option Nat
 |.load1 x=>D9 x
 |.loadn _ x=>D9 x
 |_=>none
def far(l:List Pl)(o:O):Bool:=match w9 o with
 |some s=>Gx s l
 |none=>false
def DW:O→Option Nat
 |.app _ _ x _=>D9 x
 |.store _ x _=>D9 x
 |_=>none
def Rh(l:List Pl)(k:Nat)(o:O):Bool:=match DW o with
 |some s=>Gx s (l.drop k)
 |none=>false
def EC(l:List Pl)(k:Nat)(bs:Nat):Nat→List Pl→Bool
 |_,[]=>true
 |j,q::r=>(blind q.i.op||far l q.i.op||Nat.beq j k||(if j<k then bs.testBit j else q.bs.testBit k))&&EC l k bs (j+1) r
def wF(l:List Pl)(k bs:Nat)(s:Nat):Nat→List Pl→List Ins
 |_,[]=>[]
 |j,q::r=>(match w9 q.i.op with
  |some a=>if far l q.i.op&& !(if j<k then bs.testBit j else q.bs.testBit k)then[⟨none,none,.apart (.t a) (.t s)⟩]else[]
  |none=>[])++wF l k bs s (j+1) r
def t6(l:List Pl):Nat→List Pl→List Ins
 |_,[]=>[]
 |k,x::r=>(match DW x.i.op with
  |some s=>wF l k x.bs s 0 l
  |none=>[])++t6 l (k+1) r
def It(x:Ins)(j:Nat)(y:Pl):Bool:=
 y.bs.testBit j||((match x.dst with
  |some t=> !y.i.reads.contains t
  |none=>true)&&(match y.i.dst with
  |some t=> !x.reads.contains t
  |none=>true))
def Qt(x y:Ins):Bool:=match x.dst,y.dst with
 |some t,some u=> !Nat.beq t u
 |_,_=>true
def yo:Nat→List Pl→Bool
 |_,[]=>true
 |j,x::r=>(r.all λy=>It x.i j y&&Qt x.i y.i)&&yo (j+1) r
def W3(l:List Pl)(k:Nat)(x:Pl):Pl:=match x.i.op with
 |.call _ f as=>⟨⟨x.i.dst,x.i.gd,.call (!lone l k x.bs 0 l) f as⟩,x.bs⟩
 |_=>x
def AW(l:List Pl):Nat→List Pl→List Pl
 |_,[]=>[]
 |k,x::r=>W3 l k x::AW l (k+1) r
def HL(l:List Pl):Nat→List Pl→Bool
 |_,[]=>true
 |k,x::r=>(!qG x.i.op||lone l k x.bs 0 l||(Rh l k x.i.op&&EC l k x.bs 0 l))&&HL l (k+1) r
def places(nt:Nat)(ops:List Oper):List Pl:=
 let l:=List.zipWith (λo b=>Pl.mk (sG P im nt ops o) b) ops (uE ops)
 AW l 0 l
def Cp:Nat→List Oper→Bool
 |_,[]=>true
 |i,o::r=>(o.after.toList.all λe=> !Region.binds .any e||e.on<i)&&Cp (i+1) r
def AH(ops:List Oper)(l:List Pl):Bool:=
 Cp 0 ops&&HL l 0 l&&yo 0 l&&l.all λq=>Rj q.i.op
def Hy(nt:Nat)(ops:List Oper)(draw:Bool):C:=
 if draw then
  if AH ops (places P im nt ops)then .reg ((places P im nt ops).map (·.i)++t6 (places P im nt ops) 0 (places P im nt ops))else .bad
 else .reg (ops.map (sG P im nt ops))
def j6(nt:Nat):Code→C
 |.skip=>.skip
 |.label _=>.skip
 |.region _ ops draw=>Hy P im nt ops.toList draw
 |.seq a b=>.seq (j6 nt a) (j6 nt b)
 |.cond x a b=>.cond (cX im x) (j6 nt a) (j6 nt b)
 |.block id c=>.block id (j6 nt c)
 |.loop c=>.loop (j6 nt c)
 |.scope c=>j6 nt c
 |.exit id=>.exit id
 |.ret=>.ret
 |_=>.bad
def Al:ResultVar→Nat×Option Nat
 |.tmp t=>(t,none)
 |.cell a t=>(a,some (if Ct P t then il P t else 0))
def yg:ResultVar→Bool
 |.tmp _=>true
 |.cell _ t=>match P.underlying t with
  |some _=> !Ct P t||il P t != 0
  |none=>false
def ntF(mode n:Nat):Nat:=if 10≤mode then n+uf*(mode/10)else n
theorem Pc(mode n:Nat):ntF mode n%uf≤n:=by
 unfold ntF;split
 ·rw[ch];exact z1t _ _
 ·exact z1t _ _
def wn(mode:Nat)(fn:Func):Fun:=
 ⟨fn.params.size,fn.results.toList.map (Al P),mode,match fn.body with
  |some c=>if fn.results.toList.all (yg P)then j6 P im (ntF mode fn.ntmps) c else .bad
  |none=>.bad⟩
end
theorem NZ{n:Nat}(h:n≠0):Nat.beq n 0=false:=by
 cases n with
 |zero=>exact absurd rfl h
 |succ n=>rfl
theorem Tr.get_nil{α:Type}(n:Nat):(Tr.nil:Tr α).get n=none:=rfl
theorem Tr.get_node{α:Type}(v:Option α)(l r:Tr α)(n:Nat):
 (Tr.node v l r).get n=if n=0 then v else if n%2=1 then l.get (n/2)else r.get (n/2-1):=by
 show cond (Nat.beq n 0) v (cond (Nat.beq (Nat.mod n 2) 1) (l.get (Nat.div n 2)) (r.get (Nat.pred (Nat.div n 2))))=_;by_cases h:n=0
 ·subst h;rfl
 ·have h1:Nat.beq n 0=false:=NZ h;rw[h1,aE h];by_cases h2:n%2=1
  ·have h3:Nat.beq (Nat.mod n 2) 1=true:=by show Nat.beq (n%2) 1=true;rw[h2];rfl
   rw[h3,aC h2];rfl
  ·have h3:Nat.beq (Nat.mod n 2) 1=false:=by
    have:n%2=0:=by omega
    show Nat.beq (n%2) 1=false;rw[this];rfl
   rw[h3,aE h2];rfl
theorem Tr.get_setF{α:Type}(x:α):∀(k:Nat)(t:Tr α)(n m:Nat),n<k→(Tr.setF k t n x).get m=if m=n then some x else t.get m:=by
 intro k
 induction k with
 |zero=>intro t n m h;omega
 |succ k ih=>
  intro t n m h;have key:∀(v:Option α)(l r:Tr α),(cond (Nat.beq n 0) (Tr.node (some x) l r)
   (cond (Nat.beq (Nat.mod n 2) 1) (Tr.node v (Tr.setF k l (Nat.div n 2) x) r) (Tr.node v l (Tr.setF k r (Nat.pred (Nat.div n 2)) x)))).get m=if m=n then some x else(Tr.node v l r).get m:=by
   intro v l r;by_cases h0:n=0
   ·subst h0;show(Tr.node (some x) l r).get m=_;rw[Tr.get_node,Tr.get_node];by_cases hm:m=0<;>simp[hm]
   ·have h1:Nat.beq n 0=false:=NZ h0;rw[h1];by_cases h2:n%2=1
    ·have h3:Nat.beq (Nat.mod n 2) 1=true:=by show Nat.beq (n%2) 1=true;rw[h2];rfl
     rw[h3];show(Tr.node v (Tr.setF k l (n/2) x) r).get m=_;rw[Tr.get_node,Tr.get_node,ih _ _ _ (by omega)];by_cases hm:m=0
     ·subst hm;rw[aC rfl,aE (by omega),aC rfl]
     ·rw[aE hm,aE hm];by_cases hm2:m%2=1
      ·rw[aC hm2,aC hm2];by_cases he:m=n
       ·rw[aC (by omega),aC he]
       ·rw[aE (by omega),aE he]
      ·rw[aE hm2,aE hm2,aE (by intro e;subst e;exact hm2 h2)]
    ·have h3:Nat.beq (Nat.mod n 2) 1=false:=by
      have:n%2=0:=by omega
      show Nat.beq (n%2) 1=false;rw[this];rfl
     rw[h3];show(Tr.node v l (Tr.setF k r (n/2-1) x)).get m=_;rw[Tr.get_node,Tr.get_node,ih _ _ _ (by omega)];by_cases hm:m=0
     ·subst hm;rw[aC rfl,aE (by omega),aC rfl]
     ·rw[aE hm,aE hm];by_cases hm2:m%2=1
      ·rw[aC hm2,aC hm2,aE (by intro e;subst e;exact h2 hm2)]
      ·rw[aE hm2,aE hm2];by_cases he:m=n
       ·rw[aC (by omega),aC he]
       ·rw[aE (by omega),aE he]
  cases t with
  |nil=>
   have:=key none .nil .nil;simp only[Tr.setF];rw[this,Tr.get_node,Tr.get_nil,Tr.get_nil,Tr.get_nil];by_cases hm:m=n<;>simp[hm]
  |node v l r=>simp only[Tr.setF];exact key v l r
theorem Tr.get_set{α:Type}(t:Tr α)(n m:Nat)(x:α):(t.set n x).get m=if m=n then some x else t.get m:=
 Tr.get_setF x _ t n m (cK n)
theorem Sto.get_put(σ:Sto)(l m:Nat)(b:Blk):(σ.put l b).get m=if m=l then some b else σ.get m:=Tr.get_set _ _ _ _
theorem Sto.nx_put(σ:Sto)(l:Nat)(b:Blk):(σ.put l b).nx=σ.nx:=rfl
theorem Sto.get_add1(σ:Sto)(b:Blk)(m:Nat):(σ.adds [b]).get m=if m=σ.nx then some b else σ.get m:=Tr.get_set _ _ _ _
def okN(ok:Nat→Nat→Prop)(b o n:Nat):Prop:=∀j,j<n→ok b (o+j)
theorem okN.mono{ok ok':Nat→Nat→Prop}(h:∀b o,ok b o→ok' b o){b o n:Nat}(k:okN ok b o n):okN ok' b o n:=λj hj=>h _ _ (k j hj)
theorem okN.part{ok:Nat→Nat→Prop}{b o n o' n':Nat}(k:okN ok b o n)(h1:o≤o')(h2:o'+n'≤o+n):okN ok b o' n':=λj hj=>by
 have:=k (o'-o+j) (by omega);rwa[show o+(o'-o+j)=o'+j by omega]at this
theorem okN.drop{ok:Nat→Nat→Prop}{b o:Nat}{α:Type}{cs:List α}(k:okN ok b o cs.length)(n:Nat):okN ok b (o+n) (cs.drop n).length:=λj hj=>by
 rw[cp]at hj;have:=k (n+j) (by omega);rwa[show o+(n+j)=o+n+j by omega]at this
theorem okN.take{ok:Nat→Nat→Prop}{b o:Nat}{α:Type}{cs:List α}(k:okN ok b o cs.length)(n:Nat):okN ok b o (cs.take n).length:=λj hj=>k j (by rw[ah]at hj;omega)
section
variable (im:Nat→Option Nat)
mutual
def TR(w:World)(ok:Nat→Nat→Prop):D→Value→Prop
 |.u,_=>False
 |.i k n,v=>v=.int k n
 |.b x,v=>v=.bool x
 |.s l,v=>v=.string ⟨l.toArray⟩
 |.n m,v=>v=.string ⟨(eo m).toArray⟩
 |.np,v=>v=.pointer none
 |.nf,v=>v=.nilFunc
 |.tree cs len ex,v=>∃a cap,v=.slice a len cap∧len≤cap∧(ex=true→cap=len)∧(cs≠[]→∃ad:Addr,a=some ad∧ad.spot=none∧okN ok ad.block ad.off cs.length∧TRc w ok cs ad.block ad.off)
 |.own _ _ _,_=>False
 |.sl _ _ _ _ _ _,_=>False
 |.ptr _ _,_=>False
 |.fp cs,v=>∃ad:Addr,v=.pointer (some ad)∧ad.spot=none∧okN ok ad.block ad.off cs.length∧TRc w ok cs ad.block ad.off
 |.agg cs,v=>∃arr:Array Value,v=.agg arr∧TRl w ok cs arr.toList
 |.tup cs,v=>∃arr:Array Value,v=.tuple arr∧TRl w ok cs arr.toList
 |.fn f cs,v=>∃F:Nat,∃arr:Array Value,im F=some f∧v=.func (.func F) #[] arr∧TRl w ok cs arr.toList
def TRc(w:World)(ok:Nat→Nat→Prop):List D→Nat→Nat→Prop
 |[],_,_=>True
 |d::ds,b,o=>(∃v,w.cell? ⟨b,o,none⟩=some v∧TR w ok d v)∧TRc w ok ds b (o+1)
def TRl(w:World)(ok:Nat→Nat→Prop):List D→List Value→Prop
 |[],vs=>vs=[]
 |d::ds,vs=>∃v r,vs=v::r∧TR w ok d v∧TRl w ok ds r
end
variable {im}
theorem nA{w w':World}{b o:Nat}(h:w'.heap[b]?=w.heap[b]?):w'.cell? ⟨b,o,none⟩=w.cell? ⟨b,o,none⟩:=by
 simp[World.cell?,h]
section
variable {w w':World} {ok ok':Nat→Nat→Prop} (h1:∀b o,ok b o→ok' b o) (h2:∀b o,ok b o→w'.cell? ⟨b,o,none⟩=w.cell? ⟨b,o,none⟩)
include h1 h2
mutual
theorem wG:∀(d:D)(v:Value),TR im w ok d v→TR im w' ok' d v
 |.u,_,h=>by simp[TR]at h
 |.i k n,v,h=>by simpa[TR]using h
 |.b x,v,h=>by simpa[TR]using h
 |.s l,v,h=>by simpa[TR]using h
 |.n m,v,h=>by simpa[TR]using h
 |.np,v,h=>by simpa[TR]using h
 |.nf,v,h=>by simpa[TR]using h
 |.tree cs len ex,v,h=>by
  simp only[TR]at h ⊢;obtain⟨a,cap,e,hl,hx,hc⟩:=h;exact⟨a,cap,e,hl,hx,λhn=>by
   obtain⟨ad,e1,e2,e3,e4⟩:=hc hn;exact⟨ad,e1,e2,e3.mono h1,DC cs _ _ e3 e4⟩⟩
 |.own _ _ _,_,h=>by simp[TR]at h
 |.sl _ _ _ _ _ _,_,h=>by simp[TR]at h
 |.ptr _ _,_,h=>by simp[TR]at h
 |.fp cs,v,h=>by
  simp only[TR]at h ⊢;obtain⟨ad,e1,e2,e3,e4⟩:=h;exact⟨ad,e1,e2,e3.mono h1,DC cs _ _ e3 e4⟩
 |.agg cs,v,h=>by
  simp only[TR]at h ⊢;obtain⟨arr,e,hl⟩:=h;exact⟨arr,e,zV cs _ hl⟩
 |.tup cs,v,h=>by
  simp only[TR]at h ⊢;obtain⟨arr,e,hl⟩:=h;exact⟨arr,e,zV cs _ hl⟩
 |.fn f cs,v,h=>by
  simp only[TR]at h ⊢;obtain⟨F,arr,hF,e,hl⟩:=h;exact⟨F,arr,hF,e,zV cs _ hl⟩
theorem DC:∀(cs:List D)(b o:Nat),okN ok b o cs.length→TRc im w ok cs b o→TRc im w' ok' cs b o
 |[],_,_,_,_=>by simp[TRc]
 |d::ds,b,o,hb,h=>by
  simp only[TRc]at h ⊢;obtain⟨⟨v,hv,hd⟩,hr⟩:=h;exact⟨⟨v,by rw[h2 b o (hb 0 (by simp))];exact hv,wG d v hd⟩,DC ds b (o+1) (hb.part (by omega) (by simp only[ay];omega)) hr⟩
theorem zV:∀(cs:List D)(vs:List Value),TRl im w ok cs vs→TRl im w' ok' cs vs
 |[],_,h=>by simpa[TRl]using h
 |d::ds,vs,h=>by
  simp only[TRl]at h ⊢;obtain⟨v,r,e,hd,hr⟩:=h;exact⟨v,r,e,wG d v hd,zV ds r hr⟩
end
end
def pz(w:World)(b:Nat):Nat:=match w.heap[b]?with
 |some (.cells arr _ _)=>arr.size
 |_=>0
theorem sO{w w':World}{b:Nat}(h:w'.heap[b]?=w.heap[b]?):pz w' b=pz w b:=by unfold pz;rw[h]
theorem ma{w:World}{b:Nat}{arr:Array Value}{el:TypeId}{fr:Nat×Nat}(h:w.heap[b]?=some (.cells arr el fr)):pz w b=arr.size:=by unfold pz;rw[h]
section
variable (im:Nat→Option Nat) (g:Nat→Option Blk) (μ:Nat→Nat×Nat) (w:World) (ok:Nat→Nat→Prop)
mutual
def VR:D→Value→Prop
 |.u,_=>True
 |.i k n,v=>v=.int k n
 |.b x,v=>v=.bool x
 |.s l,v=>v=.string ⟨l.toArray⟩
 |.n m,v=>v=.string ⟨(eo m).toArray⟩
 |.np,v=>v=.pointer none
 |.nf,v=>v=.nilFunc
 |.tree cs len ex,v=>TR im w ok (.tree cs len ex) v
 |.own _ _ _,_=>False
 |.sl l off len cm z ex,v=>∃b a cap,g l=some b∧v=.slice a len cap∧(b.st.live=true→len≤cm∧a=some ⟨(μ l).1,(μ l).2+off,none⟩∧cm≤cap∧(ex=true→cap=cm)∧(μ l).2+off+cap*z≤pz w (μ l).1)
 |.ptr l off,v=>∃b a,g l=some b∧v=.pointer a∧(b.st.live=true→a=some ⟨(μ l).1,(μ l).2+off,none⟩)
 |.fp cs,v=>TR im w ok (.fp cs) v
 |.agg cs,v=>∃arr:Array Value,v=.agg arr∧VRl cs arr.toList
 |.tup cs,v=>∃arr:Array Value,v=.tuple arr∧VRl cs arr.toList
 |.fn f cs,v=>∃F:Nat,∃arr:Array Value,im F=some f∧v=.func (.func F) #[] arr∧VRl cs arr.toList
def VRl:List D→List Value→Prop
 |[],vs=>vs=[]
 |d::ds,vs=>∃v r,vs=v::r∧VR d v∧VRl ds r
end
def VRc:List D→Nat→Nat→Prop
 |[],_,_=>True
 |d::ds,b,o=>(∃v,w.cell? ⟨b,o,none⟩=some v∧VR im g μ w ok d v)∧VRc ds b (o+1)
end
structure Rel (im:Nat→Option Nat) (g:Nat→Option Blk) (μ:Nat→Nat×Nat) (w:World) (ok okp:Nat→Nat→Prop) (base:Nat):Prop where
 blk:∀l b,g l=some b→b.st.live=true→(∃arr el fr,w.heap[(μ l).1]?=some (.cells arr el fr)∧∀o,o<arr.size→¬(fr.1≤o∧o<fr.2))∧VRc im g μ w ok b.cs (μ l).1 (μ l).2
 wrb:∀l b,g l=some b→b.st.wr=true→base≤(μ l).1∧∀o,¬ok (μ l).1 o
 apd:∀l b,g l=some b→b.st.own=true→base≤(μ l).1∧∀o,(μ l).2+b.cs.length≤o→¬ok (μ l).1 o
 frz:∀l b,g l=some b→b.st.live=true→b.st.wr=false→okN ok (μ l).1 (μ l).2 b.cs.length
 inj:∀l b l' b',g l=some b→g l'=some b'→b.st.own=true→b'.st.own=true→(μ l).1=(μ l').1→l=l'
 okl:∀b o,ok b o→b<w.heap.size∧(okp b o∨base≤b)
 okp:∀b o,okp b o→ok b o
 bas:base≤w.heap.size
structure Same (w w':World):Prop where
 os:w'.os=w.os
 out:w'.output=w.output
theorem Same.refl(w:World):Same w w:=⟨rfl,rfl⟩
theorem Same.trans{w w1 w2:World}(a:Same w w1)(b:Same w1 w2):Same w w2:=⟨b.os.trans a.os,b.out.trans a.out⟩
theorem Same.drew(w:World):Same w w.drew:=⟨rfl,rfl⟩
theorem Same.alloc(w:World)(c:Array Value)(t:TypeId):Same w (w.alloc (.cells c t)):=⟨rfl,rfl⟩
theorem Same.setCell(w:World)(a:Addr)(v:Value):Same w (w.setCell a v):=⟨rfl,rfl⟩
structure Stp (g:Nat→Option Blk) (μ:Nat→Nat×Nat) (w:World) (ok:Nat→Nat→Prop) (g':Nat→Option Blk) (μ':Nat→Nat×Nat) (w':World) (ok':Nat→Nat→Prop) (base:Nat):Prop where
 okk:∀b o,ok b o→ok' b o
 kept:∀b o,ok b o→w'.cell? ⟨b,o,none⟩=w.cell? ⟨b,o,none⟩
 low:∀b,b<base→w'.heap[b]?=w.heap[b]?
 locs:∀l b,g l=some b→∃b',g' l=some b'∧(b'.st.live=true→b.st.live=true∧μ' l=μ l∧pz w' (μ l).1=pz w (μ l).1)
 size:w.heap.size≤w'.heap.size
 sm:Same w w'
theorem Stp.refl(g:Nat→Option Blk)(μ:Nat→Nat×Nat)(w:World)(ok:Nat→Nat→Prop)(base:Nat):Stp g μ w ok g μ w ok base:=
 ⟨λ_ _ h=>h,λ_ _ _=>rfl,λ_ _=>rfl,λl b h=>⟨b,h,λh=>⟨h,rfl,rfl⟩⟩,aD _,.refl _⟩
theorem Stp.trans{g g1 g2:Nat→Option Blk}{μ μ1 μ2:Nat→Nat×Nat}{w w1 w2:World}{ok ok1 ok2:Nat→Nat→Prop}{base:Nat}
 (a:Stp g μ w ok g1 μ1 w1 ok1 base) (b:Stp g1 μ1 w1 ok1 g2 μ2 w2 ok2 base):Stp g μ w ok g2 μ2 w2 ok2 base:=
 ⟨λx o h=>b.okk x o (a.okk x o h),λx o h=>(b.kept x o (a.okk x o h)).trans (a.kept x o h),λx h=>(b.low x h).trans (a.low x h),
  λl x h=>by
   obtain⟨x1,h1,k1⟩:=a.locs l x h;obtain⟨x2,h2,k2⟩:=b.locs l x1 h1;refine⟨x2,h2,λhl=>?_⟩;obtain⟨q1,q2,q3⟩:=k2 hl;obtain⟨p1,p2,p3⟩:=k1 q1;exact⟨p1,q2.trans p2,by rw[←p3,←p2];exact q3⟩,
  bT a.size b.size,a.sm.trans b.sm⟩
section
variable {g g':Nat→Option Blk} {μ μ':Nat→Nat×Nat} {w w':World} {ok ok':Nat→Nat→Prop} {base:Nat} (s:Stp g μ w ok g' μ' w' ok' base)
include s
mutual
theorem oD:∀(d:D)(v:Value),VR im g μ w ok d v→VR im g' μ' w' ok' d v
 |.u,_,h=>by simp[VR]
 |.i k n,v,h=>by simpa[VR]using h
 |.b x,v,h=>by simpa[VR]using h
 |.s l,v,h=>by simpa[VR]using h
 |.n m,v,h=>by simpa[VR]using h
 |.np,v,h=>by simpa[VR]using h
 |.nf,v,h=>by simpa[VR]using h
 |.tree cs len ex,v,h=>by
  simp only[VR]at h ⊢;exact wG s.okk s.kept _ _ h
 |.own _ _ _,_,h=>by simp[VR]at h
 |.sl l off len cm z ex,v,h=>by
  simp only[VR]at h ⊢;obtain⟨b,a,cap,hb,e,h⟩:=h;obtain⟨b',hb',k⟩:=s.locs l b hb;exact⟨b',a,cap,hb',e,λhl=>by rw[(k hl).2.1,(k hl).2.2];exact h (k hl).1⟩
 |.ptr l off,v,h=>by
  simp only[VR]at h ⊢;obtain⟨b,a,hb,e,h⟩:=h;obtain⟨b',hb',k⟩:=s.locs l b hb;exact⟨b',a,hb',e,λhl=>by rw[(k hl).2.1];exact h (k hl).1⟩
 |.fp cs,v,h=>by
  simp only[VR]at h ⊢;exact wG s.okk s.kept _ _ h
 |.agg cs,v,h=>by
  simp only[VR]at h ⊢;obtain⟨arr,e,hl⟩:=h;exact⟨arr,e,tR cs _ hl⟩
 |.tup cs,v,h=>by
  simp only[VR]at h ⊢;obtain⟨arr,e,hl⟩:=h;exact⟨arr,e,tR cs _ hl⟩
 |.fn f cs,v,h=>by
  simp only[VR]at h ⊢;obtain⟨F,arr,hF,e,hl⟩:=h;exact⟨F,arr,hF,e,tR cs _ hl⟩
theorem tR:∀(cs:List D)(vs:List Value),VRl im g μ w ok cs vs→VRl im g' μ' w' ok' cs vs
 |[],_,h=>by simpa[VRl]using h
 |d::ds,vs,h=>by
  simp only[VRl]at h ⊢;obtain⟨v,r,e,hd,hr⟩:=h;exact⟨v,r,e,oD d v hd,tR ds r hr⟩
end
theorem mL:∀(cs:List D)(b o:Nat),(∀j,j<cs.length→w'.cell? ⟨b,o+j,none⟩=w.cell? ⟨b,o+j,none⟩)→VRc im g μ w ok cs b o→VRc im g' μ' w' ok' cs b o
 |[],_,_,_,_=>by simp[VRc]
 |d::ds,b,o,hc,h=>by
  simp only[VRc]at h ⊢;obtain⟨⟨v,hv,hd⟩,hr⟩:=h;refine⟨⟨v,by have:=hc 0 (by simp);simp only[bH]at this;rw[this];exact hv,oD s d v hd⟩,mL ds b (o+1) (λj hj=>?_) hr⟩;have:=hc (j+1) (by simp;omega);rwa[show o+(j+1)=o+1+j by omega]at this
end
mutual
theorem Cx{g:Nat→Option Blk}{μ:Nat→Nat×Nat}{w:World}{ok:Nat→Nat→Prop}:∀(d:D)(v:Value),TR im w ok d v→VR im g μ w ok d v
 |.u,_,h=>by simp[VR]
 |.i k n,v,h=>by simpa[VR,TR]using h
 |.b x,v,h=>by simpa[VR,TR]using h
 |.s l,v,h=>by simpa[VR,TR]using h
 |.n m,v,h=>by simpa[VR,TR]using h
 |.np,v,h=>by simpa[VR,TR]using h
 |.nf,v,h=>by simpa[VR,TR]using h
 |.tree cs len ex,v,h=>by simp only[VR];exact h
 |.own _ _ _,_,h=>by simp[TR]at h
 |.sl l off len cm z ex,v,h=>by simp[TR]at h
 |.ptr l off,v,h=>by simp[TR]at h
 |.fp cs,v,h=>by simp only[VR];exact h
 |.agg cs,v,h=>by
  simp only[VR,TR]at h ⊢;obtain⟨arr,e,hl⟩:=h;exact⟨arr,e,qz cs _ hl⟩
 |.tup cs,v,h=>by
  simp only[VR,TR]at h ⊢;obtain⟨arr,e,hl⟩:=h;exact⟨arr,e,qz cs _ hl⟩
 |.fn f cs,v,h=>by
  simp only[VR,TR]at h ⊢;obtain⟨F,arr,hF,e,hl⟩:=h;exact⟨F,arr,hF,e,qz cs _ hl⟩
theorem qz{g:Nat→Option Blk}{μ:Nat→Nat×Nat}{w:World}{ok:Nat→Nat→Prop}:∀(cs:List D)(vs:List Value),TRl im w ok cs vs→VRl im g μ w ok cs vs
 |[],_,h=>by simpa[VRl,TRl]using h
 |d::ds,vs,h=>by
  simp only[VRl,TRl]at h ⊢;obtain⟨v,r,e,hd,hr⟩:=h;exact⟨v,r,e,Cx d v hd,qz ds r hr⟩
end
end
end Go.Proofs.Ev
namespace Go.Proofs.Ev
section
variable {im:Nat→Option Nat} {g:Nat→Option Blk} {μ:Nat→Nat×Nat} {w:World} {ok okp:Nat→Nat→Prop} {base:Nat}
theorem xR{cs:List D}{b o:Nat}(h:VRc im g μ w ok cs b o){j:Nat}{d:D}(hj:cs[j]?=some d):∃v,w.cell? ⟨b,o+j,none⟩=some v∧VR im g μ w ok d v:=by
 induction cs generalizing o j with
 |nil=>simp at hj
 |cons x xs ih=>
  simp only[VRc]at h;cases j with
  |zero=>simp only[bG,aA]at hj;subst hj;exact h.1
  |succ j=>
   simp only[bM]at hj;have:=ih h.2 hj;rwa[show o+1+j=o+(j+1) by omega]at this
theorem yT{cs:List D}{b o:Nat}(h:∀(j:Nat)(d:D),cs[j]?=some d→∃v,w.cell? ⟨b,o+j,none⟩=some v∧VR im g μ w ok d v):VRc im g μ w ok cs b o:=by
 induction cs generalizing o with
 |nil=>simp[VRc]
 |cons x xs ih=>
  simp only[VRc];refine⟨by simpa using h 0 x rfl,ih λj d hj=>?_⟩;have:=h (j+1) d (by simpa using hj);rwa[show o+(j+1)=o+1+j by omega]at this
theorem GB{cs:List D}{b o:Nat}(h:TRc im w ok cs b o){j:Nat}{d:D}(hj:cs[j]?=some d):∃v,w.cell? ⟨b,o+j,none⟩=some v∧TR im w ok d v:=by
 induction cs generalizing o j with
 |nil=>simp at hj
 |cons x xs ih=>
  simp only[TRc]at h;cases j with
  |zero=>simp only[bG,aA]at hj;subst hj;exact h.1
  |succ j=>
   simp only[bM]at hj;have:=ih h.2 hj;rwa[show o+1+j=o+(j+1) by omega]at this
theorem DA{cs:List D}{b o:Nat}(h:∀(j:Nat)(d:D),cs[j]?=some d→∃v,w.cell? ⟨b,o+j,none⟩=some v∧TR im w ok d v):TRc im w ok cs b o:=by
 induction cs generalizing o with
 |nil=>simp[TRc]
 |cons x xs ih=>
  simp only[TRc];refine⟨by simpa using h 0 x rfl,ih λj d hj=>?_⟩;have:=h (j+1) d (by simpa using hj);rwa[show o+(j+1)=o+1+j by omega]at this
theorem yS{cs:List D}{b o:Nat}(h:TRc im w ok cs b o):VRc im g μ w ok cs b o:=
 yT λj d hj=>by obtain⟨v,hv,ht⟩:=GB h hj;exact⟨v,hv,Cx d v ht⟩
theorem jp{cs:List D}{vs:List Value}:VRl im g μ w ok cs vs↔vs.length=cs.length∧∀(j:Nat)(d:D),cs[j]?=some d→∃v,vs[j]?=some v∧VR im g μ w ok d v:=by
 induction cs generalizing vs with
 |nil=>simp[VRl]
 |cons x xs ih=>
  simp only[VRl];constructor
  ·rintro ⟨v,r,rfl,hv,hr⟩
   obtain⟨hl,hr⟩:=ih.1 hr;refine⟨by simp[hl],λj d hj=>?_⟩;cases j with
   |zero=>simp only[bG,aA]at hj;subst hj;exact⟨v,rfl,hv⟩
   |succ j=>simpa using hr j d (by simpa using hj)
  ·rintro ⟨hl,h⟩
   cases vs with
   |nil=>simp at hl
   |cons v r=>
    refine⟨v,r,rfl,?_,ih.2 ⟨by simpa using hl,λj d hj=>by simpa using h (j+1) d (by simpa using hj)⟩⟩;obtain⟨v',e,hv⟩:=h 0 x rfl;simp only[bG,aA]at e;subst e;exact hv
theorem Lt{cs:List D}{vs:List Value}:TRl im w ok cs vs↔vs.length=cs.length∧∀(j:Nat)(d:D),cs[j]?=some d→∃v,vs[j]?=some v∧TR im w ok d v:=by
 induction cs generalizing vs with
 |nil=>simp[TRl]
 |cons x xs ih=>
  simp only[TRl];constructor
  ·rintro ⟨v,r,rfl,hv,hr⟩
   obtain⟨hl,hr⟩:=ih.1 hr;refine⟨by simp[hl],λj d hj=>?_⟩;cases j with
   |zero=>simp only[bG,aA]at hj;subst hj;exact⟨v,rfl,hv⟩
   |succ j=>simpa using hr j d (by simpa using hj)
  ·rintro ⟨hl,h⟩
   cases vs with
   |nil=>simp at hl
   |cons v r=>
    refine⟨v,r,rfl,?_,ih.2 ⟨by simpa using hl,λj d hj=>by simpa using h (j+1) d (by simpa using hj)⟩⟩;obtain⟨v',e,hv⟩:=h 0 x rfl;simp only[bG,aA]at e;subst e;exact hv
theorem jD{cs:List D}{vs:List Value}(h:VRl im g μ w ok cs vs):vs.length=cs.length:=(jp.1 h).1
theorem z6{d:D}{v:Value}(h:VR im g μ w ok d v)(h1:(jr d).all one=true):VRl im g μ w ok (jr d) v.cells.toList:=by
 cases d with
 |agg cs=>simp only[VR]at h;obtain⟨arr,rfl,hl⟩:=h;simpa[jr,Value.cells]using hl
 |u=>simp[jr,one]at h1
 |tup=>simp[jr,one]at h1
 |own=>simp[jr,one]at h1
 |tree cs len ex=>simp only[VR,TR]at h;obtain⟨a,cap,rfl,r⟩:=h;simp only[jr,Value.cells,VRl];exact⟨_,[],rfl,by simp only[VR,TR];exact⟨a,cap,rfl,r⟩,rfl⟩
 |fp cs=>simp only[VR,TR]at h;obtain⟨a,rfl,r⟩:=h;simp only[jr,Value.cells,VRl];exact⟨_,[],rfl,by simp only[VR,TR];exact⟨a,rfl,r⟩,rfl⟩
 |fn f cs=>simp only[VR]at h;obtain⟨F,arr,hF,rfl,r⟩:=h;simp only[jr,Value.cells,VRl];exact⟨_,[],rfl,by simp only[VR];exact⟨F,arr,hF,rfl,r⟩,rfl⟩
 |sl l off len cm z ex=>
  obtain⟨b,a,cap,hb,e,r⟩:∃b a cap,g l=some b∧v=.slice a len cap∧_:=by simpa only[VR]using h
  subst e;simp only[jr,Value.cells,VRl];exact⟨_,[],rfl,h,rfl⟩
 |ptr l off=>
  obtain⟨b,a,hb,e,r⟩:∃b a,g l=some b∧v=.pointer a∧_:=by simpa only[VR]using h
  subst e;simp only[jr,Value.cells,VRl];exact⟨_,[],rfl,h,rfl⟩
 |_=>simp only[VR]at h;subst h;simp[jr,Value.cells,VRl,VR]
theorem PX{d:D}{v:Value}(h:VR im g μ w ok d v)(h1:one d=true):v.oneCell'=true:=by
 cases d with
 |agg cs=>simp[one]at h1
 |u=>simp[one]at h1
 |tup=>simp[one]at h1
 |own=>simp[one]at h1
 |tree cs len ex=>simp only[VR,TR]at h;obtain⟨a,cap,rfl,r⟩:=h;rfl
 |fp cs=>simp only[VR,TR]at h;obtain⟨a,rfl,r⟩:=h;rfl
 |fn f cs=>simp only[VR]at h;obtain⟨F,arr,hF,rfl,r⟩:=h;rfl
 |sl l off len cm z ex=>simp only[VR]at h;obtain⟨b,a,cap,hb,rfl,r⟩:=h;rfl
 |ptr l off=>simp only[VR]at h;obtain⟨b,a,hb,rfl,r⟩:=h;rfl
 |_=>simp only[VR]at h;subst h;rfl
theorem fw{s:Stt}(h:s.own=true):s.live=true:=by cases s<;>simp_all [Stt.own,Stt.live]
theorem kX{s:Stt}(h:s.wr=true):s.own=true:=by cases s<;>simp_all [Stt.wr,Stt.own]
theorem J2{s:Stt}(h:s.live=true)(h2:s.own=false):s.wr=false∧s=.frz:=by cases s<;>simp_all [Stt.own,Stt.live,Stt.wr]
theorem Rel.heap{w':World}(R:Rel im g μ w ok okp base)(e:w'.heap=w.heap)(sm:Same w w'):Rel im g μ w' ok okp base∧Stp g μ w ok g μ w' ok base:=by
 have st:Stp g μ w ok g μ w' ok base:=⟨λ_ _ h=>h,λ_ _ _=>nA (by rw[e]),λ_ _=>by rw[e],λl b h=>⟨b,h,λh=>⟨h,rfl,sO (by rw[e])⟩⟩,by rw[e];exact aD _,sm⟩
 refine⟨⟨λl b h hl=>?_,R.wrb,R.apd,R.frz,R.inj,λb o h=>by rw[e];exact R.okl b o h,R.okp,by rw[e];exact R.bas⟩,st⟩;obtain⟨h1,h2⟩:=R.blk l b h hl;exact⟨by rw[e];exact h1,mL st _ _ _ (λj _=>nA (by rw[e])) h2⟩
def upd{α:Type}(f:Nat→α)(l:Nat)(x:α):Nat→α:=λm=>if m=l then x else f m
theorem fB{α:Type}(f:Nat→α)(l:Nat)(x:α):upd f l x l=x:=aC rfl
theorem fJ{α:Type}(f:Nat→α){l m:Nat}(x:α)(h:m≠l):upd f l x m=f m:=aE h
theorem Rel.blt(R:Rel im g μ w ok okp base){m:Nat}{b:Blk}(h:g m=some b)(hb:b.st.live=true):(μ m).1<w.heap.size:=by
 obtain⟨⟨arr,el,fr,hh,_⟩,_⟩:=R.blk m b h hb;exact(bk.1 hh).1
theorem Rel.alloc{w':World}(R:Rel im g μ w ok okp base){l:Nat}(hl:g l=none){cs:List D}{arr:Array Value}{el:TypeId}{fr:Nat×Nat}
 (old:∀b,b<w.heap.size→w'.heap[b]?=w.heap[b]?) (hnew:w'.heap[w.heap.size]?=some (.cells arr el fr)) (hsz:w'.heap.size=w.heap.size+1) (sm:Same w w') (hfr:∀o,o<arr.size→¬(fr.1≤o∧o<fr.2))
 (hc:∀(j:Nat)(d:D),cs[j]?=some d→∃v,arr[j]?=some v∧VR im g μ w ok d v):
 Rel im (upd g l (some ⟨cs,.rw⟩)) (upd μ l (w.heap.size,0)) w' ok okp base∧Stp g μ w ok (upd g l (some ⟨cs,.rw⟩)) (upd μ l (w.heap.size,0)) w' ok base:=by
 have gl:∀m b,g m=some b→m≠l:=λm b h e=>by subst e;rw[hl]at h;cases h
 have blt:∀m b,g m=some b→b.st.live=true→(μ m).1<w.heap.size:=λm b h hb=>R.blt h hb;have st:Stp g μ w ok (upd g l (some ⟨cs,.rw⟩)) (upd μ l (w.heap.size,0)) w' ok base:=
  ⟨λ_ _ h=>h,λb o hb=>nA (old b (R.okl b o hb).1),λb hb=>old b (bp hb R.bas),
   λm b h=>⟨b,by rw[fJ _ _ (gl m b h)];exact h,λhl=>⟨hl,fJ _ _ (gl m b h),sO (old _ (blt m b h hl))⟩⟩,by omega,sm⟩
 refine⟨⟨λm b h hb=>?_,λm b h hb=>?_,λm b h hb=>?_,λm b h hb hb2=>?_,λm b m' b' h h' hb hb' he=>?_,λb o h=>⟨by have:=(R.okl b o h).1;omega,(R.okl b o h).2⟩,R.okp,by have:=R.bas;omega⟩,st⟩
 ·by_cases e:m=l
  ·subst e;rw[fB]at h ⊢;simp only[aA]at h;subst h;refine⟨⟨arr,el,fr,hnew,hfr⟩,yT λj d hj=>?_⟩;obtain⟨v,hv,hr⟩:=hc j d hj;refine⟨v,?_,oD st d v hr⟩;show World.cell? w' ⟨w.heap.size,0+j,none⟩=some v;simp[World.cell?,hnew,hv]
  ·rw[fJ _ _ e]at h ⊢;obtain⟨⟨arr',el',fr',hh,hf⟩,hv⟩:=R.blk m b h hb;have hlt:=blt m b h hb;exact⟨⟨arr',el',fr',by rw[old _ hlt];exact hh,hf⟩,mL st _ _ _ (λj _=>nA (old _ hlt)) hv⟩
 ·by_cases e:m=l
  ·subst e;rw[fB];exact⟨R.bas,λo ho=>by have:=(R.okl _ _ ho).1;omega⟩
  ·rw[fJ _ _ e]at h ⊢;exact R.wrb m b h hb
 ·by_cases e:m=l
  ·subst e;rw[fB];exact⟨R.bas,λo _ ho=>by have:=(R.okl _ _ ho).1;omega⟩
  ·rw[fJ _ _ e]at h ⊢;exact R.apd m b h hb
 ·by_cases e:m=l
  ·subst e;rw[fB]at h;simp only[aA]at h;subst h;simp[Stt.wr]at hb2
  ·rw[fJ _ _ e]at h ⊢;exact R.frz m b h hb hb2
 ·by_cases e:m=l
  ·by_cases e':m'=l
   ·omega
   ·rw[fJ _ _ e']at h' he;subst e;rw[fB]at he;have:=blt m' b' h' (fw hb');simp only at he;omega
  ·rw[fJ _ _ e]at h he;by_cases e':m'=l
   ·subst e';rw[fB]at he;have:=blt m b h (fw hb);simp only at he;omega
   ·rw[fJ _ _ e']at h' he;exact R.inj m b m' b' h h' hb hb' he
theorem Rel.write{w':World}(R:Rel im g μ w ok okp base){l:Nat}{b:Blk}(hl:g l=some b)(hb:b.st.wr=true){cs:List D}{arr:Array Value}{el:TypeId}{fr:Nat×Nat}
 (h1:w'.heap[(μ l).1]?=some (.cells arr el fr)) (hfr:∀o,o<arr.size→¬(fr.1≤o∧o<fr.2))
 (h2:∀k,k≠(μ l).1→w'.heap[k]?=w.heap[k]?) (hs:w'.heap.size=w.heap.size) (hrs:arr.size=pz w (μ l).1) (sm:Same w w')
 (hc:∀(j:Nat)(d:D),cs[j]?=some d→∃v,arr[(μ l).2+j]?=some v∧VR im g μ w ok d v):
 Rel im (upd g l (some ⟨cs,.rw⟩)) μ w' ok okp base∧Stp g μ w ok (upd g l (some ⟨cs,.rw⟩)) μ w' ok base:=by
 have nok:∀k o,ok k o→k≠(μ l).1:=λk o h e=>(R.wrb l b hl hb).2 o (e▸h);have blive:b.st.live=true:=fw (kX hb);have st:Stp g μ w ok (upd g l (some ⟨cs,.rw⟩)) μ w' ok base:=
  ⟨λ_ _ h=>h,λk o hk=>nA (h2 k (nok k o hk)),λk hk=>h2 k (by have:=(R.wrb l b hl hb).1;omega),λm b' h=>by
   by_cases e:m=l
   ·subst e;rw[hl]at h;simp only[aA]at h;subst h;exact⟨_,fB _ _ _,λ_=>⟨blive,rfl,(ma h1).trans hrs⟩⟩
   ·exact⟨b',by rw[fJ _ _ e];exact h,λhq=>⟨hq,rfl,by
     by_cases hq2:(μ m).1=(μ l).1
     ·rw[hq2];exact(ma h1).trans hrs
     ·exact sO (h2 _ hq2)⟩⟩,by omega,sm⟩
 have q:∀m b1,upd g l (some ⟨cs,.rw⟩) m=some b1→b1.st.own=true→∃b0,g m=some b0∧b0.st.own=true:=λm b1 h hb1=>by
  by_cases e:m=l
  ·subst e;exact⟨b,hl,kX hb⟩
  ·rw[fJ _ _ e]at h;exact⟨b1,h,hb1⟩
 refine⟨⟨λm b' h hb'=>?_,λm b' h hb'=>?_,λm b' h hb'=>?_,λm b' h hb' hb2=>?_,λm b1 m' b2 h h' hb1 hb2 he=>?_,λk o h=>by rw[hs];exact R.okl k o h,R.okp,by rw[hs];exact R.bas⟩,st⟩
 ·by_cases e:m=l
  ·subst e;rw[fB]at h;simp only[aA]at h;subst h;refine⟨⟨arr,el,fr,h1,hfr⟩,yT λj d hj=>?_⟩;obtain⟨v,hv,hr⟩:=hc j d hj;exact⟨v,by simp[World.cell?,h1,hv],oD st d v hr⟩
  ·rw[fJ _ _ e]at h;obtain⟨⟨arr',el',fr',hh,hf⟩,hv⟩:=R.blk m b' h hb';refine⟨?_,mL st _ _ _ (λj hj=>?_) hv⟩
   ·by_cases hne:(μ m).1=(μ l).1
    ·rw[hne];exact⟨arr,el,fr,h1,hfr⟩
    ·exact⟨arr',el',fr',by rw[h2 _ hne];exact hh,hf⟩
   ·by_cases hw:b'.st.own=true
    ·exact nA (h2 _ λhe=>e (R.inj m b' l b h hl hw (kX hb) he))
    ·exact st.kept _ _ (R.frz m b' h hb' (J2 hb' (by simpa using hw)).1 j hj)
 ·by_cases e:m=l
  ·subst e;exact R.wrb m b hl hb
  ·rw[fJ _ _ e]at h;exact R.wrb m b' h hb'
 ·by_cases e:m=l
  ·subst e;exact⟨(R.wrb m b hl hb).1,λo _=>(R.wrb m b hl hb).2 o⟩
  ·rw[fJ _ _ e]at h;exact R.apd m b' h hb'
 ·by_cases e:m=l
  ·subst e;rw[fB]at h;simp only[aA]at h;subst h;simp[Stt.wr]at hb2
  ·rw[fJ _ _ e]at h;exact R.frz m b' h hb' hb2
 ·obtain⟨c1,k1,k2⟩:=q m b1 h hb1;obtain⟨c2,k3,k4⟩:=q m' b2 h' hb2;exact R.inj m c1 m' c2 k1 k3 k2 k4 he
theorem Rel.kill(R:Rel im g μ w ok okp base){l:Nat}{b:Blk}(hl:g l=some b){cs:List D}:
 Rel im (upd g l (some ⟨cs,.gone⟩)) μ w ok okp base∧Stp g μ w ok (upd g l (some ⟨cs,.gone⟩)) μ w ok base:=by
 have st:Stp g μ w ok (upd g l (some ⟨cs,.gone⟩)) μ w ok base:=
  ⟨λ_ _ h=>h,λ_ _ _=>rfl,λ_ _=>rfl,λm b' h=>by
   by_cases e:m=l
   ·subst e;exact⟨_,fB _ _ _,λh=>by simp[Stt.live]at h⟩
   ·exact⟨b',by rw[fJ _ _ e];exact h,λh=>⟨h,rfl,rfl⟩⟩,aD _,.refl _⟩
 have q:∀m b1,upd g l (some ⟨cs,.gone⟩) m=some b1→b1.st.live=true→g m=some b1:=λm b1 h hb1=>by
  by_cases e:m=l
  ·subst e;rw[fB]at h;simp only[aA]at h;subst h;simp[Stt.live]at hb1
  ·rwa[fJ _ _ e]at h
 exact⟨⟨λm b' h hb'=>⟨(R.blk m b' (q m b' h hb') hb').1,mL st _ _ _ (λ_ _=>rfl) (R.blk m b' (q m b' h hb') hb').2⟩,
  λm b' h hb'=>R.wrb m b' (q m b' h (fw (kX hb'))) hb',λm b' h hb'=>R.apd m b' (q m b' h (fw hb')) hb',λm b' h hb' hb2=>R.frz m b' (q m b' h hb') hb' hb2,
  λm b1 m' b2 h h' hb1 hb2 he=>R.inj m b1 m' b2 (q m b1 h (fw hb1)) (q m' b2 h' (fw hb2)) hb1 hb2 he,R.okl,R.okp,R.bas⟩,st⟩
theorem Rel.move{w':World}(R:Rel im g μ w ok okp base){l l2:Nat}{b:Blk}(hl:g l=some b)(hb:b.st.wr=true)(hn:g l2=none){cs:List D}{arr:Array Value}{el:TypeId}{fr:Nat×Nat}{o2:Nat}
 (h1:w'.heap[(μ l).1]?=some (.cells arr el fr)) (hfr:∀o,o<arr.size→¬(fr.1≤o∧o<fr.2))
 (h2:∀k,k≠(μ l).1→w'.heap[k]?=w.heap[k]?) (hs:w'.heap.size=w.heap.size) (hrs:arr.size=pz w (μ l).1) (sm:Same w w')
 (hc:∀(j:Nat)(d:D),cs[j]?=some d→∃v,arr[o2+j]?=some v∧VR im g μ w ok d v):
 Rel im (upd (upd g l (some ⟨[],.gone⟩)) l2 (some ⟨cs,.rw⟩)) (upd μ l2 ((μ l).1,o2)) w' ok okp base∧Stp g μ w ok (upd (upd g l (some ⟨[],.gone⟩)) l2 (some ⟨cs,.rw⟩)) (upd μ l2 ((μ l).1,o2)) w' ok base:=by
 have nok:∀k o,ok k o→k≠(μ l).1:=λk o h e=>(R.wrb l b hl hb).2 o (e▸h);have hne:l≠l2:=λe=>by rw[e,hn]at hl;cases hl
 have rs:∀m,pz w' (μ m).1=pz w (μ m).1:=λm=>by
  by_cases hq2:(μ m).1=(μ l).1
  ·rw[hq2];exact(ma h1).trans hrs
  ·exact sO (h2 _ hq2)
 have st:Stp g μ w ok (upd (upd g l (some ⟨[],.gone⟩)) l2 (some ⟨cs,.rw⟩)) (upd μ l2 ((μ l).1,o2)) w' ok base:=
  ⟨λ_ _ h=>h,λk o hk=>nA (h2 k (nok k o hk)),λk hk=>h2 k (by have:=(R.wrb l b hl hb).1;omega),λm b' h=>by
   have e2:m≠l2:=λe=>by subst e;rw[hn]at h;cases h
   by_cases e:m=l
   ·subst e;exact⟨_,by rw[fJ _ _ e2,fB],λh=>by simp[Stt.live]at h⟩
   ·exact⟨b',by rw[fJ _ _ e2,fJ _ _ e];exact h,λhq=>⟨hq,fJ _ _ e2,rs m⟩⟩,by omega,sm⟩
 have q:∀m b1,upd (upd g l (some ⟨[],.gone⟩)) l2 (some ⟨cs,.rw⟩) m=some b1→b1.st.live=true→(m=l2∧b1=⟨cs,.rw⟩)∨(m≠l2∧m≠l∧g m=some b1):=λm b1 h hb1=>by
  by_cases e2:m=l2
  ·subst e2;rw[fB]at h;simp only[aA]at h;exact .inl ⟨rfl,h.symm⟩
  ·rw[fJ _ _ e2]at h;by_cases e:m=l
   ·subst e;rw[fB]at h;simp only[aA]at h;subst h;simp[Stt.live]at hb1
   ·rw[fJ _ _ e]at h;exact .inr ⟨e2,e,h⟩
 refine⟨⟨λm b' h hb'=>?_,λm b' h hb'=>?_,λm b' h hb'=>?_,λm b' h hb' hb2=>?_,λm b1 m' b2 h h' hb1 hb2 he=>?_,λk o h=>by rw[hs];exact R.okl k o h,R.okp,by rw[hs];exact R.bas⟩,st⟩
 ·rcases q m b' h hb' with⟨rfl,rfl⟩|⟨e2,e,hg⟩
  ·rw[fB];refine⟨⟨arr,el,fr,h1,hfr⟩,yT λj d hj=>?_⟩;obtain⟨v,hv,hr⟩:=hc j d hj;exact⟨v,by simp[World.cell?,h1,hv],oD st d v hr⟩
  ·rw[fJ _ _ e2];obtain⟨⟨arr',el',fr',hh,hf⟩,hv⟩:=R.blk m b' hg hb';refine⟨?_,mL st _ _ _ (λj hj=>?_) hv⟩
   ·by_cases hne:(μ m).1=(μ l).1
    ·rw[hne];exact⟨arr,el,fr,h1,hfr⟩
    ·exact⟨arr',el',fr',by rw[h2 _ hne];exact hh,hf⟩
   ·by_cases hw:b'.st.own=true
    ·exact nA (h2 _ λhe=>e (R.inj m b' l b hg hl hw (kX hb) he))
    ·exact st.kept _ _ (R.frz m b' hg hb' (J2 hb' (by simpa using hw)).1 j hj)
 ·rcases q m b' h (fw (kX hb'))with⟨rfl,rfl⟩|⟨e2,e,hg⟩
  ·rw[fB];exact R.wrb l b hl hb
  ·rw[fJ _ _ e2];exact R.wrb m b' hg hb'
 ·rcases q m b' h (fw hb')with⟨rfl,rfl⟩|⟨e2,e,hg⟩
  ·rw[fB];exact⟨(R.wrb l b hl hb).1,λo _=>(R.wrb l b hl hb).2 o⟩
  ·rw[fJ _ _ e2];exact R.apd m b' hg hb'
 ·rcases q m b' h hb' with⟨rfl,rfl⟩|⟨e2,e,hg⟩
  ·simp[Stt.wr]at hb2
  ·rw[fJ _ _ e2];exact R.frz m b' hg hb' hb2
 ·rcases q m b1 h (fw hb1)with⟨rfl,rfl⟩|⟨e2,e,hg⟩
  ·rcases q m' b2 h' (fw hb2)with⟨rfl,rfl⟩|⟨e2',e',hg'⟩
   ·rfl
   ·rw[fB,fJ _ _ e2']at he;exact absurd (R.inj m' b2 l b hg' hl hb2 (kX hb) he.symm) e'
  ·rcases q m' b2 h' (fw hb2)with⟨rfl,rfl⟩|⟨e2',e',hg'⟩
   ·rw[fB,fJ _ _ e2]at he;exact absurd (R.inj m b1 l b hg hl hb1 (kX hb) he) e
   ·rw[fJ _ _ e2,fJ _ _ e2']at he;exact R.inj m b1 m' b2 hg hg' hb1 hb2 he
theorem Rel.toApd(R:Rel im g μ w ok okp base){l:Nat}{b:Blk}(hl:g l=some b)(hb:b.st.own=true):
 Rel im (upd g l (some ⟨b.cs,.apd⟩)) μ w (λk o=>ok k o∨(k=(μ l).1∧o<(μ l).2+b.cs.length)) okp base∧Stp g μ w ok (upd g l (some ⟨b.cs,.apd⟩)) μ w (λk o=>ok k o∨(k=(μ l).1∧o<(μ l).2+b.cs.length)) base:=by
 have st:Stp g μ w ok (upd g l (some ⟨b.cs,.apd⟩)) μ w (λk o=>ok k o∨(k=(μ l).1∧o<(μ l).2+b.cs.length)) base:=
  ⟨λ_ _ h=>.inl h,λ_ _ _=>rfl,λ_ _=>rfl,λm b' h=>by
   by_cases e:m=l
   ·subst e;rw[hl]at h;simp only[aA]at h;subst h;exact⟨_,fB _ _ _,λ_=>⟨fw hb,rfl,rfl⟩⟩
   ·exact⟨b',by rw[fJ _ _ e];exact h,λh=>⟨h,rfl,rfl⟩⟩,aD _,.refl _⟩
 have q:∀m b1,upd g l (some ⟨b.cs,.apd⟩) m=some b1→b1.st.own=true→∃b0,g m=some b0∧b0.st.own=true∧b0.cs=b1.cs:=λm b1 h hb1=>by
  by_cases e:m=l
  ·subst e;rw[fB]at h;simp only[aA]at h;subst h;exact⟨b,hl,hb,rfl⟩
  ·rw[fJ _ _ e]at h;exact⟨b1,h,hb1,rfl⟩
 refine⟨⟨λm b' h hb'=>?_,λm b' h hb'=>?_,λm b' h hb'=>?_,λm b' h hb' hb2=>?_,λm b1 m' b2 h h' hb1 hb2 he=>?_,λk o h=>?_,λk o h=>.inl (R.okp k o h),R.bas⟩,st⟩
 ·by_cases e:m=l
  ·subst e;rw[fB]at h;simp only[aA]at h;subst h;exact⟨(R.blk m b hl (fw hb)).1,mL st _ _ _ (λ_ _=>rfl) (R.blk m b hl (fw hb)).2⟩
  ·rw[fJ _ _ e]at h;exact⟨(R.blk m b' h hb').1,mL st _ _ _ (λ_ _=>rfl) (R.blk m b' h hb').2⟩
 ·by_cases e:m=l
  ·subst e;rw[fB]at h;simp only[aA]at h;subst h;simp[Stt.wr]at hb'
  ·rw[fJ _ _ e]at h;refine⟨(R.wrb m b' h hb').1,λo ho=>?_⟩;rcases ho with ho|ho
   ·exact(R.wrb m b' h hb').2 o ho
   ·exact e (R.inj m b' l b h hl (kX hb') hb ho.1)
 ·obtain⟨b0,h0,ho0,hc0⟩:=q m b' h hb';refine⟨(R.apd m b0 h0 ho0).1,λo hle ho=>?_⟩;rcases ho with ho|ho
  ·exact(R.apd m b0 h0 ho0).2 o (by rw[hc0];exact hle) ho
  ·have e:=R.inj m b0 l b h0 hl ho0 hb ho.1;subst e;rw[hl]at h0;simp only[aA]at h0;subst h0;rw[←hc0]at hle;omega
 ·by_cases e:m=l
  ·subst e;rw[fB]at h;simp only[aA]at h;subst h;exact λj hj=>.inr ⟨rfl,by simp only at hj;omega⟩
  ·rw[fJ _ _ e]at h;exact(R.frz m b' h hb' hb2).mono λ_ _ h=>.inl h
 ·obtain⟨c1,k1,k2,_⟩:=q m b1 h hb1;obtain⟨c2,k3,k4,_⟩:=q m' b2 h' hb2;exact R.inj m c1 m' c2 k1 k3 k2 k4 he
 ·rcases h with h|h
  ·exact R.okl k o h
  ·obtain⟨h,_⟩:=h;subst h;exact⟨R.blt hl (fw hb),.inr (R.apd l b hl hb).1⟩
theorem Rel.share{w':World}(R:Rel im g μ w ok okp base){l l2:Nat}{b:Blk}(hl:g l=some b)(hb:b.st=.apd)(hn:g l2=none){cs:List D}{arr arr0:Array Value}{el el0:TypeId}{fr fr0:Nat×Nat}{o2:Nat}
 (h0:w.heap[(μ l).1]?=some (.cells arr0 el0 fr0)) (h1:w'.heap[(μ l).1]?=some (.cells arr el fr)) (hfr:∀o,o<arr.size→¬(fr.1≤o∧o<fr.2)) (hold:∀k,k<(μ l).2+b.cs.length→arr[k]?=arr0[k]?)
 (h2:∀k,k≠(μ l).1→w'.heap[k]?=w.heap[k]?) (hs:w'.heap.size=w.heap.size) (hrs:arr.size=pz w (μ l).1) (sm:Same w w') (hend:(μ l).2+b.cs.length≤o2+cs.length)
 (hc:∀(j:Nat)(d:D),cs[j]?=some d→∃v,arr[o2+j]?=some v∧VR im g μ w ok d v):
 Rel im (upd (upd g l (some ⟨b.cs,.frz⟩)) l2 (some ⟨cs,.apd⟩)) (upd μ l2 ((μ l).1,o2)) w' (λk o=>ok k o∨(k=(μ l).1∧o<o2+cs.length)) okp base∧
  Stp g μ w ok (upd (upd g l (some ⟨b.cs,.frz⟩)) l2 (some ⟨cs,.apd⟩)) (upd μ l2 ((μ l).1,o2)) w' (λk o=>ok k o∨(k=(μ l).1∧o<o2+cs.length)) base:=by
 have hown:b.st.own=true:=by rw[hb];rfl
 have hlive:b.st.live=true:=by rw[hb];rfl
 have kept:∀k o,ok k o→w'.cell? ⟨k,o,none⟩=w.cell? ⟨k,o,none⟩:=λk o h=>by
  by_cases e:k=(μ l).1
  ·subst e;have hlt:o<(μ l).2+b.cs.length:=by
    rcases az o ((μ l).2+b.cs.length)with hq|hq
    ·exact hq
    ·exact absurd h ((R.apd l b hl hown).2 o hq)
   simp only[World.cell?,h0,h1];simpa using hold o hlt
  ·exact nA (h2 k e)
 have rs:∀m,pz w' (μ m).1=pz w (μ m).1:=λm=>by
  by_cases hq2:(μ m).1=(μ l).1
  ·rw[hq2];exact(ma h1).trans hrs
  ·exact sO (h2 _ hq2)
 have st:Stp g μ w ok (upd (upd g l (some ⟨b.cs,.frz⟩)) l2 (some ⟨cs,.apd⟩)) (upd μ l2 ((μ l).1,o2)) w' (λk o=>ok k o∨(k=(μ l).1∧o<o2+cs.length)) base:=
  ⟨λ_ _ h=>.inl h,kept,λk hk=>h2 k (by have:=(R.apd l b hl hown).1;omega),λm b' h=>by
   have e2:m≠l2:=λe=>by subst e;rw[hn]at h;cases h
   by_cases e:m=l
   ·subst e;rw[hl]at h;simp only[aA]at h;subst h;exact⟨_,by rw[fJ _ _ e2,fB],λ_=>⟨hlive,fJ _ _ e2,rs m⟩⟩
   ·exact⟨b',by rw[fJ _ _ e2,fJ _ _ e];exact h,λhq=>⟨hq,fJ _ _ e2,rs m⟩⟩,by omega,sm⟩
 have ll2:l≠l2:=λe=>by rw[e,hn]at hl;cases hl
 have q:∀m b1,upd (upd g l (some ⟨b.cs,.frz⟩)) l2 (some ⟨cs,.apd⟩) m=some b1→(m=l2∧b1=⟨cs,.apd⟩)∨(m≠l2∧m=l∧b1=⟨b.cs,.frz⟩)∨(m≠l2∧m≠l∧g m=some b1):=λm b1 h=>by
  by_cases e2:m=l2
  ·subst e2;rw[fB]at h;simp only[aA]at h;exact .inl ⟨rfl,h.symm⟩
  ·rw[fJ _ _ e2]at h;by_cases e:m=l
   ·subst e;rw[fB]at h;simp only[aA]at h;exact .inr (.inl ⟨e2,rfl,h.symm⟩)
   ·rw[fJ _ _ e]at h;exact .inr (.inr ⟨e2,e,h⟩)
 have oth:∀m b1,m≠l→g m=some b1→b1.st.own=true→(μ m).1≠(μ l).1:=λm b1 e h ho he=>e (R.inj m b1 l b h hl ho hown he);refine⟨⟨λm b' h hb'=>?_,λm b' h hb'=>?_,λm b' h hb'=>?_,λm b' h hb' hb2=>?_,λm b1 m' b2 h h' hb1 hb2 he=>?_,λk o h=>?_,λk o h=>.inl (R.okp k o h),by rw[hs];exact R.bas⟩,st⟩
 ·rcases q m b' h with⟨rfl,rfl⟩|⟨e2,rfl,rfl⟩|⟨e2,e,hg⟩
  ·rw[fB];refine⟨⟨arr,el,fr,h1,hfr⟩,yT λj d hj=>?_⟩;obtain⟨v,hv,hr⟩:=hc j d hj;exact⟨v,by simp[World.cell?,h1,hv],oD st d v hr⟩
  ·rw[fJ _ _ e2];refine⟨⟨arr,el,fr,h1,hfr⟩,mL st _ _ _ (λj hj=>kept _ _ ?_) (R.blk m b hl hlive).2⟩;exact R.frz m b hl hlive (by rw[hb];rfl) j hj
  ·rw[fJ _ _ e2];obtain⟨⟨arr',el',fr',hh,hf⟩,hv⟩:=R.blk m b' hg hb';refine⟨?_,mL st _ _ _ (λj hj=>?_) hv⟩
   ·by_cases hne:(μ m).1=(μ l).1
    ·rw[hne];exact⟨arr,el,fr,h1,hfr⟩
    ·exact⟨arr',el',fr',by rw[h2 _ hne];exact hh,hf⟩
   ·by_cases hw:b'.st.own=true
    ·exact nA (h2 _ (oth m b' e hg hw))
    ·exact kept _ _ (R.frz m b' hg hb' (J2 hb' (by simpa using hw)).1 j hj)
 ·rcases q m b' h with⟨rfl,rfl⟩|⟨e2,rfl,rfl⟩|⟨e2,e,hg⟩
  ·simp[Stt.wr]at hb'
  ·simp[Stt.wr]at hb'
  ·rw[fJ _ _ e2];refine⟨(R.wrb m b' hg hb').1,λo ho=>?_⟩;rcases ho with ho|ho
   ·exact(R.wrb m b' hg hb').2 o ho
   ·exact oth m b' e hg (kX hb') ho.1
 ·rcases q m b' h with⟨rfl,rfl⟩|⟨e2,rfl,rfl⟩|⟨e2,e,hg⟩
  ·rw[fB];refine⟨(R.apd l b hl hown).1,λo hle ho=>?_⟩;simp only at hle;rcases ho with ho|ho
   ·exact(R.apd l b hl hown).2 o (by omega) ho
   ·omega
  ·simp[Stt.own]at hb'
  ·rw[fJ _ _ e2];refine⟨(R.apd m b' hg hb').1,λo hle ho=>?_⟩;rcases ho with ho|ho
   ·exact(R.apd m b' hg hb').2 o hle ho
   ·exact oth m b' e hg hb' ho.1
 ·rcases q m b' h with⟨rfl,rfl⟩|⟨e2,rfl,rfl⟩|⟨e2,e,hg⟩
  ·rw[fB];exact λj hj=>.inr ⟨rfl,by simp only at hj ⊢;omega⟩
  ·rw[fJ _ _ e2];exact λj hj=>.inr ⟨rfl,by simp only at hj;omega⟩
  ·rw[fJ _ _ e2];exact(R.frz m b' hg hb' hb2).mono λ_ _ h=>.inl h
 ·rcases q m b1 h with⟨rfl,rfl⟩|⟨e2,rfl,rfl⟩|⟨e2,e,hg⟩
  ·rcases q m' b2 h' with⟨rfl,rfl⟩|⟨e2',rfl,rfl⟩|⟨e2',e',hg'⟩
   ·rfl
   ·simp[Stt.own]at hb2
   ·rw[fB,fJ _ _ e2']at he;exact absurd he.symm (oth m' b2 e' hg' hb2)
  ·simp[Stt.own]at hb1
  ·rcases q m' b2 h' with⟨rfl,rfl⟩|⟨e2',rfl,rfl⟩|⟨e2',e',hg'⟩
   ·rw[fB,fJ _ _ e2]at he;exact absurd he (oth m b1 e hg hb1)
   ·simp[Stt.own]at hb2
   ·rw[fJ _ _ e2,fJ _ _ e2']at he;exact R.inj m b1 m' b2 hg hg' hb1 hb2 he
 ·rw[hs];rcases h with h|h
  ·exact R.okl k o h
  ·obtain⟨h,_⟩:=h;subst h;exact⟨R.blt hl hlive,.inr (R.apd l b hl hown).1⟩
theorem Rel.freeze(R:Rel im g μ w ok okp base){l:Nat}{b:Blk}(hl:g l=some b)(hb:b.st.live=true):
 ∃ok',Rel im (upd g l (some ⟨b.cs,b.st.fz⟩)) μ w ok' okp base∧Stp g μ w ok (upd g l (some ⟨b.cs,b.st.fz⟩)) μ w ok' base∧okN ok' (μ l).1 (μ l).2 b.cs.length:=by
 by_cases hwr:b.st.wr=true
 ·have hown:=kX hwr;have hfz:b.st.fz=.frz:=by cases hh:b.st<;>simp_all [Stt.wr,Stt.fz]
  rw[hfz];have st:Stp g μ w ok (upd g l (some ⟨b.cs,.frz⟩)) μ w (λk o=>ok k o∨k=(μ l).1) base:=
   ⟨λ_ _ h=>.inl h,λ_ _ _=>rfl,λ_ _=>rfl,λm b' h=>by
    by_cases e:m=l
    ·subst e;rw[hl]at h;simp only[aA]at h;subst h;exact⟨_,fB _ _ _,λ_=>⟨hb,rfl,rfl⟩⟩
    ·exact⟨b',by rw[fJ _ _ e];exact h,λh=>⟨h,rfl,rfl⟩⟩,aD _,.refl _⟩
  have q:∀m b1,upd g l (some ⟨b.cs,.frz⟩) m=some b1→b1.st.own=true→m≠l∧g m=some b1:=λm b1 h hb1=>by
   by_cases e:m=l
   ·subst e;rw[fB]at h;simp only[aA]at h;subst h;simp[Stt.own]at hb1
   ·rw[fJ _ _ e]at h;exact⟨e,h⟩
  refine⟨_,⟨λm b' h hb'=>?_,λm b' h hb'=>?_,λm b' h hb'=>?_,λm b' h hb' hb2=>?_,λm b1 m' b2 h h' hb1 hb2 he=>R.inj m b1 m' b2 (q m b1 h hb1).2 (q m' b2 h' hb2).2 hb1 hb2 he,λk o h=>?_,λk o h=>.inl (R.okp k o h),R.bas⟩,st,λj hj=>.inr rfl⟩
  ·by_cases e:m=l
   ·subst e;rw[fB]at h;simp only[aA]at h;subst h;exact⟨(R.blk m b hl hb).1,mL st _ _ _ (λ_ _=>rfl) (R.blk m b hl hb).2⟩
   ·rw[fJ _ _ e]at h;exact⟨(R.blk m b' h hb').1,mL st _ _ _ (λ_ _=>rfl) (R.blk m b' h hb').2⟩
  ·obtain⟨hne,hg⟩:=q m b' h (kX hb');refine⟨(R.wrb m b' hg hb').1,λo ho=>?_⟩;rcases ho with ho|ho
   ·exact(R.wrb m b' hg hb').2 o ho
   ·exact hne (R.inj m b' l b hg hl (kX hb') hown ho)
  ·obtain⟨hne,hg⟩:=q m b' h hb';refine⟨(R.apd m b' hg hb').1,λo hle ho=>?_⟩;rcases ho with ho|ho
   ·exact(R.apd m b' hg hb').2 o hle ho
   ·exact hne (R.inj m b' l b hg hl hb' hown ho)
  ·by_cases e:m=l
   ·subst e;exact λj hj=>.inr rfl
   ·rw[fJ _ _ e]at h;exact(R.frz m b' h hb' hb2).mono λ_ _ h=>.inl h
  ·rcases h with h|h
   ·exact R.okl k o h
   ·subst h;exact⟨R.blt hl hb,.inr (R.apd l b hl hown).1⟩
 ·have h2:b.st.fz=b.st:=by cases hh:b.st<;>simp_all [Stt.wr,Stt.fz]
  have hsame:upd g l (some ⟨b.cs,b.st.fz⟩)=g:=by
   funext m;by_cases e:m=l
   ·subst e;rw[fB,hl,h2]
   ·rw[fJ _ _ e]
  rw[hsame];exact⟨ok,R,.refl ..,R.frz l b hl hb (by simpa using hwr)⟩
theorem Rel.freezeF(R:Rel im g μ w ok okp base){l:Nat}{b:Blk}(hl:g l=some b)(hb:b.st.own=true):
 ∃ok',Rel im (upd g l (some ⟨b.cs,.frz⟩)) μ w ok' okp base∧Stp g μ w ok (upd g l (some ⟨b.cs,.frz⟩)) μ w ok' base:=by
 obtain⟨ok',r1,r2,r3⟩:=R.freeze hl (fw hb);cases hh:b.st with
 |rw=>rw[hh]at r1 r2;exact⟨ok',r1,r2⟩
 |apd=>
  have st:Stp g μ w ok (upd g l (some ⟨b.cs,.frz⟩)) μ w ok base:=
   ⟨λ_ _ h=>h,λ_ _ _=>rfl,λ_ _=>rfl,λm b' h=>by
    by_cases e:m=l
    ·subst e;rw[hl]at h;simp only[aA]at h;subst h;exact⟨_,fB _ _ _,λ_=>⟨fw hb,rfl,rfl⟩⟩
    ·exact⟨b',by rw[fJ _ _ e];exact h,λh=>⟨h,rfl,rfl⟩⟩,aD _,.refl _⟩
  have q:∀m b1,upd g l (some ⟨b.cs,.frz⟩) m=some b1→b1.st.own=true→g m=some b1:=λm b1 h hb1=>by
   by_cases e:m=l
   ·subst e;rw[fB]at h;simp only[aA]at h;subst h;simp[Stt.own]at hb1
   ·rw[fJ _ _ e]at h;exact h
  refine⟨ok,⟨λm b' h hb'=>?_,λm b' h hb'=>R.wrb m b' (q m b' h (kX hb')) hb',λm b' h hb'=>R.apd m b' (q m b' h hb') hb',λm b' h hb' hb2=>?_,λm b1 m' b2 h h' hb1 hb2 he=>R.inj m b1 m' b2 (q m b1 h hb1) (q m' b2 h' hb2) hb1 hb2 he,R.okl,R.okp,R.bas⟩,st⟩
  ·by_cases e:m=l
   ·subst e;rw[fB]at h;simp only[aA]at h;subst h;exact⟨(R.blk m b hl (fw hb)).1,mL st _ _ _ (λ_ _=>rfl) (R.blk m b hl (fw hb)).2⟩
   ·rw[fJ _ _ e]at h;exact⟨(R.blk m b' h hb').1,mL st _ _ _ (λ_ _=>rfl) (R.blk m b' h hb').2⟩
  ·by_cases e:m=l
   ·subst e;rw[fB]at h;simp only[aA]at h;subst h;exact R.frz m b hl (fw hb) (by rw[hh];rfl)
   ·rw[fJ _ _ e]at h;exact R.frz m b' h hb' hb2
 |_=>rw[hh]at hb;cases hb
theorem BE(s:Stt):s.fz.live=s.live:=by cases s<;>rfl
theorem VN(s:Stt):s.fz.fz=s.fz:=by cases s<;>rfl
end
theorem Addr.add_eq{ad:Addr}(h:ad.spot=none)(j:Nat):ad.add j=⟨ad.block,ad.off+j,none⟩:=by
 unfold Addr.add;obtain⟨b,o,s⟩:=ad;simp only at h;subst h;split
 ·rename_i h;subst h;rfl
 ·rfl
theorem Addr.eta{ad:Addr}(h:ad.spot=none):ad=⟨ad.block,ad.off,none⟩:=by
 obtain⟨b,o,s⟩:=ad;simp only at h;subst h;rfl
section
variable {P:Program} {w:World}
theorem og{t:TypeId}{d:TypeDesc}(h:P.underlying t=some d):∃i,P.info? t=some i:=by
 unfold Program.underlying at h;cases hi:P.info? t with
 |none=>rw[hi]at h;cases h
 |some i=>exact⟨i,rfl⟩
theorem o9{t:TypeId}{i:TypeInfo}(h:P.info? t=some i):il P t=i.size:=by simp[il,h]
theorem Ft{t:TypeId}{i:TypeInfo}(h:P.info? t=some i):Ck P t=i.bytes:=by simp[Ck,h]
theorem sL{t:TypeId}{z:Value}(h:pX P t=some z):∃i,P.info? t=some i∧i.zero=some z:=by
 unfold pX at h;cases hi:P.info? t with
 |none=>rw[hi]at h;cases h
 |some i=>rw[hi]at h;exact⟨i,rfl,h⟩
theorem sf{t:TypeId}{i:TypeInfo}(h:P.info? t=some i):(typeInfo t).run P w=.ok i w:=by simp[typeInfo,h]
theorem ij{t:TypeId}{i:TypeInfo}(h:P.info? t=some i):(sizeOf t).run P w=.ok i.size w:=by simp[sizeOf,sf h]
theorem pZ{t:TypeId}{i:TypeInfo}{z:Value}(h:P.info? t=some i)(hz:i.zero=some z):(zeroValue t).run P w=.ok z w:=by simp[zeroValue,sf h,hz]
theorem fF{t:TypeId}{d:TypeDesc}(h:P.underlying t=some d):(underlying t).run P w=.ok d w:=by simp[underlying,h]
theorem n9{t:TypeId}{d:TypeDesc}(h:P.underlying t=some d):(isAgg t).run P w=.ok (Ct P t) w:=by
 simp only[isAgg,Sem.run_bind,fF h,Result.andThen_ok,Ct,h];cases d<;>rfl
end
section
variable {P:Program} {im:Nat→Option Nat} {g:Nat→Option Blk} {μ:Nat→Nat×Nat} {w:World} {ok okp:Nat→Nat→Prop} {base:Nat}
theorem RW(v:Value):VR im g μ w ok (cV1 v) v:=by
 unfold cV1;split
 ·simp[VR]
 ·simp[VR]
 ·rename_i s;unfold Yk;split
  ·rename_i h;simp only[VR];rw[h]
  ·simp only[VR]
 ·simp[VR]
 ·simp[VR]
 ·simp only[VR,TR];exact⟨none,0,rfl,aD _,λ_=>rfl,λh=>absurd rfl h⟩
 ·simp[VR]
theorem HI(vs:List Value):VRl im g μ w ok (vs.map cV1) vs:=by
 induction vs with
 |nil=>simp[VRl]
 |cons v vs ih=>simp only[bB,VRl];exact⟨v,vs,rfl,RW v,ih⟩
theorem Yj(v:Value):VR im g μ w ok (cV v) v:=by
 unfold cV;split
 ·rename_i cs;simp only[VR];exact⟨cs,rfl,HI _⟩
 ·exact RW _
theorem IK(v:Value):VRl im g μ w ok (zc v) v.cells.toList:=HI _
def px(im:Nat→Option Nat)(g:Nat→Option Blk)(μ:Nat→Nat×Nat)(w:World)(ok:Nat→Nat→Prop)(e:Env)(tmps:Array Value):Prop:=
 ∀t,VR im g μ w ok (X.ev e (.t t)) (tmps.getD t undef)
variable {e:Env} {a:Act}
theorem j0(hE:px im g μ w ok e a.tmps)(x:Operand):VR im g μ w ok (X.ev e (cX im x)) (a.eval x):=by
 cases x with
 |tmp t=>exact hE t
 |const v=>exact Yj v
 |global n=>simp[cX,X.ev,VR]
 |func f=>
  simp only[cX];cases hf:im f with
  |none=>simp[X.ev,VR]
  |some k=>simp only[X.ev,VR];exact⟨f,#[],hf,rfl,by simp[VRl]⟩
theorem Le(hE:px im g μ w ok e a.tmps)(xs:List Operand):VRl im g μ w ok ((xs.map (cX im)).map (X.ev e)) (xs.map a.eval):=by
 induction xs with
 |nil=>simp[VRl]
 |cons x xs ih=>simp only[bB,VRl];exact⟨_,_,rfl,j0 hE x,ih⟩
theorem Cw{cs:List D}{b o:Nat}(h:VRc im g μ w ok cs b o)(n:Nat):VRc im g μ w ok (cs.drop n) b (o+n):=
 yT λj d hj=>by
  rw[bx]at hj;obtain⟨v,hv,hr⟩:=xR h hj;exact⟨v,by rw[←hv];congr 2;omega,hr⟩
theorem Rq{cs:List D}{b o:Nat}(h:VRc im g μ w ok cs b o)(n:Nat):VRc im g μ w ok (cs.take n) b o:=
 yT λj d hj=>xR h (by rw[cY]at hj;split at hj<;>simp_all)
theorem DD{cs:List D}{b o:Nat}(h:TRc im w ok cs b o)(n:Nat):TRc im w ok (cs.drop n) b (o+n):=
 DA λj d hj=>by
  rw[bx]at hj;obtain⟨v,hv,hr⟩:=GB h hj;exact⟨v,by rw[←hv];congr 2;omega,hr⟩
theorem Ru{cs:List D}{b o:Nat}(h:TRc im w ok cs b o)(n:Nat):TRc im w ok (cs.take n) b o:=
 DA λj d hj=>GB h (by rw[cY]at hj;split at hj<;>simp_all)
theorem vv{off n:Nat}{cs r:List D}(h:cut off n cs=some r):r=(cs.drop off).take n∧r.length=n:=by
 unfold cut at h;simp only at h;split at h
 ·rename_i hl;simp only[aA]at h;subst h;exact⟨rfl,hl⟩
 ·cases h
theorem vw{off n:Nat}{cs r:List D}(h:cut off n cs=some r){b o:Nat}(hv:VRc im g μ w ok cs b o):VRc im g μ w ok r b (o+off):=by
 obtain⟨rfl,_⟩:=vv h;exact Rq (Cw hv off) n
theorem Ra(R:Rel im g μ w ok okp base){d:D}{v:Value}{cs:List D}(h:at_ g d=some cs)(hv:VR im g μ w ok d v):
 ∃ad:Addr,v=.pointer (some ad)∧ad.spot=none∧VRc im g μ w ok cs ad.block ad.off:=by
 cases d<;>simp only[at_]at h<;>try cases h
 case ptr l off=>
  cases hb:g l with
  |none=>rw[hb]at h;cases h
  |some b=>
   rw[hb]at h;simp only at h;split at h
   ·cases h
   ·rename_i hl;simp only[aA]at h;subst h;simp only[VR]at hv;obtain⟨b',a',hb',rfl,hv⟩:=hv;rw[hb]at hb';simp only[aA]at hb';subst hb';have hl':b.st.live=true:=by simpa using hl
    exact⟨_,by rw[hv hl'],rfl,Cw (R.blk l b hb hl').2 off⟩
 case fp=>
  simp only[VR,TR]at hv;obtain⟨ad,rfl,h1,h2,h3⟩:=hv;exact⟨ad,rfl,h1,yS h3⟩
theorem Cg(R:Rel im g μ w ok okp base){d:D}{v:Value}{cs:List D}{sz:Nat}(h:cellsOf g sz d=some cs)(hv:VR im g μ w ok d v):
 ∃ad len cap,v=.slice ad len cap∧lenOf d=some len∧cs.length=len*sz∧len≤cap∧(cs≠[]→∃x:Addr,ad=some x∧x.spot=none∧VRc im g μ w ok cs x.block x.off):=by
 cases d<;>simp only[cellsOf]at h<;>try cases h
 case sl l off len cm z ex=>
  cases hb:g l with
  |none=>rw[hb]at h;cases h
  |some b=>
   rw[hb]at h;simp only at h;split at h
   ·cases h
   ·rename_i hl;split at h
    ·simp only[VR]at hv;obtain⟨b',a',cap,hb',rfl,hv⟩:=hv;rw[hb]at hb';simp only[aA]at hb';subst hb';have hl':b.st.live=true:=by simpa using hl
     obtain⟨h1,h2,h3,h4,h5⟩:=hv hl';exact⟨_,_,_,rfl,rfl,(vv h).2,by omega,λ_=>⟨_,h2,rfl,vw h (R.blk l b hb hl').2⟩⟩
    ·cases h
 case tree cs' len ex=>
  split at h
  ·rename_i hl;simp only[aA]at h;subst h;simp only[VR,TR]at hv;obtain⟨a',cap,rfl,h1,h2,h3⟩:=hv;exact⟨_,_,_,rfl,rfl,hl,h1,λhn=>by
    obtain⟨ad,e1,e2,e3,e4⟩:=h3 hn;exact⟨ad,e1,e2,yS e4⟩⟩
  ·cases h
def rm(g:Nat→Option Blk):Nat→List Blk→Nat→Option Blk
 |_,[]=>g
 |nx,b::bs=>rm (upd g nx (some b)) (nx+1) bs
def Okv(im:Nat→Option Nat)(g:Nat→Option Blk)(μ:Nat→Nat×Nat)(w:World)(ok okp:Nat→Nat→Prop)(base:Nat)(g':Nat→Option Blk)(d:D)(v:Value)(w':World):Prop:=
 ∃μ' ok',Rel im g' μ' w' ok' okp base∧Stp g μ w ok g' μ' w' ok' base∧VR im g' μ' w' ok' d v
def wI(im:Nat→Option Nat)(g:Nat→Option Blk)(μ:Nat→Nat×Nat)(w:World)(ok okp:Nat→Nat→Prop)(base:Nat)(g':Nat→Option Blk)(d:D)(r:Result Next):Prop:=
 ∃v w',(r=.ok (.value v) w'∨(r=.ok .skip w'∧v=undef))∧Okv im g μ w ok okp base g' d v w'
theorem Okv.same(R:Rel im g μ w ok okp base){d:D}{v:Value}(h:VR im g μ w ok d v):Okv im g μ w ok okp base g d v w:=⟨μ,ok,R,.refl ..,h⟩
theorem wI.of_v{s:Sem Value}{d:D}{v:Value}{w':World}{g':Nat→Option Blk}(h:s.run P w=.ok v w')(k:Okv im g μ w ok okp base g' d v w'):
 wI im g μ w ok okp base g' d ((do pure (.value (←s)):Sem Next).run P w):=⟨v,w',.inl (by simp[h]),k⟩
theorem wI.of_same(R:Rel im g μ w ok okp base){s:Sem Value}{d:D}{v:Value}(h:s.run P w=.ok v w)(k:VR im g μ w ok d v):
 wI im g μ w ok okp base g d ((do pure (.value (←s)):Sem Next).run P w):=.of_v h (.same R k)
theorem Okv.new(R:Rel im g μ w ok okp base){l:Nat}(hl:g l=none){cs:List D}{arr:Array Value}{el:TypeId}{fr:Nat×Nat}{w':World}{d:D}{v:Value}
 (hw:w'.heap=w.heap.push (.cells arr el fr)) (sm:Same w w') (hfr:∀o,o<arr.size→¬(fr.1≤o∧o<fr.2))
 (hc:∀(j:Nat)(x:D),cs[j]?=some x→∃v,arr[j]?=some v∧VR im g μ w ok x v)
 (hv:VR im (upd g l (some ⟨cs,.rw⟩)) (upd μ l (w.heap.size,0)) w' ok d v):Okv im g μ w ok okp base (upd g l (some ⟨cs,.rw⟩)) d v w':=by
 obtain⟨h1,h2⟩:=R.alloc (w':=w') hl (λb hb=>by rw[hw,Array.getElem?_push,aE (by omega)]) (by rw[hw,Array.getElem?_push,aC rfl]) (by rw[hw];simp) sm hfr hc;exact⟨_,_,h1,h2,hv⟩
theorem Okv.new'(R:Rel im g μ w ok okp base){l:Nat}(hl:g l=none){cs:List D}{arr:Array Value}{el:TypeId}{fr:Nat×Nat}{w':World}{d:D}{v:Value}
 (old:∀b,b<w.heap.size→w'.heap[b]?=w.heap[b]?) (hnew:w'.heap[w.heap.size]?=some (.cells arr el fr)) (hsz:w'.heap.size=w.heap.size+1) (sm:Same w w') (hfr:∀o,o<arr.size→¬(fr.1≤o∧o<fr.2))
 (hc:∀(j:Nat)(x:D),cs[j]?=some x→∃v,arr[j]?=some v∧VR im g μ w ok x v)
 (hv:VR im (upd g l (some ⟨cs,.rw⟩)) (upd μ l (w.heap.size,0)) w' ok d v):Okv im g μ w ok okp base (upd g l (some ⟨cs,.rw⟩)) d v w':=by
 obtain⟨h1,h2⟩:=R.alloc (w':=w') hl old hnew hsz sm hfr hc;exact⟨_,_,h1,h2,hv⟩
theorem Cy{l:Nat}{cs:List D}{n:Nat}{w':World}:VR im (upd g l (some ⟨cs,.rw⟩)) (upd μ l (n,0)) w' ok (.ptr l 0) (.pointer (some ⟨n,0,none⟩)):=by
 simp only[VR];exact⟨_,_,fB _ _ _,rfl,λ_=>by rw[fB]⟩
theorem vX{l:Nat}{cs:List D}{n len cm z cap:Nat}{ex:Bool}{w':World}(h1:len≤cm)(h2:cm≤cap)(h3:ex=true→cap=cm)(h4:cap*z≤pz w' n):
 VR im (upd g l (some ⟨cs,.rw⟩)) (upd μ l (n,0)) w' ok (.sl l 0 len cm z ex) (.slice (some ⟨n,0,none⟩) len cap):=by
 simp only[VR];exact⟨_,_,_,fB _ _ _,rfl,λ_=>⟨h1,by rw[fB],h2,h3,by rw[fB];show 0+0+cap*z≤pz w' n;omega⟩⟩
theorem rk{cs:List D}{arr:Array Value}(h:VRl im g μ w ok cs arr.toList):∀(j:Nat)(x:D),cs[j]?=some x→∃v,arr[j]?=some v∧VR im g μ w ok x v:=by
 intro j x hj;obtain⟨v,hv,hr⟩:=(jp.1 h).2 j x hj;exact⟨v,by simpa using hv,hr⟩
end
section
variable {P:Program} {im:Nat→Option Nat} {g:Nat→Option Blk} {μ:Nat→Nat×Nat} {w:World} {ok okp:Nat→Nat→Prop} {base:Nat} {e:Env} {a:Act} {o:Oper} {nx:Nat} {d:D} {bs:List Blk}
theorem tA(t:TypeId)(cs:Array Value):(newRow t cs).run P w=.ok ⟨w.heap.size,0,none⟩ (w.alloc (.cells cs t)):=by
 simp[newRow]
theorem AR(t:TypeId)(v:Value):(newVar t v).run P w=.ok ⟨w.heap.size,0,none⟩ (w.alloc (.cells v.cells t)):=tA _ _
def rA(P:Program)(im:Nat→Option Nat)(g:Nat→Option Blk)(μ:Nat→Nat×Nat)(w:World)(ok okp:Nat→Nat→Prop)(base:Nat)(e:Env)(a:Act)(o:Oper)(nx:Nat):Prop:=
 ∀d bs,evA nx (X.ev e) g (cOp P im o.op)=some (d,bs)→(∀j,j<bs.length→g (nx+j)=none)→wI im g μ w ok okp base (rm g nx bs) d ((execOp a.eval o).run P w)
theorem gM(R:Rel im g μ w ok okp base){s:Sem Value}{v:Value}(hx:execOp a.eval o=(do pure (.value (←s))))(h:s.run P w=.ok v w)(k:VR im g μ w ok d v):
 wI im g μ w ok okp base (rm g nx []) d ((execOp a.eval o).run P w):=by rw[hx];exact wI.of_same R h k
section
variable (R:Rel im g μ w ok okp base) (hE:px im g μ w ok e a.tmps)
include R hE
theorem X6{x:Operand}(ho:o.op=.move x):rA P im g μ w ok okp base e a o nx:=by
 intro d bs h hf;rw[ho]at h;simp only[cOp,evA,aA,aJ]at h;obtain⟨rfl,rfl⟩:=h;exact⟨a.eval x,w,.inl (by simp[execOp,ho]),.same R (j0 hE x)⟩
theorem Rp{x:Operand}(ho:o.op=.assign x):rA P im g μ w ok okp base e a o nx:=by
 intro d bs h hf;rw[ho]at h;simp only[cOp,evA,aA,aJ]at h;obtain⟨rfl,rfl⟩:=h;exact⟨a.eval x,w,.inl (by simp[execOp,ho]),.same R (j0 hE x)⟩
theorem X5{c x y:Operand}(ho:o.op=.pick c x y):rA P im g μ w ok okp base e a o nx:=by
 intro d bs h hf;rw[ho]at h;simp only[cOp,evA]at h;have hc:=j0 hE c;split at h
 ·rename_i hb;rw[hb]at hc;simp only[VR]at hc;simp only[aA,aJ]at h;obtain⟨rfl,rfl⟩:=h;exact⟨a.eval x,w,.inl (by simp[execOp,ho,hc,asBool]),.same R (j0 hE x)⟩
 ·rename_i hb;rw[hb]at hc;simp only[VR]at hc;simp only[aA,aJ]at h;obtain⟨rfl,rfl⟩:=h;exact⟨a.eval y,w,.inl (by simp[execOp,ho,hc,asBool]),.same R (j0 hE y)⟩
 ·cases h
theorem Um{el:TypeId}(ho:o.op=.alloc el):rA P im g μ w ok okp base e a o nx:=by
 intro d bs h hf;rw[ho]at h;simp only[cOp]at h;cases hz:pX P el with
 |none=>rw[hz]at h;simp[evA]at h
 |some z=>
  rw[hz]at h;simp only[evA,aA,aJ]at h;obtain⟨rfl,rfl⟩:=h;obtain⟨i,hi,hz⟩:=sL hz;have hr:(Instr.alloc el true (.tuple #[])).run P w=.ok (.pointer (some ⟨w.heap.size,0,none⟩)) (w.alloc (.cells z.cells el)):=by
   simp[Instr.alloc,pZ hi hz,AR]
  have h0:g nx=none:=hf 0 (by simp);exact⟨_,w.alloc (.cells z.cells el),.inl (by simp only[execOp,ho,Sem.run_bind,hr,Result.andThen_ok];rfl),Okv.new R h0 (fr:=(0,0)) rfl (.alloc _ _ _) (λo _=>by simp) (rk (IK z)) Cy⟩
theorem Yt{el:TypeId}{x:Operand}(ho:o.op=.box el x):rA P im g μ w ok okp base e a o nx:=by
 intro d bs h hf;rw[ho]at h;simp only[cOp,evA]at h;split at h
 ·rename_i h1;simp only[aA,aJ]at h;obtain⟨rfl,rfl⟩:=h;have hr:(Instr.box el (a.eval x)).run P w=.ok (.pointer (some ⟨w.heap.size,0,none⟩)) (w.alloc (.cells (a.eval x).cells el)):=by
   simp[Instr.box,AR]
  have h0:g nx=none:=hf 0 (by simp);exact⟨_,w.alloc (.cells (a.eval x).cells el),.inl (by simp only[execOp,ho,Sem.run_bind,hr,Result.andThen_ok];rfl),Okv.new R h0 (fr:=(0,0)) rfl (.alloc _ _ _) (λo _=>by simp) (rk (z6 (j0 hE x) h1)) Cy⟩
 ·cases h
theorem X7{t:TypeId}{x:Operand}(ho:o.op=.load t x):rA P im g μ w ok okp base e a o nx:=by
 intro d bs h hf;rw[ho]at h;simp only[cOp]at h;cases hu:P.underlying t with
 |none=>rw[hu]at h;simp[evA]at h
 |some td=>
  rw[hu]at h;simp only at h;obtain⟨i,hi⟩:=og hu;split at h
  ·rename_i hag;simp only[evA]at h;split at h
   ·rename_i cs hcs;obtain⟨ad,hv,hs,hc⟩:=Ra R hcs (j0 hE x);split at h
    ·rename_i r hcut;simp only[aA,aJ]at h;obtain⟨rfl,rfl⟩:=h;have hlen:=(vv hcut).2;have hvr:=vw hcut hc;simp only[bH]at hvr;have hex:∃vs:List Value,VRl im g μ w ok r vs∧∀(j:Nat) v,vs[j]?=some v→w.cell? (ad.add j)=some v:=by
      clear hlen hcut;have:∀(r:List D)(o:Nat),VRc im g μ w ok r ad.block o→∃vs:List Value,VRl im g μ w ok r vs∧∀(j:Nat) v,vs[j]?=some v→w.cell? ⟨ad.block,o+j,none⟩=some v:=by
       intro r
       induction r with
       |nil=>intro o _;exact⟨[],by simp[VRl],λj v h=>by simp at h⟩
       |cons y ys ih=>
        intro o hr;simp only[VRc]at hr;obtain⟨⟨v,hv,hy⟩,hr⟩:=hr;obtain⟨vs,h1,h2⟩:=ih _ hr;refine⟨v::vs,by simp only[VRl];exact⟨v,vs,rfl,hy,h1⟩,λj u hj=>?_⟩;cases j with
        |zero=>simp only[bG,aA]at hj;subst hj;exact hv
        |succ j=>have:=h2 j u (by simpa using hj);rwa[show o+1+j=o+(j+1) by omega]at this
      obtain⟨vs,h1,h2⟩:=this r _ hvr;exact⟨vs,h1,λj v hj=>by rw[Addr.add_eq hs];exact h2 j v hj⟩
     obtain⟨vs,h1,h2⟩:=hex;have hn:vs.length=i.size:=by rw[jD h1,hlen,o9 hi]
     refine gM (s:=Instr.loadAt t (a.eval x)) (v:=.agg vs.toArray) R (by simp only[execOp,ho]) ?_ ?_
     ·simp[Instr.loadAt,Instr.sureAddr,hv,loadVar,n9 hu,hag,ij hi,←hn,run_loadCells_list w ad vs h2]
     ·simp only[VR];exact⟨vs.toArray,rfl,by simpa using h1⟩
    ·cases h
   ·cases h
  ·rename_i hag;simp only[evA]at h;split at h
   ·rename_i d' rest hcs;simp only[aA,aJ]at h;obtain⟨rfl,rfl⟩:=h;obtain⟨ad,hv,hs,hc⟩:=Ra R hcs (j0 hE x);simp only[VRc]at hc;obtain⟨⟨v,hcell,hd⟩,_⟩:=hc;rw[←Addr.eta hs]at hcell;refine gM (s:=Instr.loadAt t (a.eval x)) (v:=v) R (by simp only[execOp,ho]) ?_ hd;simp[Instr.loadAt,Instr.sureAddr,hv,loadVar,n9 hu,hag,run_load,hcell]
   ·cases h
theorem Jr{x:Operand}(ho:o.op=.nilCheck x):rA P im g μ w ok okp base e a o nx:=by
 intro d bs h hf;rw[ho]at h;simp only[cOp,evA]at h;have hx:=j0 hE x;split at h
 ·rename_i l off hd;rw[hd]at hx;have hx':=hx;simp only[VR]at hx';obtain⟨b,p,hb,hv,hl⟩:=hx';rw[hb]at h;simp only at h;split at h
  ·rename_i hlive;simp only[aA,aJ]at h;obtain⟨rfl,rfl⟩:=h;have hp:=hl hlive;subst hp;exact⟨a.eval x,w,.inl (by simp[execOp,ho,hv]),.same R hx⟩
  ·cases h
 ·rename_i cs hd;simp only[aA,aJ]at h;obtain⟨rfl,rfl⟩:=h;rw[hd]at hx;have hx':=hx;simp only[VR,TR]at hx';obtain⟨ad,hv,_⟩:=hx';exact⟨a.eval x,w,.inl (by simp[execOp,ho,hv]),.same R hx⟩
 ·rename_i f cs hd;simp only[aA,aJ]at h;obtain⟨rfl,rfl⟩:=h;rw[hd]at hx;have hx':=hx;simp only[VR]at hx';obtain⟨F,arr,_,hv,_⟩:=hx';exact⟨a.eval x,w,.inl (by simp[execOp,ho,hv]),.same R hx⟩
 ·cases h
end
end
section
variable {P:Program} {im:Nat→Option Nat} {g:Nat→Option Blk} {μ:Nat→Nat×Nat} {w:World} {ok okp:Nat→Nat→Prop} {base:Nat} {e:Env} {a:Act} {o:Oper} {nx:Nat} {d:D} {bs:List Blk}
theorem rU{d:D}{v:Value}{l:List UInt8}(h:str d=some l)(hv:VR im g μ w ok d v):v=.string ⟨l.toArray⟩:=by
 cases d<;>simp only[str]at h<;>try cases h
 ·simp only[VR]at hv;exact hv
 ·simp only[VR]at hv;exact hv
theorem tG:∀(k n:Nat)(acc:List UInt8),n≤k→ef (ll k n acc) 0=ef acc n
 |0,n,acc,h=>by simp only[ll];rw[Nat.le_zero.1 h]
 |k+1,n,acc,h=>by
  simp only[ll];by_cases h0:n=0
  ·subst h0;rfl
  ·rw[NZ h0];show ef (ll k (n/256) (UInt8.ofNat (n%256)::acc)) 0=_;rw[tG k (n/256) _ (by omega)];show ef acc (n/256*256+(UInt8.ofNat (n%256)).toNat)=_;rw[UInt8.toNat_ofNat'];congr 1;omega
theorem t9(n:Nat):ef (eo n) 0=n:=tG n n [] (aD _)
theorem FM{a b:Nat}(h:eo a=eo b):a=b:=by rw[←t9 a,h,t9]
theorem vi(a b:Nat):(eo a==eo b)=Nat.beq a b:=by
 by_cases h:a=b
 ·subst h;simp
 ·have h1:Nat.beq a b=false:=by
   cases hb:Nat.beq a b with
   |false=>rfl
   |true=>exact absurd (aT hb) h
  rw[h1,beq_eq_false_iff_ne];exact λe=>h (FM e)
theorem z7(l:List UInt8):(ByteArray.mk l.toArray).toList=l:=by rw[ByteArray.toList_eq]
theorem R5{op:BinOp}{k:IntKind}{x y:Int}(t:TypeId)(h:ww op k x y=some d):∃v,(binOp op t (.int k x) (.int k y)).run P w=.ok v w∧VR im g μ w ok d v:=by
 cases op<;>simp only[ww]at h<;>try cases h
 case quo=>
  split at h
  ·cases h
  ·rename_i hy;simp only[aA]at h;subst h;exact⟨.int k (k.wrap (x.tdiv y)),by simp[binOp,Op.intDiv,hy],by simp[VR]⟩
 case rem=>
  split at h
  ·cases h
  ·rename_i hy;simp only[aA]at h;subst h;exact⟨.int k (x.tmod y),by simp[binOp,Op.intDiv,hy],by simp[VR]⟩
 all_goals first
  |exact⟨_,by simp[binOp,Op.intArith];rfl,by simp[VR]⟩
  |exact⟨_,by simp[binOp,Op.intBits];rfl,by simp[VR]⟩
  |exact⟨_,by simp[binOp,Op.intCmp];rfl,by simp[VR]⟩
theorem Hz{op:BinOp}{x y:List UInt8}(t:TypeId)(h:R4 op x y=some d):∃v,(binOp op t (.string ⟨x.toArray⟩) (.string ⟨y.toArray⟩)).run P w=.ok v w∧VR im g μ w ok d v:=by
 cases op<;>simp only[R4]at h<;>try cases h
 all_goals exact⟨_,by simp only[binOp,Op.stringOp,z7];rfl,by simp[VR]⟩
theorem Ua{op:BinOp}{x y:D}{u v:Value}(t:TypeId)(h:bin op x y=some d)(hx:VR im g μ w ok x u)(hy:VR im g μ w ok y v):
 ∃r,(binOp op t u v).run P w=.ok r w∧VR im g μ w ok d r:=by
 unfold bin at h;split at h
 ·simp only[VR]at hx hy;subst hx hy;rename_i k p k' q;split at h
  ·split at h
   ·cases h
   ·rename_i hq;simp only[aA]at h;subst h;exact⟨_,by simp[binOp,Op.shift,hq];rfl,by simp[VR]⟩
  ·split at h
   ·cases h
   ·rename_i hq;simp only[aA]at h;subst h;exact⟨_,by simp[binOp,Op.shift,hq];rfl,by simp[VR]⟩
  ·split at h
   ·rename_i hk;subst hk;exact R5 t h
   ·cases h
 ·have e1:=rU (l:=eo _) rfl hx;have e2:=rU (l:=eo _) rfl hy;rename_i p q;subst e1 e2;have inj:∀op d,R4 op (eo p) (eo q)=some d→∃r,(binOp op t (.string ⟨(eo p).toArray⟩) (.string ⟨(eo q).toArray⟩)).run P w=.ok r w∧VR im g μ w ok d r:=λop d h=>Hz t h;split at h
  ·simp only[aA]at h;subst h;obtain⟨r,h1,h2⟩:=inj .eql _ rfl;exact⟨r,h1,by rw[vi]at h2;exact h2⟩
  ·simp only[aA]at h;subst h;obtain⟨r,h1,h2⟩:=inj .neq _ rfl;exact⟨r,h1,by rw[vi]at h2;exact h2⟩
  ·exact inj _ _ h
 ·split at h
  ·rename_i h1 h2;have e1:=rU h1 hx;have e2:=rU h2 hy;subst e1 e2;exact Hz t h
  ·cases h
section
variable (R:Rel im g μ w ok okp base) (hE:px im g μ w ok e a.tmps)
include R hE
theorem yc{op:BinOp}{t:TypeId}{x y:Operand}{u v:Value}{p:D}(hx:VR im g μ w ok p u)(hp:(∃k n,p=.i k n)∨(∃l,str p=some l)):
 (eqGuard op t x y u v).run P w=.ok () w:=by
 have:(∃k n,u=.int k n)∨(∃s,u=.string s):=by
  rcases hp with⟨k,n,rfl⟩|⟨l,hl⟩
  ·simp only[VR]at hx;exact .inl ⟨k,n,hx⟩
  ·exact .inr ⟨_,rU hl hx⟩
 rcases this with⟨k,n,rfl⟩|⟨s,rfl⟩<;>cases op<;>simp[eqGuard]
theorem R0{op:BinOp}{x y:D}(h:bin op x y=some d):(∃k n,x=.i k n)∨(∃l,str x=some l):=by
 unfold bin at h;split at h
 ·exact .inl ⟨_,_,rfl⟩
 ·exact .inr ⟨_,rfl⟩
 ·split at h
  ·rename_i h1 h2;exact .inr ⟨_,h1⟩
  ·cases h
theorem VW{op:BinOp}{t yt:TypeId}{x y:Operand}(ho:o.op=.binOp op t x y yt)(hc:cOp P im o.op=.bin op (cX im x) (cX im y)):rA P im g μ w ok okp base e a o nx:=by
 intro d bs h hf;rw[hc]at h;simp only[evA]at h;split at h
 ·rename_i d' hd;simp only[aA,aJ]at h;obtain⟨rfl,rfl⟩:=h;have hx:=j0 hE x;have hy:=j0 hE y;obtain⟨r,h1,h2⟩:=Ua (P:=P) t hd hx hy;refine gM (v:=r) R (s:=do eqGuard op t x y (a.eval x) (a.eval y);binOp op t (a.eval x) (a.eval y)) (by simp only[execOp,ho]) ?_ h2;have hg:(eqGuard op t x y (a.eval x) (a.eval y)).run P w=.ok () w:=yc R hE hx (R0 R hE hd);simp only[Sem.run_bind,hg,Result.andThen_ok,h1]
 ·cases h
theorem X9{op:BinOp}{t yt:TypeId}{x y:Operand}(ho:o.op=.binOp op t x y yt)(hc:cOp P im o.op=.binb op (cX im x) (cX im y))(hbt:P.underlying t=some .bool):rA P im g μ w ok okp base e a o nx:=by
 intro d bs h hf;rw[hc]at h;simp only[evA]at h;have hx:=j0 hE x;have hy:=j0 hE y;split at h
 ·rename_i p q hp hq;rw[hp]at hx;rw[hq]at hy;simp only[VR]at hx hy;have hg:∀op,(eqGuard op t x y (.bool p) (.bool q)).run P w=.ok () w:=λop=>by cases op<;>simp[eqGuard]
  split at h
  ·simp only[aA,aJ]at h;obtain⟨rfl,rfl⟩:=h;refine gM (v:=.bool (p==q)) R (s:=do eqGuard .eql t x y (a.eval x) (a.eval y);binOp .eql t (a.eval x) (a.eval y)) (by simp only[execOp,ho]) ?_ (by simp[VR]);rw[hx,hy];simp only[Sem.run_bind,hg,Result.andThen_ok,run_eql_bool w t _ _ hbt]
  ·simp only[aA,aJ]at h;obtain⟨rfl,rfl⟩:=h;refine gM (v:=.bool (!(p==q))) R (s:=do eqGuard .neq t x y (a.eval x) (a.eval y);binOp .neq t (a.eval x) (a.eval y)) (by simp only[execOp,ho]) ?_ (by simp[VR]);rw[hx,hy];simp only[Sem.run_bind,hg,Result.andThen_ok,run_neq_bool w t _ _ hbt]
  ·cases h
 ·cases h
theorem X3{op:UnOp}{t:TypeId}{x:Operand}(ho:o.op=.unOp op t x):rA P im g μ w ok okp base e a o nx:=by
 intro d bs h hf;rw[ho]at h;have hx:=j0 hE x;cases op<;>simp only[cOp,evA]at h<;>try cases h
 ·split at h
  ·rename_i k n hd;simp only[aA,aJ]at h;obtain⟨rfl,rfl⟩:=h;rw[hd]at hx;simp only[VR]at hx;exact gM (v:=.int k (k.wrap (0-n))) R (s:=Op.unary .neg (a.eval x)) (by simp only[execOp,ho]) (by rw[hx];simp[Op.unary,Op.intArith]) (by simp[VR])
  ·cases h
 ·split at h
  ·rename_i p hd;simp only[aA,aJ]at h;obtain⟨rfl,rfl⟩:=h;rw[hd]at hx;simp only[VR]at hx;exact gM (v:=.bool (!p)) R (s:=Op.unary .not (a.eval x)) (by simp only[execOp,ho]) (by rw[hx];simp[Op.unary]) (by simp[VR])
  ·cases h
theorem IH{s:TypeId}{x:Operand}{f:Nat}(ho:o.op=.fieldAddr s x f):rA P im g μ w ok okp base e a o nx:=by
 intro d bs h hf;rw[ho]at h;have hx:=j0 hE x;simp only[cOp]at h;split at h
 ·rename_i fs hu;split at h
  ·rename_i fd hfd;split at h
   ·simp[evA]at h
   ·rename_i hsz;have hi:∃i,P.info? fd.type=some i:=by
     unfold il at hsz;split at hsz
     ·rename_i i hi;exact⟨i,hi⟩
     ·simp at hsz
    obtain⟨i,hi⟩:=hi;have hrun:∀ad:Addr,(Instr.fieldAt s (.pointer (some ad)) f).run P w=.ok (.pointer (some (ad.add fd.offset))) w:=by
     intro ad;have:i.size≠0:=by rw[←o9 hi];exact hsz
     simp[Instr.fieldAt,fF hu,hfd,Instr.sureAddr,fieldPlace,ij hi,this]
    simp only[evA]at h;split at h
    ·rename_i l o' hd;rw[hd]at hx;simp only[VR]at hx;obtain⟨b,p,hb,hv,hl⟩:=hx;rw[hb]at h;simp only at h;split at h
     ·rename_i hlive;simp only[aA,aJ]at h;obtain⟨rfl,rfl⟩:=h;have hp:=hl hlive;subst hp;refine gM R (s:=Instr.fieldAt s (a.eval x) f) (by simp only[execOp,ho]) (by rw[hv];exact hrun _) ?_;simp only[VR];rw[Addr.add_eq rfl];exact⟨b,_,hb,rfl,λ_=>by simp[cx]⟩
     ·cases h
    ·rename_i cs hd;simp only[aA,aJ]at h;obtain⟨rfl,rfl⟩:=h;rw[hd]at hx;simp only[VR,TR]at hx;obtain⟨ad,hv,h1,h2,h3⟩:=hx;refine gM R (s:=Instr.fieldAt s (a.eval x) f) (by simp only[execOp,ho]) (by rw[hv];exact hrun ad) ?_;simp only[VR,TR];rw[Addr.add_eq h1];exact⟨_,rfl,rfl,h2.drop _,DD h3 _⟩
    ·cases h
  ·simp[evA]at h
 ·simp[evA]at h
theorem Uj{s:TypeId}{x:Operand}{f:Nat}(ho:o.op=.field s x f):rA P im g μ w ok okp base e a o nx:=by
 intro d bs h hf;rw[ho]at h;have hx:=j0 hE x;simp only[cOp]at h;split at h
 ·rename_i fs hu;split at h
  ·rename_i fd hfd;split at h
   ·rename_i td htd;obtain⟨i,hi⟩:=og htd;split at h
    ·rename_i hag;simp only[evA]at h;split at h
     ·rename_i cs hd;rw[hd]at hx;simp only[VR]at hx;obtain⟨arr,hv,hl⟩:=hx;split at h
      ·rename_i r hcut;simp only[aA,aJ]at h;obtain⟨rfl,rfl⟩:=h;obtain⟨rfl,hlen⟩:=vv hcut;refine gM R (s:=Instr.field s (a.eval x) f) (v:=.agg (arr.extract fd.offset (fd.offset+i.size))) (by simp only[execOp,ho]) ?_ ?_
       ·rw[hv];simp[Instr.field,fF hu,hfd,part,n9 htd,hag,asAgg,ij hi]
       ·simp only[VR];refine⟨_,rfl,jp.2 ⟨?_,λj y hj=>?_⟩⟩
        ·have h1:=jD hl;rw[hlen,o9 hi];have h2:((cs.drop fd.offset).take (il P fd.type)).length=il P fd.type:=hlen;rw[o9 hi]at h2;simp at h1 h2 ⊢;omega
        ·rw[cY]at hj;split at hj
         ·rename_i hjl;rw[bx]at hj;obtain⟨v,e1,e2⟩:=(jp.1 hl).2 _ _ hj;refine⟨v,?_,e2⟩;rw[o9 hi]at hjl;have e3:arr[fd.offset+j]?=some v:=by simpa using e1
          have hb:fd.offset+j<arr.size:=(bk.1 e3).1;simp only[d6,Array.getElem?_extract];rw[aC (by omega)];exact e3
         ·cases hj
      ·cases h
     ·cases h
    ·rename_i hag;simp only[evA]at h;split at h
     ·rename_i cs hd;rw[hd]at hx;simp only[VR]at hx;obtain⟨arr,hv,hl⟩:=hx;split at h
      ·rename_i y r hdr;simp only[aA,aJ]at h;obtain⟨rfl,rfl⟩:=h;have hj:cs[fd.offset]?=some y:=by
        have:(cs.drop fd.offset)[0]?=some y:=by rw[hdr];rfl
        rwa[bx,bH]at this
       obtain⟨v,e1,e2⟩:=(jp.1 hl).2 _ _ hj;have e3:arr[fd.offset]?=some v:=by simpa using e1
       refine gM R (s:=Instr.field s (a.eval x) f) (v:=v) (by simp only[execOp,ho]) ?_ e2;rw[hv];simp[Instr.field,fF hu,hfd,part,n9 htd,hag,asAgg,e3]
      ·cases h
     ·cases h
   ·simp[evA]at h
  ·simp[evA]at h
 ·simp[evA]at h
theorem IG{t:TypeId}{x i:Operand}(ho:o.op=.indexAddr t x i):rA P im g μ w ok okp base e a o nx:=by
 intro d bs h hf;rw[ho]at h;have hx:=j0 hE x;have hi:=j0 hE i;simp only[cOp]at h;split at h
 ·rename_i el hu;split at h
  ·simp[evA]at h
  ·rename_i hsz;have hq:∃i,P.info? el=some i:=by
    unfold il at hsz;split at hsz
    ·rename_i i hi;exact⟨i,hi⟩
    ·simp at hsz
   obtain⟨ti,hti⟩:=hq;have hrun:∀(k:IntKind)(n:Int)(ad:Addr)(len cap:Nat),0≤n→n<len→
    (Instr.indexAt t (.slice (some ad) len cap) (.int k n)).run P w=.ok (.pointer (some (ad.add (n.toNat*il P el)))) w:=by
    intro k n ad len cap h0 h1;simp[Instr.indexAt,asIntOf,fF hu,ij hti,h0,h1,o9 hti]
   simp only[evA]at h;split at h
   ·rename_i k n hdi;rw[hdi]at hi;simp only[VR]at hi;split at h
    ·rename_i l off len cm z ex hd;rw[hd]at hx;simp only[VR]at hx;obtain⟨b,p,cap,hb,hv,hl⟩:=hx;rw[hb]at h;simp only at h;split at h
     ·rename_i hc;simp only[ae,decide_eq_true_eq]at hc;obtain⟨⟨⟨hlive,h0⟩,h1⟩,hz⟩:=hc;simp only[aA,aJ]at h;obtain⟨rfl,rfl⟩:=h;obtain⟨hl1,rfl,hl2,hl3,hl5⟩:=hl hlive;refine gM R (s:=Instr.indexAt t (a.eval x) (a.eval i)) (by simp only[execOp,ho]) (by rw[hv,hi];exact hrun k n _ len cap h0 h1) ?_;simp only[VR];rw[Addr.add_eq rfl];exact⟨b,_,hb,rfl,λ_=>by simp[cx]⟩
     ·cases h
    ·rename_i cs len ex hd;rw[hd]at hx;simp only[VR,TR]at hx;obtain⟨p,cap,hv,hl1,hl2,hl3⟩:=hx;split at h
     ·rename_i hc;simp only[ae,decide_eq_true_eq]at hc;obtain⟨h0,h1⟩:=hc;split at h
      ·cases h
      rename_i d1 r1 hdrop;simp only[aA,aJ]at h;obtain⟨rfl,rfl⟩:=h;have hne:cs≠[]:=by
       intro hn;subst hn;simp at hdrop
      obtain⟨ad,rfl,e1,e2,e3⟩:=hl3 hne;refine gM R (s:=Instr.indexAt t (a.eval x) (a.eval i)) (by simp only[execOp,ho]) (by rw[hv,hi];exact hrun k n _ len cap h0 h1) ?_;have e4:=DD e3 (n.toNat*il P el);rw[hdrop]at e4;simp only[VR,TR];rw[Addr.add_eq e1];have e5:=e2.drop (n.toNat*il P el);rw[hdrop]at e5;exact⟨_,rfl,rfl,e5,e4⟩
     ·cases h
    ·cases h
   ·cases h
 ·simp[evA]at h
theorem Ui{t:TypeId}{x i:Operand}(ho:o.op=.index t x i):rA P im g μ w ok okp base e a o nx:=by
 intro d bs h hf;rw[ho]at h;have hx:=j0 hE x;have hi:=j0 hE i;simp only[cOp]at h;split at h
 ·rename_i hu;simp only[evA]at h;split at h
  ·rename_i k n l hdi hdx;rw[hdi]at hi;simp only[VR]at hi;have hv:=rU hdx hx;split at h
   ·rename_i h0;split at h
    ·rename_i c r hdr;simp only[aA,aJ]at h;obtain⟨rfl,rfl⟩:=h;have hj:l[n.toNat]?=some c:=by
      have:(l.drop n.toNat)[0]?=some c:=by rw[hdr];rfl
      rwa[bx,bH]at this
     obtain⟨hlt,hget⟩:=bC.1 hj;have hj':(ByteArray.mk l.toArray)[n.toNat]?=some c:=by
      rw[getElem?_pos (ByteArray.mk l.toArray) n.toNat (by simpa[ByteArray.size]using hlt)];rw[←hget];rfl
     refine gM R (s:=Instr.index t (a.eval x) (a.eval i)) (v:=.int .u8 c.toNat) (by simp only[execOp,ho]) ?_ (by simp[VR]);rw[hv,hi];simp[Instr.index,asIntOf,fF hu,h0,hj']
    ·cases h
   ·cases h
  ·cases h
 ·simp[evA]at h
theorem N5{x:Operand}{i:Nat}(ho:o.op=.extract x i):rA P im g μ w ok okp base e a o nx:=by
 intro d bs h hf;rw[ho]at h;have hx:=j0 hE x;simp only[cOp,evA]at h;split at h
 ·rename_i vs hd;rw[hd]at hx;simp only[VR]at hx;obtain⟨arr,hv,hl⟩:=hx;split at h
  ·rename_i y r hdr;simp only[aA,aJ]at h;obtain⟨rfl,rfl⟩:=h;have hj:vs[i]?=some y:=by
    have:(vs.drop i)[0]?=some y:=by rw[hdr];rfl
    rwa[bx,bH]at this
   obtain⟨v,e1,e2⟩:=(jp.1 hl).2 _ _ hj;have e3:arr[i]?=some v:=by simpa using e1
   exact gM R (s:=Instr.extract (a.eval x) i) (v:=v) (by simp only[execOp,ho]) (by rw[hv];simp[Instr.extract,e3]) e2
  ·cases h
 ·cases h
theorem Js{fn:Fn}{first caps:Array Operand}(ho:o.op=.makeFunc fn first caps):rA P im g μ w ok okp base e a o nx:=by
 intro d bs h hf;rw[ho]at h;cases fn<;>simp only[cOp]at h<;>try (simp[evA]at h;done)
 rename_i F;split at h
 ·rename_i k hk hfirst;simp only[evA,aA,aJ]at h;obtain⟨rfl,rfl⟩:=h;have hfe:first= #[]:=by
   obtain⟨l⟩:=first;simp at hfirst;subst hfirst;rfl
  subst hfe;refine gM R (s:=Instr.makeFunc (.func F) ((#[]:Array Operand).map a.eval) (caps.map a.eval)) (v:=.func (.func F) #[] (caps.map a.eval)) (by simp only[execOp,ho]) (by simp[Instr.makeFunc]) ?_;simp only[VR];exact⟨F,caps.map a.eval,hk,rfl,by simpa using Le hE caps.toList⟩
 ·simp[evA]at h
end
end
section
variable {P:Program} {im:Nat→Option Nat} {g:Nat→Option Blk} {μ:Nat→Nat×Nat} {w:World} {ok okp:Nat→Nat→Prop} {base:Nat} {e:Env} {a:Act} {o:Oper} {nx:Nat} {d:D} {bs:List Blk}
theorem Cv{r:List D}{b:Nat}:∀{o:Nat},VRc im g μ w ok r b o→∃vs:List Value,VRl im g μ w ok r vs∧∀(j:Nat) v,vs[j]?=some v→w.cell? ⟨b,o+j,none⟩=some v:=by
 induction r with
 |nil=>intro o _;exact⟨[],by simp[VRl],λj v h=>by simp at h⟩
 |cons y ys ih=>
  intro o hr;simp only[VRc]at hr;obtain⟨⟨v,hv,hy⟩,hr⟩:=hr;obtain⟨vs,h1,h2⟩:=ih hr;refine⟨v::vs,by simp only[VRl];exact⟨v,vs,rfl,hy,h1⟩,λj u hj=>?_⟩;cases j with
  |zero=>simp only[bG,aA]at hj;subst hj;exact hv
  |succ j=>have:=h2 j u (by simpa using hj);rwa[show o+1+j=o+(j+1) by omega]at this
theorem Jm{cs:List D}{vs:List Value}{l:List UInt8}(h:wq cs=some l)(hv:VRl im g μ w ok cs vs):
 ∃ns:List Int,vs=ns.map (Value.int .u8)∧l=ns.map λn=>UInt8.ofNat n.toNat:=by
 induction cs generalizing vs l with
 |nil=>simp only[VRl]at hv;subst hv;simp only[wq,aA]at h;subst h;exact⟨[],rfl,rfl⟩
 |cons c cs ih=>
  unfold wq at h;split at h
  ·cases ‹_::_=[]›
  ·rename_i n r he;simp only[z14]at he;obtain⟨rfl,rfl⟩:=he;split at h
   ·rename_i l' hl';simp only[aA]at h;subst h;simp only[VRl]at hv;obtain⟨v,r',rfl,hv,hr⟩:=hv;simp only[VR]at hv;subst hv;obtain⟨ns,rfl,rfl⟩:=ih hl' hr;exact⟨n::ns,rfl,rfl⟩
   ·cases h
  ·cases h
theorem p5(c:UInt8):∀(l:List UInt8)(acc:Nat),ef (l++[c]) acc=ef l acc*256+c.toNat
 |[],acc=>rfl
 |b::l,acc=>p5 c l (acc*256+b.toNat)
theorem tu:∀(n:Nat)(l:List UInt8)(k:Nat)(acc:List UInt8),l.length=n→(∀c r,l=c::r→c.toNat≠0)→ef l 0≤k→ll k (ef l 0) acc=l++acc∧(l≠[]→0<ef l 0)
 |0,l,k,acc,hn,_,_=>by
  have:l=[]:=z0N.1 hn;subst this;refine⟨?_,λh=>absurd rfl h⟩;cases k<;>rfl
 |n+1,l,k,acc,hn,hc,hk=>by
  rcases List.eq_nil_or_concat l with h|⟨l',c,h⟩
  ·subst h;simp at hn
  ·have h:l=l'++[c]:=by simpa[List.concat_eq_append]using h
   subst h;have hl':l'.length=n:=by simpa using hn
   have hc':∀b r,l'=b::r→b.toNat≠0:=λb r e=>hc b (r++[c]) (by rw[e];rfl);rw[p5]at hk ⊢;have hlt:c.toNat<256:=c.toNat_lt;have pos:0<ef l' 0*256+c.toNat:=by
    cases hl:l' with
    |nil=>
     have:=hc c [] (by rw[hl];rfl);simp only[ef];omega
    |cons b r=>
     have:=(tu n l' (ef l' 0) [] hl' hc' (aD _)).2 (by rw[hl];simp);rw[hl]at this;omega
   refine⟨?_,λ_=>pos⟩;cases k with
   |zero=>omega
   |succ k=>
    have e1:(ef l' 0*256+c.toNat)/256=ef l' 0:=by omega
    have e2:(ef l' 0*256+c.toNat)%256=c.toNat:=by omega
    have e3:Nat.beq (ef l' 0*256+c.toNat) 0=false:=by
     cases hq:Nat.beq (ef l' 0*256+c.toNat) 0 with
     |false=>rfl
     |true=>have:=aT hq;omega
    have ih:=(tu n l' k (c::acc) hl' hc' (by omega)).1;show cond (Nat.beq (ef l' 0*256+c.toNat) 0) acc (ll k ((ef l' 0*256+c.toNat)/256) (UInt8.ofNat ((ef l' 0*256+c.toNat)%256)::acc))=_;rw[e3,e1,e2,UInt8.ofNat_toNat,cond_false,ih];simp
theorem SH(l:List UInt8):VR im g μ w ok (SJ l) (.string ⟨l.toArray⟩):=by
 cases l with
 |nil=>simp[SJ,VR,eo,ll]
 |cons c r=>
  unfold SJ;simp only;cases hb:Nat.beq c.toNat 0 with
  |true=>simp[VR]
  |false=>
   have hc:c.toNat≠0:=by intro e;rw[e]at hb;simp at hb
   have:=(tu _ (c::r) (ef (c::r) 0) [] rfl (λb q e=>by
    simp only[z14]at e;rw[←e.1];exact hc) (aD _)).1
   rw[bq]at this;simp only[cond_false,VR];show _=Value.string ⟨(ll (ef (c::r) 0) (ef (c::r) 0) []).toArray⟩;rw[this]
theorem J3(ns:List Int):∀(s:ByteArray),ns.foldl (λr n=>r.push (UInt8.ofNat n.toNat)) s=⟨(s.data.toList++ns.map λn=>UInt8.ofNat n.toNat).toArray⟩:=by
 induction ns with
 |nil=>intro s;cases s;simp
 |cons n ns ih=>intro s;rw[dh,ih];simp[ByteArray.push]
section
variable (R:Rel im g μ w ok okp base) (hE:px im g μ w ok e a.tmps)
include R hE
theorem N6{s t:TypeId}{x:Operand}(ho:o.op=.convert s t x):rA P im g μ w ok okp base e a o nx:=by
 intro d bs h hf;rw[ho]at h;have hx:=j0 hE x;simp only[cOp]at h;split at h
 ·rename_i k hs ht;simp only[evA]at h;split at h
  ·rename_i k' n hd;simp only[aA,aJ]at h;obtain⟨rfl,rfl⟩:=h;rw[hd]at hx;simp only[VR]at hx;exact gM R (s:=convert s t (a.eval x)) (v:=.int k (k.wrap n)) (by simp only[execOp,ho]) (by rw[hx];simp[convert,fF hs,fF ht,Conv.intToInt]) (by simp[VR])
  ·cases h
 ·rename_i hs ht;simp only[evA]at h;split at h
  ·rename_i l hl;simp only[aA,aJ]at h;obtain⟨rfl,rfl⟩:=h;have hv:=rU hl hx;exact gM R (s:=convert s t (a.eval x)) (v:=a.eval x) (by simp only[execOp,ho]) (by rw[hv];simp[convert,fF hs,fF ht]) hx
  ·cases h
 ·rename_i el hs ht;split at h
  ·rename_i he;simp only[evA]at h;split at h
   ·rename_i cs hcs;split at h
    ·rename_i l hl;simp only[aA,aJ]at h;obtain⟨rfl,rfl⟩:=h;obtain⟨ad,len,cap,hv,h1,h2,h3,h4⟩:=Cg R hcs hx;refine gM R (s:=convert s t (a.eval x)) (v:=.string ⟨l.toArray⟩) (by simp only[execOp,ho]) ?_ (SH l);rw[hv,run_convert_bytes_string w s t el ad len cap hs he ht];cases ad with
     |none=>
      have hn:cs=[]:=Classical.byContradiction λhn=>by obtain⟨x,hx,_⟩:=h4 hn;cases hx
      subst hn;simp only[wq,aA]at hl;subst hl;rfl
     |some ad=>
      have:∃vs:List Value,VRl im g μ w ok cs vs∧∀(j:Nat) v,vs[j]?=some v→w.cell? (ad.add j)=some v:=by
       by_cases hn:cs=[]
       ·subst hn;exact⟨[],by simp[VRl],λj v h=>by simp at h⟩
       ·obtain⟨y,hy,hs,hc⟩:=h4 hn;simp only[aA]at hy;subst hy;obtain⟨vs,e1,e2⟩:=Cv hc;exact⟨vs,e1,λj v hj=>by rw[Addr.add_eq hs];exact e2 j v hj⟩
      obtain⟨vs,e1,e2⟩:=this;obtain⟨ns,rfl,rfl⟩:=Jm hl e1;have hlen:(ns.map (Value.int .u8)).length=len:=by rw[jD e1,h2,ai]
      have hload:(loadCells ad len).run P w=.ok (ns.map (Value.int .u8)).toArray w:=by
       rw[←hlen];exact run_loadCells_list w ad _ e2
      rw[run_bytesToString w ad len cap ns hload,J3];rfl
    ·cases h
   ·cases h
  ·simp[evA]at h
 ·rename_i el hs ht;split at h
  ·rename_i he;simp only[evA]at h;split at h
   ·rename_i l hl;simp only[aA,aJ]at h;obtain⟨rfl,rfl⟩:=h;have hv:=rU hl hx;have h0:g nx=none:=hf 0 (by simp);have hrun:=Lib.run_convert_string_bytes (P:=P) w s t el ⟨l.toArray⟩ hs ht he;refine⟨_,Lib.bytesWorld w el ⟨l.toArray⟩,.inl (by simp only[execOp,ho,hv,Sem.run_bind,hrun,Result.andThen_ok];rfl),
     Okv.new' R h0 (λb hb=>Lib.bytesWorld_at_old w el _ b hb) (Lib.bytesWorld_at_new w el _) (Lib.bytesWorld_size w el _) ⟨rfl,rfl⟩ (λo ho=>by simp only;omega) (λj y hj=>?_) (vX (aD _) ?_ (λh=>by cases h) ?_)⟩
    ·rw[au]at hj;cases hc:l[j]?with
     |none=>rw[hc]at hj;cases hj
     |some c=>
      rw[hc]at hj;simp only[dB,aA]at hj;subst hj;obtain⟨hlt,hget⟩:=bC.1 hc;refine⟨.int .u8 c.toNat,?_,by simp[VR]⟩;simp[Lib.bytesCells,Array.getElem?_append,hlt,hget]
    ·unfold grownCap;simp[Question.cut,ByteArray.size]
    ·rw[ma (Lib.bytesWorld_at_new w el _)];have:l.length≤grownCap w l.length 0 el:=by unfold grownCap;simp[Question.cut]
     simp[Lib.bytesCells,ByteArray.size];omega
   ·cases h
  ·simp[evA]at h
 ·simp[evA]at h
theorem s8{d:D}{v:Value}{n:Nat}{x:Operand}{k:IntKind}{m:Int}(h:X.ev e (cX im x)=.i k m):a.eval x=.int k m:=by
 have:=j0 hE x;rw[h]at this;simpa only[VR]using this
theorem vM{x:Option Operand}{dflt n:Nat}(h:rQ (X.ev e) (x.map (cX im)) dflt=some n):
 (x=none∧n=dflt)∨∃y k m,x=some y∧a.eval y=.int k m∧0≤m∧m.toNat=n:=by
 cases x with
 |none=>simp only[rQ,dM,aA]at h;exact .inl ⟨rfl,h.symm⟩
 |some y=>
  simp only[rQ,dB]at h;split at h
  ·rename_i k m hd;split at h
   ·rename_i h0;simp only[aA]at h;exact .inr ⟨y,k,m,rfl,s8 R hE (d:=.u) (v:=undef) (n:=0) hd,h0,h⟩
   ·cases h
  ·cases h
theorem jm{k:IntKind}{m:Int}{y n:Nat}{c:BoundsCode}(h0:0≤m)(hn:m.toNat=n)(h1:n≤y):(Instr.sliceBound (.int k m) y c).run P w=.ok n w:=by
 have:m≤y:=by omega
 simp[Instr.sliceBound,asIntOf,h0,this,hn]
theorem sN{len cap:Nat}{lo hi mx:Option Operand}{m h l:Nat}(isS:Bool)(hm:rQ (X.ev e) (mx.map (cX im)) cap=some m)(hh:rQ (X.ev e) (hi.map (cX im)) len=some h)
 (hl:rQ (X.ev e) (lo.map (cX im)) 0=some l) (h1:m≤cap) (h2:h≤m) (h3:l≤h) (h4:hi=none→mx=none):
 (Instr.sliceBounds isS len cap (lo.map a.eval) (hi.map a.eval) (mx.map a.eval)).run P w=.ok (l,h,m) w:=by
 rcases vM R hE hm with⟨rfl,rfl⟩|⟨ym,km,nm,rfl,em,zm,tm⟩
 ·rcases vM R hE hh with⟨rfl,rfl⟩|⟨yh,kh,nh,rfl,eh,zh,th⟩
  ·rcases vM R hE hl with⟨rfl,rfl⟩|⟨yl,kl,nl,rfl,el,zl,tl⟩
   ·simp[Instr.sliceBounds]
   ·simp[Instr.sliceBounds,el,jm R hE zl tl h3]
  ·rcases vM R hE hl with⟨rfl,rfl⟩|⟨yl,kl,nl,rfl,el,zl,tl⟩
   ·simp[Instr.sliceBounds,eh,jm R hE zh th h2]
   ·simp[Instr.sliceBounds,eh,el,jm R hE zh th h2,jm R hE zl tl h3]
 ·rcases vM R hE hh with⟨rfl,rfl⟩|⟨yh,kh,nh,rfl,eh,zh,th⟩
  ·exact absurd (h4 rfl) (by simp)
  ·rcases vM R hE hl with⟨rfl,rfl⟩|⟨yl,kl,nl,rfl,el,zl,tl⟩
   ·simp[Instr.sliceBounds,em,eh,jm R hE zm tm h1,jm R hE zh th h2]
   ·simp[Instr.sliceBounds,em,eh,el,jm R hE zm tm h1,jm R hE zh th h2,jm R hE zl tl h3]
theorem Dv{x:Option Operand}{d1 d2 n:Nat}(h:rQ (X.ev e) (x.map (cX im)) d1=some n):(x=none∧n=d1)∨rQ (X.ev e) (x.map (cX im)) d2=some n:=by
 cases x with
 |none=>simp only[rQ,dM,aA]at h;exact .inl ⟨rfl,h.symm⟩
 |some y=>right;exact h
theorem Uh{t:TypeId}{x:Operand}{lo hi mx:Option Operand}(ho:o.op=.slice t x lo hi mx):rA P im g μ w ok okp base e a o nx:=by
 intro d bs h hf;rw[ho]at h;have hx:=j0 hE x;simp only[cOp]at h;split at h
 ·rename_i el hu;split at h
  ·simp[evA]at h
  ·rename_i hc;simp only[ci,ae,decide_eq_true_eq,not_or,not_and]at hc;obtain⟨hnm,hsz⟩:=hc;have h4:hi=none→mx=none:=by
    intro hh;subst hh;have:=hnm rfl;cases mx<;>simp_all
   have hq:∃i,P.info? el=some i:=by
    unfold il at hsz;split at hsz
    ·rename_i i hi;exact⟨i,hi⟩
    ·simp at hsz
   obtain⟨ti,hti⟩:=hq;have hrun:∀(p:Option Addr)(len cap l h m:Nat),(Instr.sliceBounds true len cap (lo.map a.eval) (hi.map a.eval) (mx.map a.eval)).run P w=.ok (l,h,m) w→
    (Instr.sliceAt t (.slice p len cap) (lo.map a.eval) (hi.map a.eval) (mx.map a.eval)).run P w=.ok (.slice (if m=l then p else p.map (·.add (l*il P el))) (h-l) (m-l)) w:=by
    intro p len cap l h m hb;simp[Instr.sliceAt,Instr.slice,fF hu,hb,ij hti,o9 hti]
   simp only[evA,Option.isSome_map]at h;split at h
   ·rename_i l off len cm z ex hd;rw[hd]at hx;simp only[VR]at hx;obtain⟨b,p,cap,hb,hv,hl⟩:=hx;split at h
    ·rename_i m hh lw b' em eh el' hb';rw[hb]at hb';simp only[aA]at hb';subst hb';split at h
     ·rename_i hcond;simp only[ae,decide_eq_true_eq]at hcond;obtain⟨⟨⟨⟨hlive,c1⟩,c2⟩,c3⟩,hz⟩:=hcond;obtain⟨hl1,rfl,hl2,hl3,hl5⟩:=hl hlive;obtain⟨M,hM,hM1,hM2,hM3⟩:∃M,rQ (X.ev e) (mx.map (cX im)) cap=some M∧m≤M∧M≤cap∧(mx.isSome=true→M=m):=by
       rcases Dv R hE (d2:=cap) em with⟨rfl,rfl⟩|hm
       ·exact⟨cap,rfl,hl2,aD _,λh=>by cases h⟩
       ·cases mx with
        |none=>exact⟨cap,rfl,by omega,aD _,λh=>by cases h⟩
        |some y=>exact⟨m,hm,aD _,by omega,λ_=>rfl⟩
      have hbnd:=sN (P:=P) (w:=w) R hE true hM eh el' hM2 (by omega) c3 h4;have hex:(mx.isSome||ex)=true→M=m:=by
       intro hq;rcases(ci _ _).mp hq with h'|h'
       ·exact hM3 h'
       ·cases hmx:mx with
        |some y=>exact hM3 (by rw[hmx];rfl)
        |none=>
         subst hmx;simp only[rQ,dM,aA]at hM em;have:=hl3 h';omega
      split at h
      ·rename_i hlt;simp only[aA,aJ]at h;obtain⟨rfl,rfl⟩:=h;refine gM R (s:=Instr.sliceAt t (a.eval x) (lo.map a.eval) (hi.map a.eval) (mx.map a.eval)) (by simp only[execOp,ho]) (by rw[hv];exact hrun _ _ _ _ _ _ hbnd) ?_;simp only[VR];rw[aE (by omega)];refine⟨b,_,_,hb,rfl,λ_=>⟨by omega,?_,by omega,λhq=>by have:=hex hq;omega,?_⟩⟩
       ·simp[Addr.add_eq,cx]
       ·subst hz;have e1:lw*il P el+(M-lw)*il P el=M*il P el:=by rw[←aP];congr 1;omega
        have e2:M*il P el≤cap*il P el:=aL _ hM2;omega
      ·simp only[aA,aJ]at h;obtain⟨rfl,rfl⟩:=h;refine gM R (s:=Instr.sliceAt t (a.eval x) (lo.map a.eval) (hi.map a.eval) (mx.map a.eval)) (by simp only[execOp,ho]) (by rw[hv];exact hrun _ _ _ _ _ _ hbnd) ?_;simp only[VR,TR];have h00:hh-lw=0:=by omega
       rw[h00];refine⟨_,_,rfl,a9 _,λhq=>?_,λhn=>absurd rfl hn⟩
       ·have:=hex hq;omega
     ·cases h
    ·cases h
   ·rename_i cs len ex hd;rw[hd]at hx;simp only[VR,TR]at hx;obtain⟨p,cap,hv,hl1,hl2,hl3⟩:=hx;split at h
    ·rename_i m hh lw em eh el';split at h
     ·rename_i hcond;simp only[ae,decide_eq_true_eq]at hcond;obtain⟨⟨⟨c1,c2⟩,c3⟩,hlen⟩:=hcond;simp only[aA,aJ]at h;obtain⟨rfl,rfl⟩:=h;obtain⟨M,hM,hM1,hM2,hM3⟩:∃M,rQ (X.ev e) (mx.map (cX im)) cap=some M∧m≤M∧M≤cap∧(mx.isSome=true→M=m):=by
       rcases Dv R hE (d2:=cap) em with⟨rfl,rfl⟩|hm
       ·exact⟨cap,rfl,hl1,aD _,λh=>by cases h⟩
       ·cases mx with
        |none=>
         simp only[rQ,dM,aA]at em;exact⟨cap,rfl,by omega,aD _,λh=>by cases h⟩
        |some y=>exact⟨m,hm,aD _,by omega,λ_=>rfl⟩
      have hbnd:=sN (P:=P) (w:=w) R hE true hM eh el' hM2 (by omega) c3 h4;refine gM R (s:=Instr.sliceAt t (a.eval x) (lo.map a.eval) (hi.map a.eval) (mx.map a.eval)) (by simp only[execOp,ho]) (by rw[hv];exact hrun _ _ _ _ _ _ hbnd) ?_;simp only[VR,TR];refine⟨_,_,rfl,by omega,λhx=>?_,λhn=>?_⟩
      ·simp only[ci,ae,beq_iff_eq,dn]at hx;rcases hx with⟨q1,q2⟩|⟨⟨q1,q2⟩,q3⟩
       ·have:=hM3 q1;omega
       ·have hmx:mx=none:=by cases mx<;>simp_all
        subst hmx;simp only[rQ,dM,aA]at hM em;have:=hl2 q2;omega
      ·have hne:cs≠[]:=by intro h;subst h;simp at hn
       have hpos:lw<hh:=by
        rcases az lw hh with h|h
        ·exact h
        ·have:hh-lw=0:=by omega
         rw[this,bP]at hn;simp at hn
       obtain⟨ad,rfl,e1,e2,e3⟩:=hl3 hne;rw[aE (by omega)];refine⟨_,rfl,?_,?_,?_⟩
       ·show(ad.add _).spot=none;rw[Addr.add_eq e1]
       ·show okN ok (ad.add _).block (ad.add _).off _;rw[Addr.add_eq e1];exact(e2.drop _).take _
       ·show TRc im w ok _ (ad.add _).block (ad.add _).off;rw[Addr.add_eq e1];exact Ru (DD e3 _) _
     ·cases h
    ·cases h
   ·cases h
 ·rename_i hu;split at h
  ·simp[evA]at h
  ·rename_i hmx;have hmx':mx=none:=by cases mx<;>simp_all
   subst hmx';simp only[evA]at h;split at h
   ·rename_i l hl;have hv:=rU hl hx;split at h
    ·rename_i hh lw eh el';split at h
     ·rename_i hcond;simp only[ae,decide_eq_true_eq]at hcond;obtain⟨c1,c2⟩:=hcond;simp only[aA,aJ]at h;obtain⟨rfl,rfl⟩:=h;have hbnd:=sN (P:=P) (w:=w) (mx:=none) (m:=l.length) R hE false rfl eh el' (aD _) c1 c2 (λ_=>rfl);refine gM R (s:=Instr.sliceAt t (a.eval x) (lo.map a.eval) (hi.map a.eval) none) (v:=.string ((ByteArray.mk l.toArray).extract lw hh)) (by simp only[execOp,ho];rfl) ?_ ?_
      ·rw[hv];have hsz:(ByteArray.mk l.toArray).size=l.length:=by simp[ByteArray.size]
       simp only[dM]at hbnd;simp[Instr.sliceAt,Instr.slice,fF hu,hsz,hbnd]
      ·simp only[VR];congr 1;apply ByteArray.ext;apply Array.ext';simp
       try omega
     ·cases h
    ·cases h
   ·cases h
 ·simp[evA]at h
end
end
theorem tk(n:Nat)(z:List D):(oG n z).length=n*z.length:=by
 induction n with
 |zero=>simp[oG]
 |succ n ih=>simp only[oG,bF,ih];rw[cr];omega
theorem Lz{z:List D}(hz:0<z.length):∀(n j:Nat),j<n*z.length→(oG n z)[j]?=z[j%z.length]?:=by
 intro n
 induction n with
 |zero=>intro j h;omega
 |succ n ih=>
  intro j h;simp only[oG];by_cases hj:j<z.length
  ·rw[bQ hj,bJ hj]
  ·rw[bN (by omega),ih _ (by rw[cr]at h;omega)];rw[Nat.mod_eq_sub_mod (by omega:j≥z.length)]
section
variable {P:Program} {im:Nat→Option Nat} {g:Nat→Option Blk} {μ:Nat→Nat×Nat} {w:World} {ok okp:Nat→Nat→Prop} {base:Nat} {e:Env} {a:Act} {o:Oper} {nx:Nat} {d:D} {bs:List Blk}
theorem zZ{z:Value}{n m:Nat}(hm:m=n*(zc z).length):∀(j:Nat)(x:D),(oG n (zc z))[j]?=some x→∃v,((Array.range m).map (z.cells[· %z.cells.size]!))[j]?=some v∧VR im g μ w ok x v:=by
 intro j x hj;have hlen:(zc z).length=z.cells.size:=by simp[zc]
 have hlt:j<n*(zc z).length:=by
  have:=(bC.1 hj).1;rwa[tk]at this
 have hpos:0<(zc z).length:=by
  rcases bL (zc z).length with h|h
  ·rw[h,dG]at hlt;omega
  ·exact h
 rw[Lz hpos _ _ hlt]at hj;obtain⟨v,hv,hr⟩:=rk (g:=g) (μ:=μ) (w:=w) (ok:=ok) (im:=im) (IK z) _ _ hj;refine⟨v,?_,hr⟩;rw[hlen]at hv;have hmod:j%z.cells.size<z.cells.size:=bg _ (by omega);have h2:j<(Array.range m).size:=by simp;omega
 rw[Array.getElem?_map,Array.getElem?_range];rw[aC (by omega)];simp only[dB,aA];rw[getElem!_pos z.cells _ hmod];rw[getElem?_pos z.cells _ hmod]at hv;simpa using hv
section
variable (R:Rel im g μ w ok okp base) (hE:px im g μ w ok e a.tmps)
include R hE
theorem IF{t:TypeId}{l c:Operand}(ho:o.op=.makeSlice t l c):rA P im g μ w ok okp base e a o nx:=by
 intro d bs h hf;rw[ho]at h;simp only[cOp]at h;split at h
 ·rename_i el hu;split at h
  ·rename_i z hz;obtain⟨ti,hti,hz⟩:=sL hz;split at h
   ·rename_i hzl;simp only[ae,beq_iff_eq,decide_eq_true_eq]at hzl;obtain⟨hzl,hpos⟩:=hzl;simp only[evA]at h;split at h
    ·rename_i n m hl hc;split at h
     ·rename_i hcond;simp only[ae,decide_eq_true_eq]at hcond;obtain⟨⟨⟨⟨c1,c2⟩,c3⟩,c4⟩,c5⟩:=hcond;simp only[aA,aJ]at h;obtain⟨rfl,rfl⟩:=h;have el':=s8 R hE (d:=.u) (v:=undef) (n:=0) hl;have ec':=s8 R hE (d:=.u) (v:=undef) (n:=0) hc;have h0:g nx=none:=hf 0 (by simp);have w1:IntKind.i64.wrap n=n:=by
       unfold IntKind.wrap;simp[IntKind.signed,IntKind.bits];omega
      have w2:IntKind.i64.wrap m=m:=by
       unfold IntKind.wrap;simp[IntKind.signed,IntKind.bits];omega
      have hb:(ti.bytes:Int)*m≤281474976710656:=by rw[Int.mul_comm];rw[Ft hti]at c4;omega
      have hn0:¬m<0:=by omega
      have hbig:¬(281474976710656<(ti.bytes:Int)*m):=by omega
      have hl0:¬n<0:=by omega
      have hlm:¬m<n:=by omega
      have hrun:(Instr.makeSlice t (.int .i64 n) (.int .i64 m)).run P w=.ok (.slice (some ⟨w.heap.size,0,none⟩) n.toNat m.toNat)
       (w.alloc (.cells ((Array.range (m.toNat*ti.size)).map (z.cells[· %z.cells.size]!)) el)):=by
       simp[Instr.makeSlice,fF hu,sf hti,asInt,asIntOf,w1,w2,hn0,hbig,hl0,hlm,ij hti];by_cases hq:m.toNat*ti.size=0
       ·rw[aC hq,hq];have q1:∀f:Nat→Value,(Array.range 0).map f= #[]:=λf=>by simp
        simp only[tA,q1,Result.andThen_ok]
       ·rw[aE hq];simp only[pZ hti hz,tA,Result.andThen_ok]
      refine⟨_,_,.inl (by simp only[execOp,ho,el',ec',Sem.run_bind,hrun,Result.andThen_ok];rfl),
       Okv.new R h0 (fr:=(0,0)) rfl (.alloc _ _ _) (λo _=>by simp) (zZ (by rw[c5,o9 hti])) (vX (by omega) (aD _) (λ_=>rfl) (by rw[ma (heap_alloc_new w _)];simp[o9 hti]))⟩
     ·cases h
    ·cases h
   ·simp[evA]at h
  ·simp[evA]at h
 ·simp[evA]at h
theorem Ys{t:TypeId}{x:Operand}{el:TypeId}(ho:o.op=.call ⟨.builtin .len,#[x],#[t]⟩)(hu:P.underlying t=some (.slice el))(hc:cOp P im o.op=.len (cX im x)):rA P im g μ w ok okp base e a o nx:=by
 intro d bs h hf;rw[hc]at h;have hx:=j0 hE x;simp only[evA]at h;split at h
 ·rename_i n hn;simp only[aA,aJ]at h;obtain⟨rfl,rfl⟩:=h;have key:∀q cap,a.eval x=.slice q n cap→wI im g μ w ok okp base (rm g nx []) (.i .i64 n) ((execOp a.eval o).run P w):=by
   intro q cap h1;exact⟨.int .i64 n,w,.inl (by simp[execOp,ho,resolve,invoke,builtin,h1,Builtin.len_,fF hu,goInt]),.same R (by simp[VR])⟩
  cases hd:X.ev e (cX im x)<;>rw[hd]at hn hx<;>simp only[lenOf]at hn<;>try cases hn
  ·simp only[VR,TR]at hx;obtain⟨q,cap,hv,_⟩:=hx;exact key q cap hv
  ·simp only[VR]at hx;obtain⟨b,q,cap,hb,hv,_⟩:=hx;exact key q cap hv
 ·cases h
theorem X8{t:TypeId}{x:Operand}(ho:o.op=.call ⟨.builtin .len,#[x],#[t]⟩)(hu:P.underlying t=some .string)(hc:cOp P im o.op=.lens (cX im x)):rA P im g μ w ok okp base e a o nx:=by
 intro d bs h hf;rw[hc]at h;have hx:=j0 hE x;simp only[evA]at h;split at h
 ·rename_i l hl;simp only[aA,aJ]at h;obtain⟨rfl,rfl⟩:=h;have hv:=rU hl hx;have hsz:(ByteArray.mk l.toArray).size=l.length:=by simp[ByteArray.size]
  refine⟨.int .i64 l.length,w,.inl ?_,.same R (by simp[VR])⟩;simp[execOp,ho,resolve,invoke,builtin,hv,Builtin.len_,fF hu,goInt,hsz]
 ·cases h
theorem Yr{ts:Array TypeId}{x y:Operand}(ho:o.op=.call ⟨.builtin .max,#[x,y],ts⟩)(hc:cOp P im o.op=.max (cX im x) (cX im y)):rA P im g μ w ok okp base e a o nx:=by
 intro d bs h hf;rw[hc]at h;simp only[evA]at h;split at h
 ·rename_i k p k' q hp hq;split at h
  ·rename_i hk;simp only[aA,aJ]at h;obtain⟨rfl,rfl⟩:=h;have e1:=s8 R hE (d:=.u) (v:=undef) (n:=0) hp;have e2:=s8 R hE (d:=.u) (v:=undef) (n:=0) hq;exact⟨_,w,.inl (by simp[execOp,ho,resolve,invoke,builtin,e1,e2,run_max_int2];rfl),.same R (by simp[VR])⟩
  ·cases h
 ·cases h
theorem Yq{ts:Array TypeId}{x y:Operand}(ho:o.op=.call ⟨.builtin .min,#[x,y],ts⟩)(hc:cOp P im o.op=.min (cX im x) (cX im y)):rA P im g μ w ok okp base e a o nx:=by
 intro d bs h hf;rw[hc]at h;simp only[evA]at h;split at h
 ·rename_i k p k' q hp hq;split at h
  ·rename_i hk;simp only[aA,aJ]at h;obtain⟨rfl,rfl⟩:=h;have e1:=s8 R hE (d:=.u) (v:=undef) (n:=0) hp;have e2:=s8 R hE (d:=.u) (v:=undef) (n:=0) hq;exact⟨_,w,.inl (by simp[execOp,ho,resolve,invoke,builtin,e1,e2,run_min_int2];rfl),.same R (by simp[VR])⟩
  ·cases h
 ·cases h
omit R hE in
theorem NK:∀(l:List Value)(off j:Nat)(cells:Array Value),off+j+l.length≤cells.size→
 ((l.zipIdx j).foldl (λcs(x:Value×Nat)=>cs.setIfInBounds (off+x.2) x.1) cells).size=cells.size∧
 ∀k,((l.zipIdx j).foldl (λcs(x:Value×Nat)=>cs.setIfInBounds (off+x.2) x.1) cells)[k]?=if off+j≤k∧k<off+j+l.length then l[k-(off+j)]?else cells[k]?:=by
 intro l
 induction l with
 |nil=>intro off j cells h;exact⟨rfl,λk=>by rw[aE (by simp only[cj];omega)];rfl⟩
 |cons v l ih=>
  intro off j cells h;simp only[ay]at h;simp only[List.zipIdx_cons,dh];obtain⟨h1,h2⟩:=ih off (j+1) (cells.setIfInBounds (off+j) v) (by simp;omega);refine⟨by rw[h1];simp,λk=>?_⟩;rw[h2 k];simp only[ay];by_cases hk:k=off+j
  ·subst hk;rw[aE (by omega),aC (by omega)];rw[eB (by omega)];simp
  ·by_cases hk2:off+j≤k∧k<off+j+(l.length+1)
   ·rw[aC (by omega),aC hk2];rw[show k-(off+j)=(k-(off+(j+1)))+1 by omega];simp
   ·rw[aE (by omega),aE hk2,dK (by omega)]
omit R hE in
theorem Aw{off:Nat}{new cs r:List D}(h:lay off new cs=some r):off+new.length≤cs.length∧r.length=cs.length∧∀k,r[k]?=if off≤k∧k<off+new.length then new[k-off]?else cs[k]?:=by
 unfold lay at h;split at h
 ·rename_i hle;simp only[aA]at h;subst h;refine⟨hle,by simp;omega,λk=>?_⟩;have htk:(cs.take off).length=off:=by simp;omega
  by_cases h1:k<off
  ·rw[aE (by omega),bW,bQ (by omega),z0I h1]
  ·by_cases h2:k<off+new.length
   ·rw[aC (by omega),bW,bN (by omega),htk,bQ (by omega)]
   ·rw[aE (by omega),bW,bN (by omega),htk,bN (by omega),bx];congr 1;omega
 ·cases h
omit R hE in
theorem Hi{ev:X→D}:∀(abs:List (Nat×Nat×X))(cs cs':List D),fill ev abs cs=some cs'→cs'.length=cs.length
 |[],cs,cs',h=>by simp only[fill,aA]at h;rw[h]
 |(off,sz,x)::abs,cs,cs',h=>by
  simp only[fill]at h;split at h
  ·split at h
   ·rename_i cs1 hl;rw[Hi abs _ _ h,(Aw hl).2.1]
   ·cases h
  ·cases h
omit R in
theorem Hg{place:Nat→Option (Nat×Nat)}:∀(l:List (Nat×Operand))(abs:List (Nat×Nat×X))(cs cs':List D)(arr:Array Value),
 (∀p q,(p,q)∈l.zip abs→place p.1=some (q.1,q.2.1)∧q.2.2=cX im p.2)→l.length=abs.length→
 fill (X.ev e) abs cs=some cs'→VRl im g μ w ok cs arr.toList→
 ∃arr',Instr.fill place arr (l.map λp=>(p.1,a.eval p.2))=some arr'∧VRl im g μ w ok cs' arr'.toList:=by
 intro l
 induction l with
 |nil=>
  intro abs cs cs' arr hp hl h hv;cases abs with
  |nil=>simp only[fill,aA]at h;subst h;exact⟨arr,rfl,hv⟩
  |cons x xs=>simp at hl
 |cons p l ih=>
  intro abs cs cs' arr hp hl h hv;cases abs with
  |nil=>simp at hl
  |cons q abs=>
   obtain⟨off,sz,x⟩:=q;obtain⟨h1,h2⟩:=hp p (off,sz,x) (by simp);simp only at h1 h2;subst h2;simp only[fill]at h;split at h
   ·rename_i hc;simp only[ae,decide_eq_true_eq]at hc;obtain⟨hsz,hone⟩:=hc;split at h
    ·rename_i cs1 hlay;obtain⟨hle,hlen,hget⟩:=Aw hlay;have hval:=z6 (j0 hE p.2) hone;have hvl:=jD hval;have hal:=jD hv;simp only[dT]at hvl hal;obtain⟨f1,f2⟩:=NK (a.eval p.2).cells.toList off 0 arr (by simp;omega);have hstep:Instr.fill place arr ((p::l).map λp=>(p.1,a.eval p.2))=
      Instr.fill place ((a.eval p.2).cells.zipIdx.foldl (λcs(x:Value×Nat)=>cs.setIfInBounds (off+x.2) x.1) arr) (l.map λp=>(p.1,a.eval p.2)):=by
      simp only[bB,Instr.fill,h1];rw[aE];simp only[ci,decide_eq_true_eq,not_or,Decidable.not_not];omega
     rw[hstep];have hconv:(a.eval p.2).cells.zipIdx.foldl (λcs(x:Value×Nat)=>cs.setIfInBounds (off+x.2) x.1) arr=((a.eval p.2).cells.toList.zipIdx 0).foldl (λcs(x:Value×Nat)=>cs.setIfInBounds (off+x.2) x.1) arr:=by
      rw[←Array.foldl_toList,Array.toList_zipIdx]
     rw[hconv];refine ih abs cs1 cs' _ (λp' q' hm=>hp p' q' (by simp[hm])) (by simpa using hl) h (jp.2 ⟨?_,λj y hj=>?_⟩)
     ·simp only[dT];rw[f1,hlen];exact hal
     ·rw[hget]at hj;simp only[d6];rw[f2 j];simp only[bH,dT];rw[show(a.eval p.2).cells.size=(jr (X.ev e (cX im p.2))).length from hvl];split at hj
      ·rename_i hr;rw[aC hr];exact(jp.1 hval).2 _ _ hj
      ·rename_i hr;rw[aE hr];have:=(jp.1 hv).2 _ _ hj;simpa only[d6]using this
    ·cases h
   ·cases h
omit R hE in
theorem Jl{places:List (Nat×Nat)}:∀(l:List (Nat×Operand))(abs:List (Nat×Nat×X)),Ci im places l=some abs→
 l.length=abs.length∧∀p q,(p,q)∈l.zip abs→places.toArray[p.1]?=some (q.1,q.2.1)∧q.2.2=cX im p.2:=by
 intro l
 induction l with
 |nil=>intro abs h;simp only[Ci,aA]at h;subst h;exact⟨rfl,λp q h=>by simp at h⟩
 |cons p l ih=>
  intro abs h;obtain⟨i,x⟩:=p;simp only[Ci]at h;split at h
  ·rename_i f r hf hr;simp only[aA]at h;subst h;obtain⟨h1,h2⟩:=ih r hr;refine⟨by simp[h1],λp' q' hm=>?_⟩;simp only[List.zip_cons_cons,bI,aJ]at hm;rcases hm with⟨rfl,rfl⟩|hm
   ·exact⟨by simpa using hf,rfl⟩
   ·exact h2 p' q' hm
  ·cases h
theorem Uk{t:TypeId}{parts:Array (Nat×Operand)}(ho:o.op=.build t parts):rA P im g μ w ok okp base e a o nx:=by
 intro d bs h hf;rw[ho]at h;simp only[cOp]at h;split at h
 ·rename_i fs z hu hz;obtain⟨ti,hti,hz⟩:=sL hz;split at h
  ·rename_i places hp;split at h
   ·rename_i abs habs;obtain⟨hlen,hzip⟩:=Jl _ _ habs;simp only[evA]at h;split at h
    ·rename_i cs hcs;simp only[aA,aJ]at h;obtain⟨rfl,rfl⟩:=h;obtain⟨arr',h1,h2⟩:=Hg hE (place:=(places.toArray[·]?)) parts.toList abs (zc z) cs z.cells hzip hlen hcs (IK z);refine gM R (s:=Instr.build t (parts.map λ(i,x)=>(i,a.eval x))) (v:=.agg arr') (by simp only[execOp,ho]) (run_build w t _ _ ?_) (by simp only[VR];exact⟨arr',rfl,h2⟩);simp only[Program.built,hti,hu,hz,hp];rw[Array.toList_map];exact h1
    ·cases h
   ·simp[evA]at h
  ·simp[evA]at h
 ·simp[evA]at h
omit R in
theorem wt{t:TypeId}{len:Nat}{parts:Array (Nat×Operand)}(ho:o.op=.buildSlice t len parts){n:Nat}{zr:List D}{l:List (Nat×Nat×X)}(h:cOp P im o.op=.bsl n zr l){cs:List D}(hcs:fill (X.ev e) l (oG n zr)=some cs):
 n=len∧∃(arr':Array Value)(el:TypeId),(execOp a.eval o).run P w=.ok (.value (.slice (some ⟨w.heap.size,0,none⟩) len len)) (w.alloc (.cells arr' el))∧VRl im g μ w ok cs arr'.toList∧arr'.size=len*zr.length:=by
 rw[ho]at h;simp only[cOp]at h;split at h
 ·rename_i el hu;split at h
  ·rename_i z hz;obtain⟨ti,hti,hz⟩:=sL hz;split at h
   ·rename_i hc;simp only[ae,decide_eq_true_eq,beq_iff_eq]at hc;obtain⟨⟨hsz,hzl⟩,hpos⟩:=hc;simp only[O.bsl.injEq]at h;obtain⟨rfl,rfl,rfl⟩:=h;rw[o9 hti]at hsz hzl hpos hcs;refine⟨rfl,?_⟩;have hz0:VRl im g μ w ok (oG len (zc z)) ((Array.range (len*ti.size)).map (z.cells[· %z.cells.size]!)).toList:=by
     refine jp.2 ⟨by simp[tk,hzl],λj x hj=>?_⟩;obtain⟨v,hv,hr⟩:=zZ (g:=g) (μ:=μ) (w:=w) (ok:=ok) (im:=im) (z:=z) (n:=len) (m:=len*ti.size) (by rw[hzl]) j x hj;exact⟨v,by simpa only[d6]using hv,hr⟩
    obtain⟨arr',h1,h2⟩:=Hg hE (place:=λi=>some (i*ti.size,ti.size)) parts.toList (parts.toList.map λp=>(p.1*ti.size,ti.size,cX im p.2)) (oG len (zc z)) cs _
     (λp q hm=>by
      obtain⟨i,hi⟩:=z12.1 hm;rw[List.getElem?_zip_eq_some]at hi;obtain⟨i1,i2⟩:=hi;rw[au,i1]at i2;simp only[dB,aA]at i2;subst i2;exact⟨rfl,rfl⟩) (by simp) hcs hz0
    have hrun:(Instr.buildSlice t len (parts.map λ(i,x)=>(i,a.eval x))).run P w=.ok (.slice (some ⟨w.heap.size,0,none⟩) len len) (w.alloc (.cells arr' el)):=by
     have hnb:¬(len*ti.size>2^24):=by omega
     have h1':Instr.fill (λi=>some (i*ti.size,ti.size)) ((Array.range (len*ti.size)).map (z.cells[· %z.cells.size]!)) (parts.map λ(i,x)=>(i,a.eval x)).toList=some arr':=by
      rw[Array.toList_map];exact h1
     by_cases hq:len*ti.size=0
     ·have q1:∀f:Nat→Value,(Array.range 0).map f= #[]:=λf=>by simp
      rw[hq,q1]at h1';simp only[Instr.buildSlice,Sem.run_bind,fF hu,Result.andThen_ok,ij hti,hq,q1,h1'];simp[tA]
     ·simp only[Instr.buildSlice,Sem.run_bind,fF hu,Result.andThen_ok,ij hti,aE hnb,Sem.run_pure,aE hq,pZ hti hz,h1',tA]
    have q1:=jD h2;have q2:=Hi _ _ _ hcs;rw[tk,hzl]at q2;simp only[dT]at q1;exact⟨arr',el,by simp only[execOp,ho,Sem.run_bind,hrun,Result.andThen_ok];rfl,h2,by rw[hzl];omega⟩
   ·cases h
  ·cases h
 ·cases h
theorem Fz{t:TypeId}{len:Nat}{parts:Array (Nat×Operand)}(ho:o.op=.buildSlice t len parts):rA P im g μ w ok okp base e a o nx:=by
 intro d bs h hf;cases hc:cOp P im o.op with
 |bsl n zr l=>
  rw[hc]at h;simp only[evA]at h;split at h
  ·rename_i cs hcs;simp only[aA,aJ]at h;obtain⟨rfl,rfl⟩:=h;obtain⟨rfl,arr',el,h1,h2,h3⟩:=wt (w:=w) (g:=g) (μ:=μ) (ok:=ok) hE ho hc hcs;exact⟨_,_,.inl h1,Okv.new R (hf 0 (by simp)) (fr:=(0,0)) rfl (.alloc _ _ _) (λo _=>by simp) (rk h2) (vX (aD _) (aD _) (λ_=>rfl) (by rw[ma (heap_alloc_new w _),h3];omega))⟩
  ·cases h
 |bad=>rw[hc]at h;simp[evA]at h
 |_=>
  exfalso;rw[ho]at hc;simp only[cOp]at hc
  (repeat' split at hc)<;>cases hc
end
end
section
variable {P:Program} {im:Nat→Option Nat} {g:Nat→Option Blk} {μ:Nat→Nat×Nat} {w:World} {ok okp:Nat→Nat→Prop} {base:Nat} {e:Env} {a:Act} {o:Oper} {nx:Nat} {d:D} {bs:List Blk}
theorem J7:∀(k1:List Nat)(c1 d1:List D)(k2:List Nat)(c2 d2:List D),c1.length=k1.length→d1.length=k1.length→
 eqL (k1++k2) (c1++c2) (d1++d2)=match eqL k1 c1 d1 with
  |some true=>eqL k2 c2 d2
  |r=>r:=by
 intro k1
 induction k1 with
 |nil=>
  intro c1 d1 k2 c2 d2 h1 h2;have e1:c1=[]:=by simpa using h1
  have e2:d1=[]:=by simpa using h2
  subst e1 e2;rfl
 |cons k k1 ih=>
  intro c1 d1 k2 c2 d2 h1 h2;cases c1 with
  |nil=>simp at h1
  |cons c c1=>
   cases d1 with
   |nil=>simp at h2
   |cons d d1=>
    simp only[bu,eqL];cases eq1 k c d with
    |none=>rfl
    |some r=>
     cases r with
     |false=>rfl
     |true=>exact ih c1 d1 k2 c2 d2 (by simpa using h1) (by simpa using h2)
def Seg(im:Nat→Option Nat)(g:Nat→Option Blk)(μ:Nat→Nat×Nat)(w:World)(ok:Nat→Nat→Prop)(xs:Array Value)(off:Nat)(cs:List D):Prop:=
 ∀(j:Nat)(d:D),cs[j]?=some d→∃v,xs[off+j]?=some v∧VR im g μ w ok d v
theorem UP{t:TypeId}{td:TypeDesc}(hu:P.underlying t=some td){k:Nat}(hk:(td=.bool∧k=1)∨(∃i,td=.int i∧k=0)∨(td=.string∧k=2)){c d:D}{u v:Value}{r:Bool}
 (hc:VR im g μ w ok c u) (hd:VR im g μ w ok d v) (h:eq1 k c d=some r) (m:Nat):(Op.equalIn (m+1) t u v).run P w=.ok r w:=by
 rcases hk with⟨rfl,rfl⟩|⟨i,rfl,rfl⟩|⟨rfl,rfl⟩
 ·cases c<;>cases d<;>simp only[eq1]at h<;>try cases h
  simp only[VR]at hc hd;subst hc hd;exact run_equalIn_bool w m t _ _ hu
 ·cases c<;>cases d<;>simp only[eq1]at h<;>try cases h
  simp only[VR]at hc hd;subst hc hd;split at h
  ·rename_i hk;subst hk;simp only[aA]at h;subst h;exact run_equalIn_int w m t _ _ _ _ hu
  ·cases h
 ·have key:∀(x y:List UInt8),(Op.equalIn (m+1) t (.string ⟨x.toArray⟩) (.string ⟨y.toArray⟩)).run P w=.ok (x==y) w:=by
   intro x y;rw[run_equalIn_string w m t _ _ hu,z7,z7]
  unfold eq1 at h;split at h
  ·rename_i hh;cases hh
  ·rename_i hh;cases hh
  ·split at h
   ·rename_i x y;have e1:=rU (l:=eo x) rfl hc;have e2:=rU (l:=eo y) rfl hd;subst e1 e2;simp only[aA]at h;subst h;rw[key,vi]
   ·split at h
    ·rename_i h1 h2;have e1:=rU h1 hc;have e2:=rU h2 hd;subst e1 e2;simp only[aA]at h;subst h;exact key _ _
    ·cases h
  ·cases h
theorem JM(w:World):∀(n:Nat)(t:TypeId)(ks:List Nat),vj P n t=some ks→ks.length=il P t∧
 ∀(xs ys:Array Value)(off:Nat)(cs ds:List D)(r:Bool),Seg im g μ w ok xs off cs→Seg im g μ w ok ys off ds→cs.length=ks.length→ds.length=ks.length→eqL ks cs ds=some r→
  (∃u v,(part t xs off).run P w=.ok u w∧(part t ys off).run P w=.ok v w∧∀m,n≤m→(Op.equalIn m t u v).run P w=.ok r w)∧
  (∀m,off=0→(∃fs,P.underlying t=some (.struct fs))→n≤m→(Op.equalIn m t (.agg xs) (.agg ys)).run P w=.ok r w):=by
 intro n
 induction n with
 |zero=>intro t ks h;simp[vj]at h
 |succ n ih=>
  intro t ks h;have leaf:∀(td:TypeDesc)(k:Nat),P.underlying t=some td→((td=.bool∧k=1)∨(∃i,td=.int i∧k=0)∨(td=.string∧k=2))→il P t=1→ks=[k]→ks.length=il P t∧
   ∀(xs ys:Array Value)(off:Nat)(cs ds:List D)(r:Bool),Seg im g μ w ok xs off cs→Seg im g μ w ok ys off ds→cs.length=ks.length→ds.length=ks.length→eqL ks cs ds=some r→
    (∃u v,(part t xs off).run P w=.ok u w∧(part t ys off).run P w=.ok v w∧∀m,n+1≤m→(Op.equalIn m t u v).run P w=.ok r w)∧
    (∀m,off=0→(∃fs,P.underlying t=some (.struct fs))→n+1≤m→(Op.equalIn m t (.agg xs) (.agg ys)).run P w=.ok r w):=by
   intro td k hu hk hsz hks;subst hks;refine⟨by simp[hsz],λxs ys off cs ds r h1 h2 l1 l2 he=>?_⟩;obtain⟨c,rfl⟩:∃c,cs=[c]:=by
    match cs,l1 with
    |[c],_=>exact⟨c,rfl⟩
   obtain⟨d,rfl⟩:∃d,ds=[d]:=by
    match ds,l2 with
    |[d],_=>exact⟨d,rfl⟩
   obtain⟨u,hu1,hu2⟩:=h1 0 c rfl;obtain⟨v,hv1,hv2⟩:=h2 0 d rfl;simp only[bH]at hu1 hv1;have hag:Ct P t=false:=by
    simp only[Ct,hu];rcases hk with⟨rfl,_⟩|⟨i,rfl,_⟩|⟨rfl,_⟩<;>rfl
   have he1:eq1 k c d=some r:=by
    simp only[eqL]at he;cases hq:eq1 k c d with
    |none=>rw[hq]at he;cases he
    |some q=>rw[hq]at he;cases q<;>simp_all
   refine⟨⟨u,v,by simp[part,n9 hu,hag,hu1],by simp[part,n9 hu,hag,hv1],λm hm=>?_⟩,λm _ hs _=>?_⟩
   ·obtain⟨m,rfl⟩:∃q,m=q+1:=⟨m-1,by omega⟩
    exact UP hu hk hu2 hv2 he1 m
   ·obtain⟨fs,hs⟩:=hs;rw[hu]at hs;cases hs;rcases hk with⟨h,_⟩|⟨i,h,_⟩|⟨h,_⟩<;>cases h
  simp only[vj]at h;split at h
  ·rename_i hu;split at h
   ·rename_i hs;simp only[aA]at h;exact leaf _ _ hu (.inl ⟨rfl,rfl⟩) hs h.symm
   ·cases h
  ·rename_i i hu;split at h
   ·rename_i hs;simp only[aA]at h;exact leaf _ _ hu (.inr (.inl ⟨i,rfl,rfl⟩)) hs h.symm
   ·cases h
  ·rename_i hu;split at h
   ·rename_i hs;simp only[aA]at h;exact leaf _ _ hu (.inr (.inr ⟨rfl,rfl⟩)) hs h.symm
   ·cases h
  ·rename_i fs hu;split at h
   ·cases h
   ·rename_i hst;split at h
    ·rename_i l hl;split at h
     ·rename_i hlen;simp only[aA]at h;subst h;refine⟨hlen,?_⟩;have hfo:P.fieldsOf t=fs:=by simp[Program.fieldsOf,hu]
      have hst':P.stoodInHeld t=false:=by simpa using hst
      have fld:∀(fl:List Field)(pos:Nat)(l:List Nat),yx (vj P n) pos fl=some l→∀(xs ys:Array Value)(cs ds:List D)(r:Bool),
       Seg im g μ w ok xs pos cs→Seg im g μ w ok ys pos ds→cs.length=l.length→ds.length=l.length→eqL l cs ds=some r→∀m,n≤m→(Op.eqFields m xs ys fl).run P w=.ok r w:=by
       intro fl
       induction fl with
       |nil=>
        intro pos l hl xs ys cs ds r _ _ l1 l2 he m _;simp only[yx,aA]at hl;subst hl;have e1:cs=[]:=by simpa using l1
        have e2:ds=[]:=by simpa using l2
        subst e1 e2;simp only[eqL,aA]at he;subst he;simp[Op.eqFields]
       |cons f fl ihf=>
        intro pos l hl xs ys cs ds r s1 s2 l1 l2 he m hm;simp only[yx]at hl;split at hl
        ·cases hl
        ·rename_i hname;split at hl
         ·cases hl
         ·rename_i hoff;simp only[ne_eq,Decidable.not_not]at hoff;split at hl
          ·rename_i k1 hk1;split at hl
           ·rename_i k2 hk2;simp only[aA]at hl;subst hl;simp only[bF]at l1 l2;have ec:cs=cs.take k1.length++cs.drop k1.length:=(cO _ _).symm;have ed:ds=ds.take k1.length++ds.drop k1.length:=(cO _ _).symm;have lc:(cs.take k1.length).length=k1.length:=by simp;omega
            have ld:(ds.take k1.length).length=k1.length:=by simp;omega
            rw[ec,ed,J7 _ _ _ _ _ _ lc ld]at he;have segT:∀(zs:Array Value)(es:List D),Seg im g μ w ok zs pos es→Seg im g μ w ok zs pos (es.take k1.length):=λzs es hs j y hj=>by
             rw[cY]at hj;split at hj
             ·exact hs j y hj
             ·cases hj
            have segD:∀(zs:Array Value)(es:List D),Seg im g μ w ok zs pos es→Seg im g μ w ok zs (pos+k1.length) (es.drop k1.length):=λzs es hs j y hj=>by
             rw[bx]at hj;obtain⟨v,h1,h2⟩:=hs _ y hj;exact⟨v,by rw[←h1];congr 1;omega,h2⟩
            cases hq:eqL k1 (cs.take k1.length) (ds.take k1.length)with
            |none=>rw[hq]at he;cases he
            |some q=>
             obtain⟨⟨u,v,p1,p2,p3⟩,_⟩:=(ih f.type k1 hk1).2 xs ys pos _ _ q (segT _ _ s1) (segT _ _ s2) lc ld hq;rw[hoff.symm]at p1 p2;simp only[Op.eqFields];rw[aC hname];simp only[Sem.run_bind,p1,p2,Result.andThen_ok,p3 m hm];rw[hq]at he;cases q with
             |false=>simp only[aA]at he;subst he;simp
             |true=>
              simp only[cI,bj,bz];exact ihf (pos+k1.length) k2 hk2 xs ys _ _ r (segD _ _ s1) (segD _ _ s2) (by simp;omega) (by simp;omega) he m hm
           ·cases hl
          ·cases hl
      intro xs ys off cs ds r s1 s2 l1 l2 he;have whole:∀m,n+1≤m→∀(xs ys:Array Value),Seg im g μ w ok xs 0 cs→Seg im g μ w ok ys 0 ds→(Op.equalIn m t (.agg xs) (.agg ys)).run P w=.ok r w:=by
       intro m hm xs ys s1 s2;obtain⟨m,rfl⟩:∃q,m=q+1:=⟨m-1,by omega⟩
       rw[run_equalIn_struct w m t xs ys (by rw[hfo];exact hu) hst',hfo];exact fld fs.toList 0 l hl xs ys cs ds r s1 s2 l1 l2 he m (by omega)
      have hag:Ct P t=true:=by simp[Ct,hu]
      obtain⟨ti,hti⟩:=og hu;have segE:∀(zs:Array Value)(es:List D),es.length=l.length→Seg im g μ w ok zs off es→Seg im g μ w ok (zs.extract off (off+ti.size)) 0 es:=λzs es hel hs j y hj=>by
       obtain⟨v,h1,h2⟩:=hs j y hj;refine⟨v,?_,h2⟩;have hb:off+j<zs.size:=(bk.1 h1).1;have hj2:j<es.length:=(bC.1 hj).1;rw[hel,hlen,o9 hti]at hj2;rw[aV,Array.getElem?_extract,aC (by omega)];exact h1
      refine⟨⟨_,_,by simp[part,n9 hu,hag,ij hti],by simp[part,n9 hu,hag,ij hti],λm hm=>whole m hm _ _ (segE _ _ l1 s1) (segE _ _ l2 s2)⟩,λm h0 _ hm=>?_⟩;subst h0;exact whole m hm xs ys s1 s2
     ·cases h
    ·cases h
  ·cases h
section
variable (R:Rel im g μ w ok okp base) (hE:px im g μ w ok e a.tmps)
include R hE
theorem VV{op:BinOp}{t yt:TypeId}{x y:Operand}{neg:Bool}{ks:List Nat}{fs:Array Field}(ho:o.op=.binOp op t x y yt)(hc:cOp P im o.op=.eqs neg ks (cX im x) (cX im y))
 (hu:P.underlying t=some (.struct fs)) (hop:(op=.eql∧neg=false)∨(op=.neq∧neg=true)) (hg:P.eqGuardType P.depth t=false) (hk:vj P 8 t=some ks):rA P im g μ w ok okp base e a o nx:=by
 intro d bs h hf;rw[hc]at h;simp only[evA]at h;split at h
 ·rename_i cs ds hp hq;split at h
  ·rename_i hl;simp only[ae,decide_eq_true_eq]at hl;split at h
   ·rename_i r hr;simp only[aA,aJ]at h;obtain⟨rfl,rfl⟩:=h;have h1:=j0 hE x;have h2:=j0 hE y;rw[hp]at h1;rw[hq]at h2;simp only[VR]at h1 h2;obtain⟨xs,e1,v1⟩:=h1;obtain⟨ys,e2,v2⟩:=h2;obtain⟨hlen,hall⟩:=JM (P:=P) (im:=im) (g:=g) (μ:=μ) (ok:=ok) w 8 t ks hk;have seg:∀(zs:Array Value)(es:List D),VRl im g μ w ok es zs.toList→Seg im g μ w ok zs 0 es:=λzs es hv j d hj=>by
     rw[aV];exact rk hv j d hj
    have heq:=(hall xs ys 0 cs ds r (seg _ _ v1) (seg _ _ v2) hl.1 hl.2 hr).2 10000 rfl ⟨fs,hu⟩ (by omega);have hgd:(eqGuard op t x y (.agg xs) (.agg ys)).run P w=.ok () w:=run_eqGuard_agg w op t x y xs ys hg;rcases hop with⟨rfl,rfl⟩|⟨rfl,rfl⟩
    ·refine gM (v:=.bool r) R (s:=do eqGuard .eql t x y (a.eval x) (a.eval y);binOp .eql t (a.eval x) (a.eval y)) (by simp only[execOp,ho]) ?_ (by simp[VR]);rw[e1,e2];simp only[Sem.run_bind,hgd,Result.andThen_ok,run_eql_struct,heq]
    ·refine gM (v:=.bool (!r)) R (s:=do eqGuard .neq t x y (a.eval x) (a.eval y);binOp .neq t (a.eval x) (a.eval y)) (by simp only[execOp,ho]) ?_ (by simp[VR]);rw[e1,e2];simp only[Sem.run_bind,hgd,Result.andThen_ok,run_neq_struct,heq]
   ·cases h
  ·cases h
 ·cases h
omit R hE in
theorem UJ{fn:Func}(hn:fn.name= "math/bits.Add64")(hor:fn.origin= ""):Extern.findNext fn=none∧Extern.find fn=some add64Entry:=by
 have a1:Extern.allNextRows.lookup "math/bits.Add64" =none:=by kernel_rfl
 have a2:Extern.allNextRows.lookup "" =none:=by kernel_rfl
 have a3:Extern.allGenericRows.lookup "math/bits.Add64" =none:=by kernel_rfl
 have a4:Extern.allTypedRows.lookup "math/bits.Add64" =none:=by kernel_rfl
 have a5:Extern.allRows.lookup "math/bits.Add64" =some add64Entry:=by kernel_rfl
 simp[Extern.findNext,Extern.find,hn,hor,a1,a2,a3,a4,a5]
def v8:Array Value→Sem Value:=λargs=>do
 let (x,y,b)←Extern.MathBitsCarry.three "Sub64" args
 pure (Extern.MathBitsCarry.pair ((x+Extern.MathBitsCarry.m64-y-b)%Extern.MathBitsCarry.m64) (if x<y+b then 1 else 0))
omit R hE in
theorem UI{fn:Func}(hn:fn.name= "math/bits.Sub64")(hor:fn.origin= ""):Extern.findNext fn=none∧Extern.find fn=some v8:=by
 have a1:Extern.allNextRows.lookup "math/bits.Sub64" =none:=by kernel_rfl
 have a2:Extern.allNextRows.lookup "" =none:=by kernel_rfl
 have a3:Extern.allGenericRows.lookup "math/bits.Sub64" =none:=by kernel_rfl
 have a4:Extern.allTypedRows.lookup "math/bits.Sub64" =none:=by kernel_rfl
 have a5:Extern.allRows.lookup "math/bits.Sub64" =some v8:=by kernel_rfl
 simp[Extern.findNext,Extern.find,hn,hor,a1,a2,a3,a4,a5]
omit R hE in
theorem De(name:String)(p q c:Int)(hle:c.toNat≤1):(Extern.MathBitsCarry.three name #[.int .u64 p,.int .u64 q,.int .u64 c]).run P w=.ok (p.toNat,q.toNat,c.toNat) w:=by
 have h3:Extern.MathBitsCarry.three name #[.int .u64 p,.int .u64 q,.int .u64 c]=(do
  let c':=(←asInt (.int .u64 c)).toNat
  if c'>1 then unsupported (.noEntry ("extern/math/bits." ++name++ ": a carry that is neither 0 nor 1"))
  pure ((←asInt (.int .u64 p)).toNat,(←asInt (.int .u64 q)).toNat,c')):=rfl
 rw[h3];have:¬(c.toNat>1):=by omega
 simp only[Sem.run_bind,asInt,asIntOf,Sem.run_pure,Result.andThen_ok,aE this]
theorem Un{F:FuncId}{ts:Array TypeId}{x y z:Operand}{fn:Func}(ho:o.op=.call ⟨.value (.func F),#[x,y,z],ts⟩)(hF:P.funcs[F]?=some fn)(hb:fn.body.isNone=true)(hor:fn.origin= "")(hn:fn.name= "math/bits.Add64")
 (hc:cOp P im o.op=.add64 (cX im x) (cX im y) (cX im z)):rA P im g μ w ok okp base e a o nx:=by
 intro d bs h hf;rw[hc]at h;simp only[evA]at h;split at h
 ·rename_i p q c hp hq hcc;split at h
  ·rename_i hle;simp only[aA,aJ]at h;obtain⟨rfl,rfl⟩:=h;have e1:=s8 R hE (d:=.u) (v:=undef) (n:=0) hp;have e2:=s8 R hE (d:=.u) (v:=undef) (n:=0) hq;have e3:=s8 R hE (d:=.u) (v:=undef) (n:=0) hcc;obtain⟨f1,f2⟩:=UJ (fn:=fn) hn hor;have hne:¬((fn.name== "runtime.NumGoroutine")=true):=by rw[hn];decide
   have hrun:(add64Entry #[.int .u64 p,.int .u64 q,.int .u64 c]).run P w=.ok (Extern.MathBitsCarry.pair ((p.toNat+q.toNat+c.toNat)%Extern.MathBitsCarry.m64) ((p.toNat+q.toNat+c.toNat)/Extern.MathBitsCarry.m64)) w:=by
    simp only[add64Entry,Sem.run_bind,De _ _ _ _ hle,Result.andThen_ok,Sem.run_pure]
   have hcall:(callFunc F #[.int .u64 p,.int .u64 q,.int .u64 c]).run P w=.ok (.value (Extern.MathBitsCarry.pair ((p.toNat+q.toNat+c.toNat)%Extern.MathBitsCarry.m64) ((p.toNat+q.toNat+c.toNat)/Extern.MathBitsCarry.m64))) w:=by
    simp only[callFunc,Sem.run_bind,run_program,Result.andThen_ok,hF,aE hne,hb,bf,f1,f2,run_mark,hrun,Sem.run_pure]
   refine⟨_,w,.inl (?_:_=Result.ok (Next.value (Extern.MathBitsCarry.pair ((p.toNat+q.toNat+c.toNat)%Extern.MathBitsCarry.m64) ((p.toNat+q.toNat+c.toNat)/Extern.MathBitsCarry.m64))) w),.same R (d:=.tup _) ?_⟩
   ·simp only[execOp,ho,resolve,Act.eval,Deferred.ofValue,Sem.run_bind,Sem.run_pure,Result.andThen_ok,invoke];have harr:(#[]:Array Value)++(#[x,y,z]:Array Operand).map a.eval++ #[]= #[.int .u64 p,.int .u64 q,.int .u64 c]:=by simp[e1,e2,e3]
    rw[harr];exact hcall
   ·simp only[VR,Extern.MathBitsCarry.pair,Extern.MathBitsCarry.m64];exact⟨_,rfl,by simp[VRl,VR]⟩
  ·cases h
 ·cases h
theorem Ug{F:FuncId}{ts:Array TypeId}{x y z:Operand}{fn:Func}(ho:o.op=.call ⟨.value (.func F),#[x,y,z],ts⟩)(hF:P.funcs[F]?=some fn)(hb:fn.body.isNone=true)(hor:fn.origin= "")(hn:fn.name= "math/bits.Sub64")
 (hc:cOp P im o.op=.sub64 (cX im x) (cX im y) (cX im z)):rA P im g μ w ok okp base e a o nx:=by
 intro d bs h hf;rw[hc]at h;simp only[evA]at h;split at h
 ·rename_i p q c hp hq hcc;split at h
  ·rename_i hle;simp only[aA,aJ]at h;obtain⟨rfl,rfl⟩:=h;have e1:=s8 R hE (d:=.u) (v:=undef) (n:=0) hp;have e2:=s8 R hE (d:=.u) (v:=undef) (n:=0) hq;have e3:=s8 R hE (d:=.u) (v:=undef) (n:=0) hcc;obtain⟨f1,f2⟩:=UI (fn:=fn) hn hor;have hne:¬((fn.name== "runtime.NumGoroutine")=true):=by rw[hn];decide
   have hrun:(v8 #[.int .u64 p,.int .u64 q,.int .u64 c]).run P w=.ok (Extern.MathBitsCarry.pair ((p.toNat+Extern.MathBitsCarry.m64-q.toNat-c.toNat)%Extern.MathBitsCarry.m64) (if p.toNat<q.toNat+c.toNat then 1 else 0)) w:=by
    simp only[v8,Sem.run_bind,De _ _ _ _ hle,Result.andThen_ok,Sem.run_pure]
   have hcall:(callFunc F #[.int .u64 p,.int .u64 q,.int .u64 c]).run P w=.ok (.value (Extern.MathBitsCarry.pair ((p.toNat+Extern.MathBitsCarry.m64-q.toNat-c.toNat)%Extern.MathBitsCarry.m64) (if p.toNat<q.toNat+c.toNat then 1 else 0))) w:=by
    simp only[callFunc,Sem.run_bind,run_program,Result.andThen_ok,hF,aE hne,hb,bf,f1,f2,run_mark,hrun,Sem.run_pure]
   refine⟨_,w,.inl (?_:_=Result.ok (Next.value (Extern.MathBitsCarry.pair ((p.toNat+Extern.MathBitsCarry.m64-q.toNat-c.toNat)%Extern.MathBitsCarry.m64) (if p.toNat<q.toNat+c.toNat then 1 else 0))) w),.same R (d:=.tup _) ?_⟩
   ·simp only[execOp,ho,resolve,Act.eval,Deferred.ofValue,Sem.run_bind,Sem.run_pure,Result.andThen_ok,invoke];have harr:(#[]:Array Value)++(#[x,y,z]:Array Operand).map a.eval++ #[]= #[.int .u64 p,.int .u64 q,.int .u64 c]:=by simp[e1,e2,e3]
    rw[harr];exact hcall
   ·simp only[VR,Extern.MathBitsCarry.pair,Extern.MathBitsCarry.m64];exact⟨_,rfl,by simp[VRl,VR]⟩
  ·cases h
 ·cases h
theorem Lq{op:BinOp}{t yt el:TypeId}{x y:Operand}{neg:Bool}(ho:o.op=.binOp op t x y yt)(hc:cOp P im o.op=.isnil neg (cX im x))
 (hu:P.underlying t=some (.slice el)) (hop:(op=.eql∧neg=false)∨(op=.neq∧neg=true)) (hy:TO y=true):rA P im g μ w ok okp base e a o nx:=by
 intro d bs h hf;rw[hc]at h;simp only[evA]at h;have hx:=j0 hE x;have ey:a.eval y=.slice none 0 0:=by
  cases y with
  |const v=>
   simp only[TO,YM]at hy;split at hy
   ·rfl
   ·cases hy
  |_=>cases hy
 have key:∀(ad:Addr)(l c:Nat),a.eval x=.slice (some ad) l c→wI im g μ w ok okp base g (.b neg) ((execOp a.eval o).run P w):=by
  intro ad l c hv;have hg:∀op,(eqGuard op t x y (.slice (some ad) l c) (.slice none 0 0)).run P w=.ok () w:=λop=>by cases op<;>simp[eqGuard]
  have h1:=run_equal_slice_nil (P:=P) w t el (some ad) l c hu;rcases hop with⟨rfl,rfl⟩|⟨rfl,rfl⟩
  ·refine gM (nx:=nx) (v:=.bool false) R (s:=do eqGuard .eql t x y (a.eval x) (a.eval y);binOp .eql t (a.eval x) (a.eval y)) (by simp only[execOp,ho]) ?_ (by simp[VR]);rw[hv,ey];simp only[Sem.run_bind,hg,Result.andThen_ok];simp[binOp,h1]
  ·refine gM (nx:=nx) (v:=.bool true) R (s:=do eqGuard .neq t x y (a.eval x) (a.eval y);binOp .neq t (a.eval x) (a.eval y)) (by simp only[execOp,ho]) ?_ (by simp[VR]);rw[hv,ey];simp only[Sem.run_bind,hg,Result.andThen_ok];simp[binOp,h1]
 split at h
 ·rename_i l off len cm z ex hd;split at h
  ·rename_i b hb;split at h
   ·rename_i hl;simp only[aA,aJ]at h;obtain⟨rfl,rfl⟩:=h;rw[hd]at hx;simp only[VR]at hx;obtain⟨b',p,cap,hb',hv,hk⟩:=hx;rw[hb]at hb';simp only[aA]at hb';subst hb';obtain⟨_,rfl,_⟩:=hk hl;exact key _ _ _ hv
   ·cases h
  ·cases h
 ·rename_i cs len ex hd;split at h
  ·cases h
  ·rename_i c cs';simp only[aA,aJ]at h;obtain⟨rfl,rfl⟩:=h;rw[hd]at hx;simp only[VR,TR]at hx;obtain⟨p,cap,hv,_,_,hk⟩:=hx;obtain⟨ad,rfl,_⟩:=hk (by simp);exact key _ _ _ hv
 ·cases h
theorem kw(hc:evA nx (X.ev e) g (cOp P im o.op)=none):rA P im g μ w ok okp base e a o nx:=by
 intro d bs h hf;rw[hc]at h;cases h
theorem s6:rA P im g μ w ok okp base e a o nx:=by
 cases ho:o.op with
 |move x=>exact X6 R hE ho
 |assign x=>exact Rp R hE ho
 |pick c x y=>exact X5 R hE ho
 |alloc t=>exact Um R hE ho
 |box t x=>exact Yt R hE ho
 |build t ps=>exact Uk R hE ho
 |buildSlice t n ps=>exact Fz R hE ho
 |load t x=>exact X7 R hE ho
 |nilCheck x=>exact Jr R hE ho
 |unOp op t x=>exact X3 R hE ho
 |convert s t x=>exact N6 R hE ho
 |makeFunc f x y=>exact Js R hE ho
 |makeSlice t l c=>exact IF R hE ho
 |slice t x l h m=>exact Uh R hE ho
 |fieldAddr s x f=>exact IH R hE ho
 |field s x f=>exact Uj R hE ho
 |indexAddr t x i=>exact IG R hE ho
 |index t x i=>exact Ui R hE ho
 |extract x i=>exact N5 R hE ho
 |store t x y=>
  refine kw R hE ?_;rw[ho];simp only[cOp];split<;>rfl
 |binOp op t x y yt=>
  have hc:∀q,cOp P im (.binOp op t x y yt)=q→cOp P im o.op=q:=λq h=>by rw[ho];exact h
  cases hu:P.underlying t with
  |none=>refine kw R hE ?_;rw[ho];simp only[cOp,hu];rfl
  |some td=>
   cases td with
   |bool=>exact X9 R hE ho (hc _ (by simp only[cOp,hu])) hu
   |string=>exact VW R hE ho (hc _ (by simp only[cOp,hu]))
   |int k=>exact VW R hE ho (hc _ (by simp only[cOp,hu]))
   |struct fs=>
    by_cases hg:P.eqGuardType P.depth t=true
    ·refine kw R hE ?_;rw[ho];cases op<;>simp[cOp,hu,hg,evA]
    ·cases hk:vj P 8 t with
     |none=>
      refine kw R hE ?_;rw[ho];cases op<;>simp[cOp,hu,hg,hk,evA]
     |some ks=>
      have hg':P.eqGuardType P.depth t=false:=by simpa using hg
      cases op
      case eql=>exact VV R hE ho (hc _ (by simp only[cOp,hu,hg',hk];rfl)) hu (.inl ⟨rfl,rfl⟩) hg' hk
      case neq=>exact VV R hE ho (hc _ (by simp only[cOp,hu,hg',hk];rfl)) hu (.inr ⟨rfl,rfl⟩) hg' hk
      all_goals (refine kw R hE ?_;rw[ho];simp[cOp,hu,evA])
   |slice el=>
    by_cases hn:TO y=true
    ·cases op
     case eql=>exact Lq R hE ho (hc _ (by simp only[cOp,hu,hn];rfl)) hu (.inl ⟨rfl,rfl⟩) hn
     case neq=>exact Lq R hE ho (hc _ (by simp only[cOp,hu,hn];rfl)) hu (.inr ⟨rfl,rfl⟩) hn
     all_goals (refine kw R hE ?_;rw[ho];simp[cOp,hu,hn,evA])
    ·refine kw R hE ?_;rw[ho];simp[cOp,hu,hn,evA]
   |_=>refine kw R hE ?_;rw[ho];simp only[cOp,hu];rfl
 |call c=>
  have bad:evA nx (X.ev e) g .bad=none:=rfl;obtain⟨cal,args,tys⟩:=c;cases cal with
  |invoke r m=>refine kw R hE ?_;rw[ho];rfl
  |value f=>
   cases f with
   |func F=>
    cases hF:P.funcs[F]?with
    |none=>refine kw R hE ?_;rw[ho];simp only[cOp,gf,hF];rfl
    |some fn=>
     by_cases hb:(fn.body.isNone&&fn.origin== "")=true
     ·have hb':=hb;simp only[ae,beq_iff_eq]at hb';obtain⟨hb1,hor⟩:=hb';by_cases h1:(fn.name== "math/bits.Add64")=true
      ·have hc0:cOp P im o.op=match args.toList with
        |[x,y,z]=>.add64 (cX im x) (cX im y) (cX im z)
        |_=>.bad:=by rw[ho];simp only[cOp,gf,hF,aC hb,aC h1]<;>rfl
       match hal:args.toList,hc0 with
       |[x,y,z],hc0=>
        have:args= #[x,y,z]:=by obtain⟨l⟩:=args;simp at hal;subst hal;rfl
        subst this;exact Un R hE ho hF hb1 hor (by simpa using h1) hc0
       |[],hc0=>exact kw R hE (by rw[hc0];rfl)
       |[x],hc0=>exact kw R hE (by rw[hc0];rfl)
       |[x,y],hc0=>exact kw R hE (by rw[hc0];rfl)
       |x::y::z::q::r,hc0=>exact kw R hE (by rw[hc0];rfl)
      ·by_cases h2:(fn.name== "math/bits.Sub64")=true
       ·have hc0:cOp P im o.op=match args.toList with
         |[x,y,z]=>.sub64 (cX im x) (cX im y) (cX im z)
         |_=>.bad:=by rw[ho];simp only[cOp,gf,hF,aC hb,aE h1,aC h2]<;>rfl
        match hal:args.toList,hc0 with
        |[x,y,z],hc0=>
         have:args= #[x,y,z]:=by obtain⟨l⟩:=args;simp at hal;subst hal;rfl
         subst this;exact Ug R hE ho hF hb1 hor (by simpa using h2) hc0
        |[],hc0=>exact kw R hE (by rw[hc0];rfl)
        |[x],hc0=>exact kw R hE (by rw[hc0];rfl)
        |[x,y],hc0=>exact kw R hE (by rw[hc0];rfl)
        |x::y::z::q::r,hc0=>exact kw R hE (by rw[hc0];rfl)
       ·refine kw R hE ?_;rw[ho];simp only[cOp,gf,hF,aC hb,aE h1,aE h2]<;>rfl
     ·refine kw R hE ?_;rw[ho];simp only[cOp,gf,hF,aE hb];split<;>rfl
   |tmp t=>refine kw R hE ?_;rw[ho];rfl
   |const v=>refine kw R hE ?_;rw[ho];rfl
   |global n=>refine kw R hE ?_;rw[ho];rfl
  |builtin b=>
   cases b
   case len=>
    match hal:args.toList,htl:tys.toList with
    |[x],[t]=>
     have e1:args= #[x]:=by obtain⟨l⟩:=args;simp at hal;subst hal;rfl
     have e2:tys= #[t]:=by obtain⟨l⟩:=tys;simp at htl;subst htl;rfl
     subst e1 e2;cases hu:P.underlying t with
     |none=>refine kw R hE ?_;rw[ho];simp[cOp,gf,hu,evA]
     |some td=>
      cases td with
      |string=>exact X8 R hE ho hu (by rw[ho];simp[cOp,gf,hu])
      |slice el=>exact Ys R hE ho hu (by rw[ho];simp[cOp,gf,hu])
      |_=>refine kw R hE ?_;rw[ho];simp[cOp,gf,hu,evA]
    |[],_=>refine kw R hE ?_;rw[ho];simp[cOp,gf,hal,evA]
    |x::y::r,_=>refine kw R hE ?_;rw[ho];simp[cOp,gf,hal,evA]
    |[x],[]=>refine kw R hE ?_;rw[ho];simp[cOp,gf,hal,htl,evA]
    |[x],t::u::r=>refine kw R hE ?_;rw[ho];simp[cOp,gf,hal,htl,evA]
   case max=>
    match hal:args.toList with
    |[x,y]=>
     have e1:args= #[x,y]:=by obtain⟨l⟩:=args;simp at hal;subst hal;rfl
     subst e1;exact Yr R hE ho (by rw[ho];simp[cOp,gf])
    |[]=>refine kw R hE ?_;rw[ho];simp[cOp,gf,hal,evA]
    |[x]=>refine kw R hE ?_;rw[ho];simp[cOp,gf,hal,evA]
    |x::y::z::r=>refine kw R hE ?_;rw[ho];simp[cOp,gf,hal,evA]
   case min=>
    match hal:args.toList with
    |[x,y]=>
     have e1:args= #[x,y]:=by obtain⟨l⟩:=args;simp at hal;subst hal;rfl
     subst e1;exact Yq R hE ho (by rw[ho];simp[cOp,gf])
    |[]=>refine kw R hE ?_;rw[ho];simp[cOp,gf,hal,evA]
    |[x]=>refine kw R hE ?_;rw[ho];simp[cOp,gf,hal,evA]
    |x::y::z::r=>refine kw R hE ?_;rw[ho];simp[cOp,gf,hal,evA]
   all_goals
    refine kw R hE ?_;rw[ho];simp only[cOp,gf]
    (repeat' split)<;>first|rfl|(exfalso;simp_all;done)
 |_=>refine kw R hE ?_;rw[ho];simp only[cOp];rfl
end
end
section
variable {P:Program} {im:Nat→Option Nat} {μ:Nat→Nat×Nat} {w:World} {ok okp:Nat→Nat→Prop} {base:Nat} {e:Env} {a:Act} {o:Oper} {d:D} {σ:Sto}
theorem Ag{w:World}{b o:Nat}{cur:Array Value}{el:TypeId}{fr:Nat×Nat}(v:Value)(hb:w.heap[b]?=some (.cells cur el fr)):
 (w.setCell ⟨b,o,none⟩ v).heap[b]?=some (.cells (cur.setIfInBounds o v) el fr):=by
 simp[World.setCell,Array.getElem?_modify,hb]
theorem qu(b o:Nat)(el:TypeId)(fr:Nat×Nat):∀(vs:List Value)(i:Nat)(cur:Array Value)(w:World),w.heap[b]?=some (.cells cur el fr)→
 (∀k,k<cur.size→¬(fr.1≤k∧k<fr.2))→o+i+vs.length≤cur.size→(∀v∈vs,v.oneCell'=true)→
 ∃w' cur',(storeCells ⟨b,o,none⟩ vs i).run P w=.ok () w'∧w'.heap[b]?=some (.cells cur' el fr)∧cur'.size=cur.size∧
  (∀k,cur'[k]?=if o+i≤k∧k<o+i+vs.length then vs[k-(o+i)]?else cur[k]?)∧(∀k,k≠b→w'.heap[k]?=w.heap[k]?)∧w'.heap.size=w.heap.size∧Same w w':=by
 intro vs
 induction vs with
 |nil=>
  intro i cur w hb hf hl h1;exact⟨w,cur,by simp[storeCells],hb,rfl,λk=>by rw[aE (by simp only[cj];omega)],λ_ _=>rfl,rfl,.refl _⟩
 |cons v vs ih=>
  intro i cur w hb hf hl h1;simp only[ay]at hl;have hcell:w.cell? ⟨b,o+i,none⟩=some (cur[o+i]'(by omega)):=by
   simp[World.cell?,hb]
  have hfr:w.frozen? ⟨b,o+i,none⟩=false:=by
   have:=hf (o+i) (by omega);simp only[World.frozen?,hb];cases hq:(decide (fr.1≤o+i)&&decide (o+i<fr.2))with
   |false=>rfl
   |true=>simp only[ae,decide_eq_true_eq]at hq;exact absurd hq this
  have hadd:(⟨b,o,none⟩:Addr).add i=⟨b,o+i,none⟩:=Addr.add_eq rfl i;have hst:(store ⟨b,o+i,none⟩ v).run P w=.ok () (w.setCell ⟨b,o+i,none⟩ v):=by
   rw[run_store P w _ v _ (h1 v (by simp))];simp[hcell,hfr]
  obtain⟨w',cur',r1,r2,r3,r4,r5,r6,r7⟩:=ih (i+1) (cur.setIfInBounds (o+i) v) (w.setCell ⟨b,o+i,none⟩ v) (Ag v hb) (λk hk=>hf k (by simpa using hk)) (by simp;omega) (λu hu=>h1 u (by simp[hu]));refine⟨w',cur',?_,r2,by rw[r3];simp,λk=>?_,λk hk=>by rw[r5 k hk,heap_setCell_other _ _ _ _ hk],by rw[r6];simp,(Same.setCell _ _ _).trans r7⟩
  ·simp only[storeCells,Sem.run_bind,hadd,hst,Result.andThen_ok,r1]
  ·rw[r4 k];simp only[ay];by_cases hk:k=o+i
   ·subst hk;rw[aE (by omega),aC (by omega),eB (by omega)];simp
   ·by_cases hk2:o+i≤k∧k<o+i+(vs.length+1)
    ·rw[aC (by omega),aC hk2,show k-(o+i)=(k-(o+(i+1)))+1 by omega];simp
    ·rw[aE (by omega),aE hk2,dK (by omega)]
theorem get_put(σ:Sto)(l:Nat)(b:Blk):(σ.put l b).get=upd σ.get l (some b):=by
 funext m;rw[Sto.get_put];rfl
theorem get_add1(σ:Sto)(b:Blk):(σ.adds [b]).get=upd σ.get σ.nx (some b):=by
 funext m;rw[Sto.get_add1];rfl
theorem nc{s:Stt}(h:s.wr=true):s.live=true:=by cases s<;>simp_all [Stt.wr,Stt.live]
theorem W8{g:Nat→Option Blk}{off:Nat}{new cs r:List D}(h:lay off new cs=some r){o:Nat}{nv:List Value}{arr cur:Array Value}
 (hn:VRl im g μ w ok new nv) (ho:∀(j:Nat)(y:D),cs[j]?=some y→∃v,cur[o+j]?=some v∧VR im g μ w ok y v)
 (ha:∀k,arr[k]?=if o+off≤k∧k<o+off+nv.length then nv[k-(o+off)]?else cur[k]?):
 ∀(j:Nat)(y:D),r[j]?=some y→∃v,arr[o+j]?=some v∧VR im g μ w ok y v:=by
 obtain⟨hle,hlen,hget⟩:=Aw h;have hnl:=jD hn;intro j y hj;rw[hget]at hj;rw[ha];split at hj
 ·rename_i hr;obtain⟨v,h1,h2⟩:=(jp.1 hn).2 _ _ hj;exact⟨v,by rw[aC (by omega),show o+j-(o+off)=j-off by omega];exact h1,h2⟩
 ·rename_i hr;obtain⟨v,h1,h2⟩:=ho j y hj;exact⟨v,by rw[aE (by omega)];exact h1,h2⟩
theorem vW{g:Nat→Option Blk}{b:Nat}{o:Nat}{cs:List D}{cur:Array Value}{el:TypeId}{fr:Nat×Nat}(h:VRc im g μ w ok cs b o)(hb:w.heap[b]?=some (.cells cur el fr)):
 ∀(j:Nat)(y:D),cs[j]?=some y→∃v,cur[o+j]?=some v∧VR im g μ w ok y v:=by
 intro j y hj;obtain⟨v,h1,h2⟩:=xR h hj;exact⟨v,by simpa[World.cell?,hb]using h1,h2⟩
theorem Rr{g:Nat→Option Blk}{b o:Nat}{cs:List D}{cur:Array Value}{el:TypeId}{fr:Nat×Nat}(h:VRc im g μ w ok cs b o)(hb:w.heap[b]?=some (.cells cur el fr)):cs.length=0∨o+cs.length≤cur.size:=by
 rcases bL cs.length with h0|h0
 ·exact .inl h0
 ·right;obtain⟨v,h1,_⟩:=vW h hb (cs.length-1) (cs[cs.length-1]'(by omega)) (aB _);have:=(bk.1 h1).1;omega
theorem xB{l:Nat}{b:Blk}(R:Rel im σ.get μ w ok okp base)(hl:σ.get l=some b)(hw:b.st.wr=true){off:Nat}{new cs:List D}(hlay:lay off new b.cs=some cs){nv:List Value}
 (hn:VRl im σ.get μ w ok new nv) (h1:∀v∈nv,v.oneCell'=true):
 ∃w',(storeCells ⟨(μ l).1,(μ l).2+off,none⟩ nv).run P w=.ok () w'∧Rel im (σ.put l ⟨cs,.rw⟩).get μ w' ok okp base∧Stp σ.get μ w ok (σ.put l ⟨cs,.rw⟩).get μ w' ok base:=by
 obtain⟨⟨cur,el,fr,hb,hfr⟩,hvc⟩:=R.blk l b hl (nc hw);obtain⟨hle,hlen,hget⟩:=Aw hlay;have hnl:=jD hn;have hsz:=Rr hvc hb;by_cases hz:nv=[]
 ·subst hz;have hz':new.length=0:=by simpa using hnl.symm
  refine⟨w,by simp[storeCells],?_⟩;rw[get_put];refine R.write hl hw hb hfr (λ_ _=>rfl) rfl (ma hb).symm (.refl _) (λj y hj=>?_);rw[hget,aE (by omega)]at hj;exact vW hvc hb j y hj
 ·have hpos:0<nv.length:=cM.2 hz;obtain⟨w',cur',r1,r2,r3,r4,r5,r6,r7⟩:=qu (P:=P) (μ l).1 ((μ l).2+off) el fr nv 0 cur w hb hfr (by omega) h1;refine⟨w',r1,?_⟩;rw[get_put];exact R.write hl hw r2 (λo ho=>hfr o (by omega)) r5 r6 (by rw[r3,ma hb]) r7 (W8 hlay hn (vW hvc hb) (by simpa using r4))
def E3(P:Program)(im:Nat→Option Nat)(μ:Nat→Nat×Nat)(w:World)(ok okp:Nat→Nat→Prop)(base:Nat)(e:Env)(a:Act)(o:Oper)(σ:Sto):Prop:=
 ∀d σ',evW (X.ev e) σ (cOp P im o.op)=some (d,σ')→wI im σ.get μ w ok okp base σ'.get d ((execOp a.eval o).run P w)
section
variable (R:Rel im σ.get μ w ok okp base) (hE:px im σ.get μ w ok e a.tmps) (hfresh:σ.get σ.nx=none)
include R hE hfresh
theorem Ry{t:TypeId}{x y:Operand}(ho:o.op=.store t x y):E3 P im μ w ok okp base e a o σ:=by
 intro d σ' h;rw[ho]at h;simp only[cOp]at h;split at h
 ·simp[evW]at h
 ·rename_i ti hti;simp only[evW]at h;split at h
  ·rename_i l off hd;have hx:=j0 hE x;rw[hd]at hx;simp only[VR]at hx;obtain⟨b,p,hb,hv,hl⟩:=hx;rw[hb]at h;simp only at h;split at h
   ·rename_i hc;simp only[ae,decide_eq_true_eq]at hc;obtain⟨⟨hw,hlen⟩,hone⟩:=hc;split at h
    ·rename_i cs hlay;simp only[aA,aJ]at h;obtain⟨rfl,rfl⟩:=h;have hp:=hl (nc hw);subst hp;have hy:=z6 (j0 hE y) hone;have hone':∀v∈(a.eval y).cells.toList,v.oneCell'=true:=by
      intro v hv;obtain⟨j,hj⟩:=z12.1 hv;have hjl:j<(jr (X.ev e (cX im y))).length:=by rw[←jD hy];exact(bC.1 hj).1
      obtain⟨u,h1,h2⟩:=(jp.1 hy).2 j _ (aB hjl);rw[hj]at h1;simp only[aA]at h1;subst h1;exact PX h2 (cZ.1 hone _ (bK _))
     obtain⟨w',r1,r2,r3⟩:=xB (P:=P) R hb hw hlay hy hone';refine⟨undef,w',.inr ⟨?_,rfl⟩,μ,ok,r2,r3,by simp[VR]⟩;have hsz:¬((a.eval y).cells.size≠ti.size):=by
      have:=jD hy;simp only[dT]at this;omega
     simp[execOp,ho,Instr.storeAt,hv,Instr.sureAddr,storeVar,ij hti,hsz,r1]
    ·cases h
   ·cases h
  ·cases h
omit R hE hfresh in
theorem yp{g:Nat→Option Blk}{cs:List D}{vs:List Value}(h:VRl im g μ w ok cs vs)(h1:cs.all one=true):∀v∈vs,v.oneCell'=true:=by
 intro v hv;obtain⟨j,hj⟩:=z12.1 hv;have hjl:j<cs.length:=by rw[←jD h];exact(bC.1 hj).1
 obtain⟨u,e1,e2⟩:=(jp.1 h).2 j _ (aB hjl);rw[hj]at e1;simp only[aA]at e1;subst e1;exact PX e2 (cZ.1 h1 _ (bK _))
omit hE hfresh in
theorem lZ{d:D}{v:Value}{cs:List D}{sz n:Nat}(h:cellsOf σ.get sz d=some cs)(hn:lenOf d=some n)(hv:VR im σ.get μ w ok d v):
 ∃ad cap vs,v=.slice ad n cap∧n≤cap∧VRl im σ.get μ w ok cs vs∧cs.length=n*sz∧(Builtin.firstCells sz n v).run P w=.ok vs.toArray w∧
  ∀k,k≤n→(Builtin.firstCells sz k v).run P w=.ok (vs.take (k*sz)).toArray w:=by
 obtain⟨ad,len,cap,e1,e2,e3,e4,e5⟩:=Cg R h hv;rw[hn]at e2;simp only[aA]at e2;subst e2;have key:∃vs:List Value,VRl im σ.get μ w ok cs vs∧∀k,k≤n→(Builtin.firstCells sz k v).run P w=.ok (vs.take (k*sz)).toArray w:=by
  by_cases hc:cs=[]
  ·subst hc;simp only[cj]at e3;refine⟨[],by simp[VRl],λk hk=>?_⟩;have hk0:k*sz=0:=by
    have:=aL sz hk;omega
   rw[e1];cases ad with
   |none=>simp[Builtin.firstCells]
   |some x=>simp[Builtin.firstCells,hk0,loadCells,loadCellsFrom]
  ·obtain⟨x,rfl,hs,hvc⟩:=e5 hc;obtain⟨vs,v1,v2⟩:=Cv hvc;refine⟨vs,v1,λk hk=>?_⟩;have hlen:(vs.take (k*sz)).length=k*sz:=by
    have h1:=jD v1;have:=aL sz hk;simp;omega
   rw[e1];simp only[Builtin.firstCells];have:=run_loadCells_list (P:=P) w x (vs.take (k*sz)) (λj u hj=>by
    rw[Addr.add_eq hs];refine v2 j u ?_;rw[cY]at hj;split at hj
    ·exact hj
    ·cases hj)
   rw[hlen]at this;exact this
 obtain⟨vs,k1,k2⟩:=key;have hfull:vs.take (n*sz)=vs:=by
  rw[←e3,←jD k1];exact c7
 exact⟨ad,cap,vs,e1,e4,k1,e3,by have:=k2 n (aD _);rwa[hfull]at this,k2⟩
theorem V3{t u:TypeId}{x y:Operand}{el:TypeId}(ho:o.op=.call ⟨.builtin .copy,#[x,y],#[t,u]⟩)(hu:P.underlying t=some (.slice el))(hpos:0<il P el)
 (hc:cOp P im o.op=.copy (il P el) (cX im x) (cX im y)):E3 P im μ w ok okp base e a o σ:=by
 intro d σ' h;rw[hc]at h;simp only[evW]at h;have hq:∃i,P.info? el=some i:=by
  unfold il at hpos;split at hpos
  ·rename_i i hi;exact⟨i,hi⟩
  ·simp at hpos
 obtain⟨ti,hti⟩:=hq;split at h
 ·rename_i l off len cm z ex n hd hn;split at h
  ·rename_i b src hb hsrc;split at h
   ·rename_i hcond;simp only[ae,decide_eq_true_eq]at hcond;obtain⟨⟨hw,hz⟩,hone⟩:=hcond;split at h
    ·rename_i cs hlay;simp only[aA,aJ]at h;obtain⟨rfl,rfl⟩:=h;have hx:=j0 hE x;rw[hd]at hx;simp only[VR]at hx;obtain⟨b',p,cap,hb',hv,hl⟩:=hx;rw[hb]at hb';simp only[aA]at hb';subst hb';obtain⟨l1,rfl,l2,l3,l5⟩:=hl (nc hw);obtain⟨ad,cap2,vs,f1,f2,f3,f4,f5,f6⟩:=lZ (P:=P) R hsrc hn (j0 hE y);have hk:Nat.min n len≤n:=Nat.min_le_left _ _;have hnew:VRl im σ.get μ w ok (src.take (Nat.min n len*il P el)) (vs.take (Nat.min n len*il P el)):=by
      refine jp.2 ⟨by have:=jD f3;simp[this],λj q hj=>?_⟩;rw[cY]at hj;split at hj
      ·rename_i hlt;obtain⟨v,e1,e2⟩:=(jp.1 f3).2 j q hj;exact⟨v,by rw[cY,aC hlt];exact e1,e2⟩
      ·cases hj
     obtain⟨w',r1,r2,r3⟩:=xB (P:=P) R hb hw hlay hnew (λv hv=>yp f3 hone v (bw hv));refine⟨.int .i64 (Nat.min n len:Nat),w',.inl ?_,μ,ok,r2,r3,by simp[VR]⟩;have hcopy:(Builtin.copy_ #[t,u] o.type #[.slice (some ⟨(μ l).1,(μ l).2+off,none⟩) len cap,a.eval y]).run P w=.ok (goInt (Nat.min n len:Nat)) w':=by
      have hlen:(Builtin.lenOf (a.eval y)).run P w=.ok n w:=by rw[f1];simp[Builtin.lenOf]
      have hfc:=f6 _ hk;rw[o9 hti]at hfc r1;simp[Builtin.copy_,fF hu,hlen,ij hti,hfc,r1]
     simp only[execOp,ho,resolve,Sem.run_bind,Sem.run_pure,Result.andThen_ok,invoke,builtin];have harr:(#[x,y]:Array Operand).map a.eval= #[.slice (some ⟨(μ l).1,(μ l).2+off,none⟩) len cap,a.eval y]:=by simp[hv]
     rw[harr,hcopy];rfl
    ·cases h
   ·cases h
  ·cases h
 ·cases h
theorem Rz{t:TypeId}{x:Operand}{el:TypeId}{zv:Value}(ho:o.op=.call ⟨.builtin .clear,#[x],#[t]⟩)(hu:P.underlying t=some (.slice el))(hz:pX P el=some zv)
 (hc:cOp P im o.op=.clr (il P el) (zc zv) (cX im x)):E3 P im μ w ok okp base e a o σ:=by
 intro d σ' h;rw[hc]at h;simp only[evW]at h;have hx:=j0 hE x;obtain⟨ti,hti,hz⟩:=sL hz;split at h
 ·rename_i l off len cm z ex hd;rw[hd]at hx;simp only[VR]at hx;obtain⟨b,p,cap,hb,hv,hl⟩:=hx;rw[hb]at h;simp only at h;split at h
  ·rename_i hcond;simp only[ae,decide_eq_true_eq]at hcond;obtain⟨⟨⟨hw,hzl⟩,hzz⟩,hone⟩:=hcond;split at h
   ·rename_i cs hlay;simp only[aA,aJ]at h;obtain⟨rfl,rfl⟩:=h;obtain⟨l1,rfl,l2,l3,l5⟩:=hl (nc hw);have hzs:(zc zv).length=zv.cells.size:=by simp[zc]
    have hnew:VRl im σ.get μ w ok (oG len (zc zv)) (Builtin.zeroCells zv.cells len).toList:=by
     refine jp.2 ⟨by simp[tk,Builtin.zeroCells,hzs],λj x hj=>?_⟩;obtain⟨v,h1,h2⟩:=zZ (g:=σ.get) (μ:=μ) (w:=w) (ok:=ok) (im:=im) (z:=zv) (n:=len) (m:=len*zv.cells.size) (by rw[hzs]) j x hj;exact⟨v,by simpa only[d6,Builtin.zeroCells]using h1,h2⟩
    have hall:(oG len (zc zv)).all one=true:=by
     have:∀n,(oG n (zc zv)).all one=true:=by
      intro n
      induction n with
      |zero=>rfl
      |succ n ih=>simp only[oG,z1B,hone,ih,dI]
     exact this len
    obtain⟨w',r1,r2,r3⟩:=xB (P:=P) R hb hw hlay hnew (yp hnew hall);have hrun:(Builtin.clear_ #[t] o.type #[.slice (some ⟨(μ l).1,(μ l).2+off,none⟩) len cap]).run P w=.ok (.tuple #[]) w':=by
     cases len with
     |zero=>
      have e0:(Builtin.zeroCells zv.cells 0).toList=[]:=by simp[Builtin.zeroCells]
      rw[e0]at r1;simp only[storeCells,Sem.run_pure,Result.ok.injEq,true_and]at r1;subst r1;simp[Builtin.clear_,fF hu]
     |succ n=>simp[Builtin.clear_,fF hu,pZ hti hz,r1]
    refine⟨.tuple #[],w',.inl ?_,μ,ok,r2,r3,by simp[VR]⟩;simp only[execOp,ho,resolve,Sem.run_bind,Sem.run_pure,Result.andThen_ok,invoke,builtin];have harr:(#[x]:Array Operand).map a.eval= #[.slice (some ⟨(μ l).1,(μ l).2+off,none⟩) len cap]:=by simp[hv]
    rw[harr,hrun];rfl
   ·cases h
  ·cases h
 ·rename_i cs ex hd;simp only[aA,aJ]at h;obtain⟨rfl,rfl⟩:=h;rw[hd]at hx;simp only[VR,TR]at hx;obtain⟨p,cap,hv,_⟩:=hx;have hrun:(Builtin.clear_ #[t] o.type #[.slice p 0 cap]).run P w=.ok (.tuple #[]) w:=by
   cases p<;>simp[Builtin.clear_,fF hu]
  refine⟨.tuple #[],w,.inl ?_,.same R (by simp[VR])⟩;simp only[execOp,ho,resolve,Sem.run_bind,Sem.run_pure,Result.andThen_ok,invoke,builtin];have harr:(#[x]:Array Operand).map a.eval= #[.slice p 0 cap]:=by simp[hv]
  rw[harr,hrun];rfl
 ·cases h
omit R hE hfresh in
theorem qi{t u ty el el2:TypeId}{ti:TypeInfo}(hu:P.underlying t=some (.slice el))(hu2:P.underlying u=some (.slice el2))(hti:P.info? el=some ti)
 {p:Option Addr} {sLen sCap n:Nat} {v:Value} {vs:List Value} {w':World} (hl:(Builtin.lenOf v).run P w=.ok n w) (hf:(Builtin.firstCells ti.size n v).run P w=.ok vs.toArray w)
 (hroom:sLen+n≤sCap) (hst:∀x,p=some x→(storeCells (x.add (sLen*ti.size)) vs).run P w=.ok () w') (hn:p=none→w'=w):
 (Builtin.append_ #[t,u] ty #[.slice p sLen sCap,v]).run P w=.ok (.slice p (sLen+n) sCap) w':=by
 cases p with
 |none=>
  have:=hn rfl;subst this;simp[Builtin.append_,fF hu,fF hu2,ij hti,hl,hroom,hf]
 |some x=>simp[Builtin.append_,fF hu,fF hu2,ij hti,hl,hroom,hf,hst x rfl]
omit R hE hfresh in
theorem vH{t u ty el el2:TypeId}{ti:TypeInfo}{z:Value}(hu:P.underlying t=some (.slice el))(hu2:P.underlying u=some (.slice el2))(hti:P.info? el=some ti)(hz:ti.zero=some z)
 {p:Option Addr} {sLen sCap n:Nat} {v:Value} {vs os:List Value} (hl:(Builtin.lenOf v).run P w=.ok n w) (hf:(Builtin.firstCells ti.size n v).run P w.drew=.ok vs.toArray w.drew)
 (ho:(Builtin.firstCells ti.size sLen (.slice p sLen sCap)).run P w.drew=.ok os.toArray w.drew)
 (hroom:sCap<sLen+n) (hfit:(sLen+n)*ti.bytes≤1099511627776) (h63:sLen+n≤1099511627776):
 (Builtin.append_ #[t,u] ty #[.slice p sLen sCap,v]).run P w=.ok (.slice (some ⟨w.heap.size,0,none⟩) (sLen+n) (grownCap w (sLen+n) sCap el))
  (w.drew.alloc (.cells (os.toArray++vs.toArray++Builtin.zeroCells z.cells (grownCap w (sLen+n) sCap el-(sLen+n))) el)):=by
 have hn:¬(sLen+n≤sCap):=by omega
 have hcap:=nextslicecap_le hroom;have h1:Builtin.nextslicecap (sLen+n) sCap*ti.bytes≤2*(sLen+n)*ti.bytes:=aL _ hcap;have h2:2*(sLen+n)*ti.bytes=2*((sLen+n)*ti.bytes):=aU _ _ _;have h48:¬(281474976710656<Builtin.nextslicecap (sLen+n) sCap*ti.bytes):=by omega
 have h63':¬(9223372036854775807<((sLen:Int)+(n:Int))):=by omega
 simp[Builtin.append_,fF hu,fF hu2,ij hti,sf hti,pZ hti hz,hl,hn,h48,h63',Question.forced,hf,ho,newRow,grownCap];congr 2;apply Array.ext';simp[bW]
omit hE hfresh in
theorem Okv.drew{g':Nat→Option Blk}{d:D}{v:Value}{w':World}(h:Okv im σ.get μ w.drew ok okp base g' d v w'):Okv im σ.get μ w ok okp base g' d v w':=by
 obtain⟨μ',ok',h1,h2,h3⟩:=h;exact⟨μ',ok',h1,(R.heap (w':=w.drew) rfl (.drew _)).2.trans h2,h3⟩
omit R hE hfresh in
theorem A6(w:World)(need old:Nat)(el:TypeId):need≤grownCap w need old el:=by
 unfold grownCap;simp[Question.cut]
omit R hE hfresh in
theorem A5{g:Nat→Option Blk}{c1 c2:List D}{v1 v2:List Value}{zs:Array Value}(h1:VRl im g μ w ok c1 v1)(h2:VRl im g μ w ok c2 v2):
 ∀(j:Nat)(y:D),(c1++c2)[j]?=some y→∃v,(v1.toArray++v2.toArray++zs)[j]?=some v∧VR im g μ w ok y v:=by
 intro j y hj;have e1:=jD h1;have e2:=jD h2;by_cases hlt:j<c1.length
 ·rw[bQ hlt]at hj;obtain⟨v,a1,a2⟩:=(jp.1 h1).2 j y hj;refine⟨v,?_,a2⟩;rw[Array.append_assoc,eC (by simp;omega)];simpa using a1
 ·rw[bN (by omega)]at hj;obtain⟨v,a1,a2⟩:=(jp.1 h2).2 _ y hj;have hj2:j-c1.length<c2.length:=(bC.1 hj).1;refine⟨v,?_,a2⟩;rw[eC (by simp;omega),Array.getElem?_append_right (by simp;omega)];simpa[e1]using a1
theorem E0{t u:TypeId}{x y:Operand}{el el2:TypeId}{zv:Value}(ho:o.op=.call ⟨.builtin .append,#[x,y],#[t,u]⟩)(hu:P.underlying t=some (.slice el))(hu2:P.underlying u=some (.slice el2))
 (hz:pX P el=some zv) (hpos:0<il P el) (hzl:(zc zv).length=il P el)
 {d:D} {σ':Sto} (h:sJ (X.ev e) σ (il P el) (Ck P el) (cX im x) (cX im y)=some (d,σ')):wI im σ.get μ w ok okp base σ'.get d ((execOp a.eval o).run P w):=by
 unfold sJ at h;have hx:=j0 hE x;obtain⟨ti,hti,hz⟩:=sL hz;rw[o9 hti]at h hpos hzl;rw[Ft hti]at h;have exec:∀{v w'},(Builtin.append_ #[t,u] o.type #[a.eval x,a.eval y]).run P w=.ok v w'→(execOp a.eval o).run P w=.ok (.value v) w':=by
  intro v w' hr;simp only[execOp,ho,resolve,Sem.run_bind,Sem.run_pure,Result.andThen_ok,invoke,builtin];have harr:(#[x,y]:Array Operand).map a.eval= #[a.eval x,a.eval y]:=by simp
  rw[harr,hr];rfl
 split at h
 ·rename_i new n hnew hn;obtain⟨ad,cap2,vs,f1,f2,f3,f4,f5,f6⟩:=lZ (P:=P) R hnew hn (j0 hE y);have hlen:(Builtin.lenOf (a.eval y)).run P w=.ok n w:=by rw[f1];simp[Builtin.lenOf]
  obtain⟨Rd,Sd⟩:=R.heap (w':=w.drew) rfl (.drew _);obtain⟨adD,cap2D,vsD,f1D,f2D,f3D,f4D,f5D,f6D⟩:=lZ (P:=P) Rd hnew hn (oD Sd _ _ (j0 hE y));have zsz:∀m,(Builtin.zeroCells zv.cells m).size=m*ti.size:=λm=>by
   have:zv.cells.size=ti.size:=by rw[←hzl];simp[zc]
   simp[Builtin.zeroCells,this]
  have grow:∀(g1:Nat→Option Blk)(p:Option Addr)(len cap:Nat)(old:List D)(os:List Value),a.eval x=.slice p len cap→Rel im g1 μ w.drew ok okp base→Stp σ.get μ w.drew ok g1 μ w.drew ok base→g1 σ.nx=none→
   VRl im σ.get μ w.drew ok old os→(Builtin.firstCells ti.size len (.slice p len cap)).run P w.drew=.ok os.toArray w.drew→old.length=len*ti.size→cap<len+n→(len+n)*ti.bytes≤1099511627776→len+n≤1099511627776→
   wI im σ.get μ w ok okp base (upd g1 σ.nx (some ⟨old++new,.rw⟩)) (.sl σ.nx 0 (len+n) (len+n) ti.size false) ((execOp a.eval o).run P w):=by
   intro g1 p len cap old os hv R1 S1 hf1 ho1 ho2 ho3 hroom hb hb2;have hrun:=vH (ty:=o.type) hu hu2 hti hz hlen f5D ho2 hroom hb hb2;have hl1:=jD ho1;have hl2:=jD f3D;have hg:=A6 w (len+n) cap el;have hmul:(len+n)*ti.size≤grownCap w (len+n) cap el*ti.size:=aL _ hg;have hmul2:(grownCap w (len+n) cap el-(len+n))*ti.size=grownCap w (len+n) cap el*ti.size-(len+n)*ti.size:=z1F _ _ _;have hmul3:(len+n)*ti.size=len*ti.size+n*ti.size:=aP _ _ _;refine⟨_,_,.inl (exec (by rw[hv];exact hrun)),Okv.drew R ?_⟩;have hk:=Okv.new' (w':=w.drew.alloc (.cells (os.toArray++vsD.toArray++Builtin.zeroCells zv.cells (grownCap w (len+n) cap el-(len+n))) el)) (v:=.slice (some ⟨w.heap.size,0,none⟩) (len+n) (grownCap w (len+n) cap el)) (d:=.sl σ.nx 0 (len+n) (len+n) ti.size false) R1 hf1 (cs:=old++new)
    (λb hb=>heap_alloc_old w.drew _ b hb) (heap_alloc_new w.drew _) (by simp) (.alloc _ _ _) (fr:=(0,0)) (λo _=>by simp)
    (A5 (tR S1 _ _ ho1) (tR S1 _ _ f3D))
    (vX (aD _) hg (λh=>by cases h) (by
     show _≤pz (w.drew.alloc (.cells (os.toArray++vsD.toArray++Builtin.zeroCells zv.cells (grownCap w (len+n) cap el-(len+n))) el)) w.drew.heap.size;rw[ma (heap_alloc_new w.drew _)];simp only[Array.size_append,z1s,zsz];omega))
   obtain⟨μ',ok',k1,k2,k3⟩:=hk;exact⟨μ',ok',k1,S1.trans k2,k3⟩
  split at h
  ·rename_i cs len ex hd;rw[hd]at hx;have hx0:=hx;simp only[VR,TR]at hx;obtain⟨p,cap,hv,l1,l2,l3⟩:=hx;split at h
   ·rename_i hn0;subst hn0;simp only[aA,aJ]at h;obtain⟨rfl,rfl⟩:=h;have hvs:vs=[]:=by
     have:=jD f3;simp only[bP]at f4;rw[f4]at this;simpa using this
    subst hvs;refine⟨.slice p len cap,w,.inl (exec ?_),.same R (by rw[hv]at hx0;exact hx0)⟩;rw[hv];exact qi hu hu2 hti (n:=0) hlen f5 (by omega) (λx _=>by simp[storeCells]) (λ_=>rfl)
   ·rename_i hn0;split at h
    ·rename_i hcond;simp only[ae,decide_eq_true_eq]at hcond;obtain⟨⟨⟨hex,hcl⟩,hb⟩,hb2⟩:=hcond;simp only[aA,aJ]at h;obtain⟨rfl,rfl⟩:=h;have hcap:=l2 hex;obtain⟨adO,capO,os,g1,g2,g3,g4,g5,g6⟩:=lZ (P:=P) (d:=.tree cs len ex) (n:=len) (sz:=ti.size) (cs:=cs) Rd (by simp only[cellsOf];rw[aC hcl]) rfl (oD Sd _ _ hx0);rw[get_add1];rw[hv]at g1;simp only[Value.slice.injEq]at g1;obtain⟨rfl,-,rfl⟩:=g1;rw[hv]at g5;exact grow σ.get p len cap cs os hv Rd (.refl ..) hfresh g3 g5 g4 (by omega) hb hb2
    ·cases h
  ·rename_i l off len cm z ex hd;rw[hd]at hx;simp only[VR]at hx;obtain⟨b,p,cap,hb,hv,hl⟩:=hx;rw[hb]at h;simp only at h;split at h
   ·rename_i hcond;simp only[ae,decide_eq_true_eq]at hcond;obtain⟨⟨⟨⟨hw,hzz⟩,hone⟩,hb1⟩,hb2⟩:=hcond;obtain⟨l1,rfl,l2,l3,l5⟩:=hl (nc hw);subst hzz;split at h
    ·rename_i hroom;split at h
     ·rename_i cs hlay;simp only[aA,aJ]at h;obtain⟨rfl,rfl⟩:=h;obtain⟨w',r1,r2,r3⟩:=xB (P:=P) R hb hw hlay f3 (yp f3 hone);refine⟨_,w',.inl (exec (v:=.slice (some ⟨(μ l).1,(μ l).2+off,none⟩) (len+n) cap) ?_),μ,ok,r2,r3,?_⟩
      ·rw[hv];refine qi hu hu2 hti hlen f5 (by omega) (λx hx=>?_) (λh=>by cases h);simp only[aA]at hx;subst hx;rw[Addr.add_eq rfl,cx];exact r1
      ·simp only[VR];refine⟨⟨cs,.rw⟩,_,_,by rw[get_put,fB],rfl,λ_=>⟨hroom,rfl,l2,l3,?_⟩⟩;obtain⟨b2,hb2',k⟩:=r3.locs l b hb;rw[get_put,fB]at hb2';simp only[aA]at hb2';subst hb2';rw[(k rfl).2.2];exact l5
     ·cases h
    ·rename_i hroom;split at h
     ·rename_i old hcut;simp only[aA,aJ]at h;obtain⟨rfl,rfl⟩:=h;have hxD:VR im σ.get μ w.drew ok (.sl l off len cm ti.size ex) (a.eval x):=by
       have:=j0 hE x;rw[hd]at this;exact oD Sd _ _ this
      have hco:cellsOf σ.get ti.size (.sl l off len cm ti.size ex)=some old:=by
       simp only[cellsOf,hb,nc hw];simpa using hcut
      obtain⟨adO,capO,os,g1,g2,g3,g4,g5,g6⟩:=lZ (P:=P) (d:=.sl l off len cm ti.size ex) (n:=len) (sz:=ti.size) (cs:=old) Rd hco rfl hxD;rw[hv]at g1;simp only[Value.slice.injEq]at g1;obtain⟨rfl,-,rfl⟩:=g1;rw[hv]at g5;by_cases hex:ex=true
      ·have hcap:=l3 hex;simp only[hex,bf,get_add1];exact grow σ.get _ len cap old os hv Rd (.refl ..) hfresh g3 g5 g4 (by omega) hb1 hb2
      ·have hex':ex=false:=by simpa using hex
       subst hex';have hnl:σ.nx≠l:=λe=>by rw[e,hb]at hfresh;cases hfresh
       have hgk:(σ.put l ⟨[],.gone⟩).get=upd σ.get l (some ⟨[],.gone⟩):=get_put _ _ _;simp only[bj,bz,get_add1,Sto.nx_put,hgk];by_cases hcap:len+n≤cap
       ·
        obtain⟨⟨cur,el',fr,hbb,hfr⟩,hvc⟩:=R.blk l b hb (nc hw);have hrs:=ma hbb;have hvl:=jD f3;have hcl:n*ti.size+len*ti.size≤cap*ti.size:=by rw[←aP];exact aL _ (by omega)
        obtain⟨w',cur',r1,r2,r3,r4,r5,r6,r7⟩:=qu (P:=P) (μ l).1 ((μ l).2+off+len*ti.size) el' fr vs 0 cur w hbb hfr (by omega) (yp f3 hone);obtain⟨m1,m2⟩:=R.move (w':=w') (l2:=σ.nx) (cs:=old++new) (arr:=cur') (o2:=(μ l).2+off) hb hw hfresh r2 (λo ho=>hfr o (by omega)) r5 r6 (by rw[r3,hrs]) r7 (λj y hj=>by
         have hol:old.length=len*ti.size:=(vv hcut).2;by_cases hlt:j<old.length
         ·rw[bQ hlt]at hj;obtain⟨v,a1,a2⟩:=vW (vw hcut hvc) hbb j y hj;exact⟨v,by rw[r4,aE (by omega)];exact a1,a2⟩
         ·rw[bN (by omega)]at hj;have hj2:j-old.length<new.length:=(bC.1 hj).1;obtain⟨v,a1,a2⟩:=(jp.1 f3).2 _ y hj;refine⟨v,?_,a2⟩;rw[r4,aC (by omega),←a1];congr 1;omega)
        refine⟨_,w',.inl (exec (v:=.slice (some ⟨(μ l).1,(μ l).2+off,none⟩) (len+n) cap) ?_),_,ok,m1,m2,?_⟩
        ·rw[hv];refine qi hu hu2 hti hlen f5 hcap (λx hx=>?_) (λh=>by cases h);simp only[aA]at hx;subst hx;rw[Addr.add_eq rfl];exact r1
        ·simp only[VR];refine⟨_,_,_,fB _ _ _,rfl,λ_=>⟨aD _,by rw[fB];rfl,hcap,(λh=>by cases h),?_⟩⟩;rw[fB];show(μ l).2+off+0+cap*ti.size≤pz w' (μ l).1;rw[ma r2,r3,←hrs];omega
       ·obtain⟨k1,k2⟩:=Rd.kill (cs:=[]) hb;exact grow _ _ len cap old os hv k1 k2 (by rw[fJ _ _ hnl];exact hfresh) g3 g5 g4 (by omega) hb1 hb2
     ·cases h
   ·cases h
  ·cases h
 ·cases h
theorem Ng{t u:TypeId}{x y:Operand}{el el2:TypeId}{zv:Value}(ho:o.op=.call ⟨.builtin .append,#[x,y],#[t,u]⟩)(hu:P.underlying t=some (.slice el))(hu2:P.underlying u=some (.slice el2))
 (hz:pX P el=some zv) (hpos:0<il P el) (hzl:(zc zv).length=il P el)
 (hc:cOp P im o.op=.app (il P el) (Ck P el) (cX im x) (cX im y)):E3 P im μ w ok okp base e a o σ:=by
 intro d σ' h;rw[hc]at h;simp only[evW]at h;exact E0 R hE hfresh ho hu hu2 hz hpos hzl h
omit R hE hfresh in
theorem Jy{α:Type}(f:Nat→α)(l:Nat)(x y:α):upd (upd f l x) l y=upd f l y:=by
 funext m;by_cases e:m=l
 ·subst e;rw[fB,fB]
 ·rw[fJ _ _ e,fJ _ _ e,fJ _ _ e]
theorem V4{t u:TypeId}{x y:Operand}{el el2:TypeId}{zv:Value}(ho:o.op=.call ⟨.builtin .append,#[x,y],#[t,u]⟩)(hu:P.underlying t=some (.slice el))(hu2:P.underlying u=some (.slice el2))
 (hz:pX P el=some zv) (hpos:0<il P el) (hzl:(zc zv).length=il P el)
 {d:D} {σ':Sto} (h:evW (X.ev e) σ (.appk (il P el) (Ck P el) (cX im x) (cX im y))=some (d,σ')):wI im σ.get μ w ok okp base σ'.get d ((execOp a.eval o).run P w):=by
 simp only[evW]at h;split at h
 ·rename_i l off len cm z hd;have hx:=j0 hE x;obtain⟨ti,hti,hz⟩:=sL hz;rw[o9 hti]at h hpos hzl;rw[Ft hti]at h;have exec:∀{v w'},(Builtin.append_ #[t,u] o.type #[a.eval x,a.eval y]).run P w=.ok v w'→(execOp a.eval o).run P w=.ok (.value v) w':=by
   intro v w' hr;simp only[execOp,ho,resolve,Sem.run_bind,Sem.run_pure,Result.andThen_ok,invoke,builtin];have harr:(#[x,y]:Array Operand).map a.eval= #[a.eval x,a.eval y]:=by simp
   rw[harr,hr];rfl
  split at h
  ·rename_i new n b hnew hn hb;obtain⟨ad,cap2,vs,f1,f2,f3,f4,f5,f6⟩:=lZ (P:=P) R hnew hn (j0 hE y);have hlen:(Builtin.lenOf (a.eval y)).run P w=.ok n w:=by rw[f1];simp[Builtin.lenOf]
   obtain⟨Rd,Sd⟩:=R.heap (w':=w.drew) rfl (.drew _);obtain⟨adD,cap2D,vsD,f1D,f2D,f3D,f4D,f5D,f6D⟩:=lZ (P:=P) Rd hnew hn (oD Sd _ _ (j0 hE y));have zsz:∀m,(Builtin.zeroCells zv.cells m).size=m*ti.size:=λm=>by
    have:zv.cells.size=ti.size:=by rw[←hzl];simp[zc]
    simp[Builtin.zeroCells,this]
   split at h
   ·rename_i hcond;simp only[ae,decide_eq_true_eq]at hcond;obtain⟨⟨⟨⟨⟨hown,hzz⟩,hone⟩,hb1⟩,hb2⟩,hend⟩:=hcond;subst hzz;have hlive:=fw hown;rw[hd]at hx;have hx0:=hx;simp only[VR]at hx;obtain⟨b',p,cap,hb',hv,hl⟩:=hx;rw[hb]at hb';simp only[aA]at hb';subst hb';obtain⟨l1,rfl,l2,l3,l5⟩:=hl hlive;split at h
    ·rename_i old hcut;simp only[aA,aJ]at h;obtain⟨rfl,rfl⟩:=h;have hol:old.length=len*ti.size:=(vv hcut).2;have hgk:(σ.put l ⟨b.cs,.frz⟩).get=upd σ.get l (some ⟨b.cs,.frz⟩):=get_put _ _ _;have hnl:σ.nx≠l:=λe=>by rw[e,hb]at hfresh;cases hfresh
     simp only[get_add1,Sto.nx_put,hgk];have hvl:=jD f3;by_cases hcap:len+n≤cap
     ·
      obtain⟨R1,S1⟩:=R.toApd hb hown;obtain⟨⟨cur,el',fr,hbb,hfr⟩,hvc⟩:=R.blk l b hb hlive;have hrs:=ma hbb;have hcl:n*ti.size+len*ti.size≤cap*ti.size:=by rw[←aP];exact aL _ (by omega)
      obtain⟨w',cur',r1,r2,r3,r4,r5,r6,r7⟩:=qu (P:=P) (μ l).1 ((μ l).2+off+len*ti.size) el' fr vs 0 cur w hbb hfr (by omega) (yp f3 hone);obtain⟨m1,m2⟩:=R1.share (w':=w') (l:=l) (l2:=σ.nx) (b:=⟨b.cs,.apd⟩) (cs:=old++new) (arr:=cur') (o2:=(μ l).2+off) (fB _ _ _) rfl (by rw[fJ _ _ hnl];exact hfresh) hbb r2
       (λo ho=>hfr o (by omega)) (λk hk=>by rw[r4,aE (by simp only at hk;omega)]) r5 r6 (by rw[r3,hrs]) r7 (by simp only[bF];omega) (λj y hj=>by
        by_cases hlt:j<old.length
        ·rw[bQ hlt]at hj;obtain⟨v,a1,a2⟩:=vW (vw hcut hvc) hbb j y hj;exact⟨v,by rw[r4,aE (by omega)];exact a1,oD S1 _ _ a2⟩
        ·rw[bN (by omega)]at hj;have hj2:j-old.length<new.length:=(bC.1 hj).1;obtain⟨v,a1,a2⟩:=(jp.1 f3).2 _ y hj;refine⟨v,?_,oD S1 _ _ a2⟩;rw[r4,aC (by omega),←a1];congr 1;omega)
      simp only[Jy]at m1 m2;refine⟨_,w',.inl (exec (v:=.slice (some ⟨(μ l).1,(μ l).2+off,none⟩) (len+n) cap) ?_),_,_,m1,S1.trans m2,?_⟩
      ·rw[hv];refine qi hu hu2 hti hlen f5 hcap (λx hx=>?_) (λh=>by cases h);simp only[aA]at hx;subst hx;rw[Addr.add_eq rfl];exact r1
      ·simp only[VR];refine⟨_,_,_,fB _ _ _,rfl,λ_=>⟨aD _,by rw[fB];rfl,hcap,(λh=>by cases h),?_⟩⟩;rw[fB];show(μ l).2+off+0+cap*ti.size≤pz w' (μ l).1;rw[ma r2,r3,←hrs];omega
     ·
      have hxD:VR im σ.get μ w.drew ok (.sl l off len cm ti.size false) (a.eval x):=oD Sd _ _ hx0;have hco:cellsOf σ.get ti.size (.sl l off len cm ti.size false)=some old:=by
       simp only[cellsOf,hb,hlive];simpa using hcut
      obtain⟨adO,capO,os,g1,g2,g3,g4,g5,g6⟩:=lZ (P:=P) (d:=.sl l off len cm ti.size false) (n:=len) (sz:=ti.size) (cs:=old) Rd hco rfl hxD;rw[hv]at g1;simp only[Value.slice.injEq]at g1;obtain⟨rfl,-,rfl⟩:=g1;rw[hv]at g5;have hrun:=vH (ty:=o.type) hu hu2 hti hz hlen f5D g5 (by omega) hb1 hb2;have hl1:=jD g3;have hl2:=jD f3D;have hg:=A6 w (len+n) cap el;have hmul:(len+n)*ti.size≤grownCap w (len+n) cap el*ti.size:=aL _ hg;have hmul2:(grownCap w (len+n) cap el-(len+n))*ti.size=grownCap w (len+n) cap el*ti.size-(len+n)*ti.size:=z1F _ _ _;have hmul3:(len+n)*ti.size=len*ti.size+n*ti.size:=aP _ _ _;obtain⟨ok1,R1,S1⟩:=Rd.freezeF hb hown;have hf1:upd σ.get l (some ⟨b.cs,.frz⟩) σ.nx=none:=by rw[fJ _ _ hnl];exact hfresh
      refine⟨_,_,.inl (exec (by rw[hv];exact hrun)),Okv.drew R ?_⟩;have hk:=Okv.new' (w':=w.drew.alloc (.cells (os.toArray++vsD.toArray++Builtin.zeroCells zv.cells (grownCap w (len+n) cap el-(len+n))) el)) (v:=.slice (some ⟨w.heap.size,0,none⟩) (len+n) (grownCap w (len+n) cap el)) (d:=.sl σ.nx 0 (len+n) (len+n) ti.size false) R1 hf1 (cs:=old++new)
       (λb hb=>heap_alloc_old w.drew _ b hb) (heap_alloc_new w.drew _) (by simp) (.alloc _ _ _) (fr:=(0,0)) (λo _=>by simp)
       (A5 (tR S1 _ _ g3) (tR S1 _ _ f3D))
       (vX (aD _) hg (λh=>by cases h) (by
        show _≤pz (w.drew.alloc (.cells (os.toArray++vsD.toArray++Builtin.zeroCells zv.cells (grownCap w (len+n) cap el-(len+n))) el)) w.drew.heap.size;rw[ma (heap_alloc_new w.drew _)];simp only[Array.size_append,z1s,zsz];omega))
      obtain⟨μ',ok',k1,k2,k3⟩:=hk;obtain⟨k4,k5⟩:=k1.toApd (fB _ _ _) rfl;simp only[Jy]at k4 k5;exact⟨μ',_,k4,(S1.trans k2).trans k5,oD k5 _ _ k3⟩
    ·cases h
   ·cases h
  ·cases h
 ·cases hq:sJ (X.ev e) σ (il P el) (Ck P el) (cX im x) (cX im y)with
  |none=>rw[hq]at h;cases h
  |some r=>
   obtain⟨d1,σ1⟩:=r;have hd:=E0 R hE hfresh ho hu hu2 hz hpos hzl hq;rw[hq]at h;split at h
   ·rename_i l off len cm z ex σ2 he;simp only[aA,aJ]at he;obtain⟨rfl,rfl⟩:=he;split at h
    ·split at h
     ·rename_i b hb;split at h
      ·rename_i hown;simp only[aA,aJ]at h;obtain⟨rfl,rfl⟩:=h;obtain⟨v,w',h1,μ',ok',k1,k2,k3⟩:=hd;obtain⟨r1,r2⟩:=k1.toApd hb hown;have hg:(σ1.put l ⟨b.cs,.apd⟩).get=upd σ1.get l (some ⟨b.cs,.apd⟩):=get_put _ _ _;exact⟨v,w',h1,μ',_,by rw[hg];exact r1,by rw[hg];exact k2.trans r2,by rw[hg];exact oD r2 _ _ k3⟩
      ·cases h
     ·cases h
    ·simp only[aA,aJ]at h;obtain⟨rfl,rfl⟩:=h;exact hd
   ·rw[h]at hq;simp only[aA,aJ]at h;obtain⟨rfl,rfl⟩:=h;exact hd
theorem oH(hc:evW (X.ev e) σ (cOp P im o.op)=none):E3 P im μ w ok okp base e a o σ:=by
 intro d σ' h;rw[hc]at h;cases h
theorem EP:E3 P im μ w ok okp base e a o σ:=by
 cases ho:o.op with
 |store t x y=>exact Ry R hE hfresh ho
 |call c=>
  obtain⟨cal,args,tys⟩:=c;cases cal with
  |invoke r m=>refine oH R hE hfresh ?_;rw[ho];rfl
  |value f=>
   refine oH R hE hfresh ?_;rw[ho];simp only[cOp,gf]
   (repeat' split)<;>rfl
  |builtin b=>
   cases b
   case append=>
    match hal:args.toList,htl:tys.toList with
    |[x,y],[t,u]=>
     have e1:args= #[x,y]:=by obtain⟨l⟩:=args;simp at hal;subst hal;rfl
     have e2:tys= #[t,u]:=by obtain⟨l⟩:=tys;simp at htl;subst htl;rfl
     subst e1 e2;have hcc:cOp P im o.op=match P.underlying t,P.underlying u with
      |some (.slice el),some (.slice _)=>match pX P el with
       |some z=>if 0<il P el&&(zc z).length==il P el then .app (il P el) (Ck P el) (cX im x) (cX im y)else .bad
       |none=>.bad
      |_,_=>.bad:=by rw[ho];rfl
     split at hcc
     ·rename_i el el2 hu hu2;split at hcc
      ·rename_i z hz;split at hcc
       ·rename_i hq;simp only[ae,decide_eq_true_eq,beq_iff_eq]at hq;exact Ng R hE hfresh ho hu hu2 hz hq.1 hq.2 hcc
       ·exact oH R hE hfresh (by rw[hcc];rfl)
      ·exact oH R hE hfresh (by rw[hcc];rfl)
     ·exact oH R hE hfresh (by rw[hcc];rfl)
    |[],_=>refine oH R hE hfresh ?_;rw[ho];simp[cOp,gf,hal,evW]
    |[x],_=>refine oH R hE hfresh ?_;rw[ho];simp[cOp,gf,hal,evW]
    |x::y::z::r,_=>refine oH R hE hfresh ?_;rw[ho];simp[cOp,gf,hal,evW]
    |[x,y],[]=>refine oH R hE hfresh ?_;rw[ho];simp[cOp,gf,hal,htl,evW]
    |[x,y],[t]=>refine oH R hE hfresh ?_;rw[ho];simp[cOp,gf,hal,htl,evW]
    |[x,y],t::u::v::r=>refine oH R hE hfresh ?_;rw[ho];simp[cOp,gf,hal,htl,evW]
   case copy=>
    match hal:args.toList,htl:tys.toList with
    |[x,y],[t,u]=>
     have e1:args= #[x,y]:=by obtain⟨l⟩:=args;simp at hal;subst hal;rfl
     have e2:tys= #[t,u]:=by obtain⟨l⟩:=tys;simp at htl;subst htl;rfl
     subst e1 e2;have hcc:cOp P im o.op=match P.underlying t,P.underlying u with
      |some (.slice el),some (.slice _)=>if 0<il P el then .copy (il P el) (cX im x) (cX im y)else .bad
      |_,_=>.bad:=by rw[ho];rfl
     split at hcc
     ·rename_i el el2 hu hu2;split at hcc
      ·rename_i hq;exact V3 R hE hfresh ho hu hq hcc
      ·exact oH R hE hfresh (by rw[hcc];rfl)
     ·exact oH R hE hfresh (by rw[hcc];rfl)
    |[],_=>refine oH R hE hfresh ?_;rw[ho];simp[cOp,gf,hal,evW]
    |[x],_=>refine oH R hE hfresh ?_;rw[ho];simp[cOp,gf,hal,evW]
    |x::y::z::r,_=>refine oH R hE hfresh ?_;rw[ho];simp[cOp,gf,hal,evW]
    |[x,y],[]=>refine oH R hE hfresh ?_;rw[ho];simp[cOp,gf,hal,htl,evW]
    |[x,y],[t]=>refine oH R hE hfresh ?_;rw[ho];simp[cOp,gf,hal,htl,evW]
    |[x,y],t::u::v::r=>refine oH R hE hfresh ?_;rw[ho];simp[cOp,gf,hal,htl,evW]
   case clear=>
    match hal:args.toList,htl:tys.toList with
    |[x],[t]=>
     have e1:args= #[x]:=by obtain⟨l⟩:=args;simp at hal;subst hal;rfl
     have e2:tys= #[t]:=by obtain⟨l⟩:=tys;simp at htl;subst htl;rfl
     subst e1 e2;have hcc:cOp P im o.op=match P.underlying t with
      |some (.slice el)=>match pX P el with
       |some z=>.clr (il P el) (zc z) (cX im x)
       |none=>.bad
      |_=>.bad:=by rw[ho];rfl
     split at hcc
     ·rename_i el hu;split at hcc
      ·rename_i z hz;exact Rz R hE hfresh ho hu hz hcc
      ·exact oH R hE hfresh (by rw[hcc];rfl)
     ·exact oH R hE hfresh (by rw[hcc];rfl)
    |[],_=>refine oH R hE hfresh ?_;rw[ho];simp[cOp,gf,hal,evW]
    |x::y::r,_=>refine oH R hE hfresh ?_;rw[ho];simp[cOp,gf,hal,evW]
    |[x],[]=>refine oH R hE hfresh ?_;rw[ho];simp[cOp,gf,hal,htl,evW]
    |[x],t::u::r=>refine oH R hE hfresh ?_;rw[ho];simp[cOp,gf,hal,htl,evW]
   all_goals
    refine oH R hE hfresh ?_;rw[ho];simp only[cOp,gf]
    (repeat' split)<;>first|rfl|(exfalso;simp_all;done)
 |_=>refine oH R hE hfresh ?_;rw[ho];simp only[cOp];(repeat' split)<;>first|rfl|contradiction
omit R hE hfresh in
theorem U6{op:Op}{sz bs:Nat}{X1 Y1:X}(h:cOp P im op=.app sz bs X1 Y1):∃x y t u el el2 zv,op=.call ⟨.builtin .append,#[x,y],#[t,u]⟩∧P.underlying t=some (.slice el)∧P.underlying u=some (.slice el2)∧
 pX P el=some zv∧0<il P el∧(zc zv).length=il P el∧sz=il P el∧bs=Ck P el∧X1=cX im x∧Y1=cX im y:=by
 cases op with
 |call c=>
  obtain⟨cal,args,tys⟩:=c;cases cal with
  |invoke r m=>cases h
  |value f=>
   exfalso;simp only[cOp,gf]at h
   (repeat' split at h)<;>cases h
  |builtin b=>
   cases b
   case append=>
    match hal:args.toList,htl:tys.toList with
    |[x,y],[t,u]=>
     have e1:args= #[x,y]:=by obtain⟨l⟩:=args;simp at hal;subst hal;rfl
     have e2:tys= #[t,u]:=by obtain⟨l⟩:=tys;simp at htl;subst htl;rfl
     subst e1 e2;have hcc:(match P.underlying t,P.underlying u with
      |some (.slice el),some (.slice _)=>match pX P el with
       |some z=>if 0<il P el&&(zc z).length==il P el then .app (il P el) (Ck P el) (cX im x) (cX im y)else .bad
       |none=>.bad
      |_,_=>.bad)=O.app sz bs X1 Y1:=h
     split at hcc
     ·rename_i el el2 hu hu2;split at hcc
      ·rename_i z hz;split at hcc
       ·rename_i hq;simp only[ae,decide_eq_true_eq,beq_iff_eq]at hq;simp only[O.app.injEq]at hcc;exact⟨x,y,t,u,el,el2,z,rfl,hu,hu2,hz,hq.1,hq.2,hcc.1.symm,hcc.2.1.symm,hcc.2.2.1.symm,hcc.2.2.2.symm⟩
       ·cases hcc
      ·cases hcc
     ·cases hcc
    |[],_=>simp[cOp,gf,hal]at h
    |[x],_=>simp[cOp,gf,hal]at h
    |x::y::z::r,_=>simp[cOp,gf,hal]at h
    |[x,y],[]=>simp[cOp,gf,hal,htl]at h
    |[x,y],[t]=>simp[cOp,gf,hal,htl]at h
    |[x,y],t::u::v::r=>simp[cOp,gf,hal,htl]at h
   all_goals
    exfalso;simp only[cOp,gf]at h
    (repeat' split at h)<;>first|(cases h;done)|(simp_all;done)
 |makeFunc fn fi ca=>
  exfalso;cases fn<;>first|(cases h;done)|(simp only[cOp]at h;(repeat' split at h)<;>cases h)
 |_=>
  exfalso;simp only[cOp]at h
  (repeat' split at h)<;>cases h
omit R hE hfresh in
theorem zg(q:O):puO q=q∨(∃a,q=.load1 a∧puO q=.pld1 a)∨(∃n a,q=.loadn n a∧puO q=.pldn n a)∨(∃sz x a b c,q=.slice sz x a b c∧puO q=.psl sz x a b c)∨
 (∃sz x i,q=.iaddr sz x i∧puO q=.pia sz x i)∨(∃n z l,q=.bsl n z l∧puO q=.pbs n z l):=by
 cases q with
 |load1 a=>exact .inr (.inl ⟨a,rfl,rfl⟩)
 |loadn n a=>exact .inr (.inr (.inl ⟨n,a,rfl,rfl⟩))
 |slice sz x a b c=>exact .inr (.inr (.inr (.inl ⟨sz,x,a,b,c,rfl,rfl⟩)))
 |iaddr sz x i=>exact .inr (.inr (.inr (.inr (.inl ⟨sz,x,i,rfl,rfl⟩))))
 |bsl n z l=>exact .inr (.inr (.inr (.inr (.inr ⟨n,z,l,rfl,rfl⟩))))
 |_=>exact .inl rfl
omit R hE hfresh in
theorem zw(nt:Nat)(q:O):kpO nt q=q∨kpO nt q=puO q∨∃sz bs x y,q=.app sz bs x y∧kpO nt q=.appk sz bs x y:=by
 unfold kpO;split
 ·cases q with
  |bsl n z l=>
   show(if z.length=1 then O.bsl n z l else .pbs n z l)=_∨(if z.length=1 then O.bsl n z l else .pbs n z l)=_∨_;split
   ·exact .inl rfl
   ·exact .inr (.inl rfl)
  |_=>exact .inr (.inl rfl)
 ·split
  ·exact .inr (.inl rfl)
  ·split
   ·split
    ·exact .inr (.inr ⟨_,_,_,_,rfl,rfl⟩)
    ·exact .inl rfl
   ·exact .inl rfl
theorem C2{nt:Nat}{d:D}{σ':Sto}(h:evW (X.ev e) σ (kpO nt (cOp P im o.op))=some (d,σ')):wI im σ.get μ w ok okp base σ'.get d ((execOp a.eval o).run P w):=by
 rcases zw nt (cOp P im o.op)with hq|hq|⟨sz,bs,x,y,h1,h2⟩
 ·rw[hq]at h;exact EP R hE hfresh d σ' h
 ·rw[hq]at h;rcases zg (cOp P im o.op)with h2|⟨_,_,h2⟩|⟨_,_,_,h2⟩|⟨_,_,_,_,_,_,h2⟩|⟨_,_,_,_,h2⟩|⟨_,_,_,_,h2⟩
  ·rw[h2]at h;exact EP R hE hfresh d σ' h
  all_goals
   rw[h2]at h;cases h
 ·rw[h2]at h;obtain⟨x,y,t,u,el,el2,zv,k1,k2,k3,k4,k5,k6,rfl,rfl,rfl,rfl⟩:=U6 h1;exact V4 R hE hfresh k1 k2 k3 k4 k5 k6 h
end
end
end Go.Proofs.Ev
