/- What the evaluator and the residuals compute. -/
import GoSem.Step
import Derived.KernelRfl
import Derived.Calls
import Derived.Laws.Sem
import Derived.Laws.World
import Derived.Laws.Rows
import Derived.Laws.Cells
import Derived.Laws.Small
import Derived.Laws.Slices
import Derived.Laws.Append
import Derived.Laws.StructEq
import Derived.Laws.Strings
import Derived.Laws.BytesString
import Derived.Lib.ConvBytes
import Derived.Laws.Tables
import Derived.Laws.Externs
import Derived.Laws.Cover3
import Derived.Deep.LoopGhost
import Derived.Scope
set_option linter.all false
namespace Go.Proofs.Ev
def aA:=@Option.some.injEq
def aB:=@List.getD_eq_getElem?_getD
def aC:=@Nat.le_refl
def aD:=@Nat.ble_eq_true_of_le
def aE:=@List.getElem?_eq_getElem
def aF:=@if_pos
def aG:=@if_neg
def aH:=@List.getElem?_set_self
def aI:=@Prod.mk.injEq
def aJ:=@Nat.zero_le
def aK:=@Nat.mul_le_mul_right
def aL:=@Nat.mul_comm
def aM:=@List.getElem?_append_right
def aN:=@Nat.zero_add
def aP:=@List.take_of_length_le
def aQ:=@List.append_assoc
def aR:=@List.length_take
def aS:=@Nat.add_mul
def aT:=@Nat.eq_of_beq_eq_true
def aU:=@decide_eq_false
def aV:=@Nat.le_of_ble_eq_true
def aW:=@Bool.and_eq_true
def aX:=@Nat.le_trans
def aY:=@Nat.lt_or_ge
def aZ:=@List.eq_nil_of_length_eq_zero
def a7:=@List.drop_zero
def a8:=@List.length_set
def a9:=@Nat.mul_one
def aa:=@Nat.mul_assoc
def ac:=@decide_eq_true
def ae:=@Nat.mul_le_mul_left
def af:=@List.getElem?_map
def ag:=@Int.ofNat_eq_natCast
def ah:=@List.length_cons
def ai:=@List.getElem?_eq_none
def aj:=@List.length_map
def ak:=@List.getElem?_eq_some_iff
def am:=@Nat.mod_eq_of_lt
def ao:=@Nat.one_mul
def aq:=@List.length_append
def au:=@Nat.add_sub_cancel
def ax:=@List.getElem?_cons_zero
def ay:=@Nat.mul_le_mul
def az:=@List.length_pos_iff
def bC:=@List.mem_cons_of_mem
def bD:=@Nat.sub_self
def bE:=@Nat.lt_irrefl
def bF:=@List.getElem?_append_left
def bG:=@List.map_append
def bH:=@List.mem_of_mem_take
def bI:=@Nat.pow_succ
def bJ:=@Int.natAbs_natCast
def bK:=@Nat.mul_add
def bL:=@Nat.le_of_lt_succ
def bM:=@List.mem_append
def bN:=@Nat.mod_lt
def bO:=@Nat.add_zero
def bP:=@List.getElem?_cons_succ
def bQ:=@List.append_nil
def bR:=@List.length_drop
def bS:=@List.mem_of_getElem?
def bT:=@Nat.eq_zero_or_pos
def bU:=@List.set_append_right
def bV:=@List.take_length
def bW:=@List.getElem?_set_ne
def bX:=@Nat.zero_mul
def bY:=@List.take_append_drop
def bZ:=@Int.natCast_mul
def b9:=@List.mem_cons_self
def ba:=@List.mem_of_mem_drop
def bf:=@if_true
def bg:=@List.length_replicate
def bh:=@List.mem_cons
def bi:=@Nat.pow_add
def bj:=@Nat.pow_pos
def bm:=@Bool.false_eq_true
def bq:=@Nat.le_of_lt
def br:=@Nat.div_lt_iff_lt_mul
def bt:=@Int.natAbs_mul
def bu:=@Array.getElem?_eq_some_iff
def bw:=@Nat.lt_of_lt_of_le
def cA:=@List.getElem?_drop
def cC:=@List.map_cons
def cD:=@Nat.succ_pos
def cF:=@Nat.min_eq_left
def cG:=@List.eq_of_mem_replicate
def cH:=@List.all_cons
def cI:=@List.drop_eq_getElem_cons
def cJ:=@Option.some.inj
def cK:=@Nat.div_add_mod
def cL:=@Nat.le_add_right
def cM:=@Nat.pow_le_pow_right
def cN:=@List.getElem?_take
def cO:=@Nat.not_lt_zero
def cP:=@if_false
def cQ:=@Nat.add_mul_mod_self_left
def cR:=@Nat.lt_of_le_of_lt
def cU:=@List.getElem_mem
def cW:=@List.nil_append
def cY:=@List.mem_singleton
def cZ:=@List.getElem_map
def c7:=@Nat.le_of_succ_le_succ
def c9:=@List.mem_or_eq_of_mem_set
def cb:=@List.take_succ_cons
def ce:=@Nat.add_sub_cancel'
def cf:=@List.getElem?_range
def ch:=@List.replicate_succ
def cj:=@Nat.lt_trans
def ck:=@List.set_cons_zero
def cn:=@List.getElem_range
def co:=@Nat.lt_succ_self
def cp:=@List.all_eq_true
def cq:=@Nat.div_eq_of_lt
def cr:=@List.ext_getElem
def cw:=@Bool.not_true
def cx:=@Nat.add_comm
def cy:=@Nat.lt_trichotomy
def cz:=@List.map_congr_left
def dA:=@Bool.or_eq_true
def dB:=@Rat.intCast_mul
def dC:=@List.map_set
def dD:=@Array.getD_eq_getD_getElem?
def dE:=@Nat.mul_lt_mul_of_pos_right
def dF:=@Int.emod_nonneg
def dG:=@Nat.div_mul_le_self
def dH:=@List.set_eq_take_append_cons_drop
def dI:=@Nat.pow_zero
def dJ:=@Nat.gcd_comm
def dK:=@List.drop_eq_nil_of_le
def dL:=@Nat.add_assoc
def dM:=@Bool.and_self
def dN:=@List.map_take
def dO:=@Rat.intCast_zero
def dP:=@Nat.mul_right_comm
def dQ:=@Int.emod_lt_of_pos
def dR:=@Array.getElem?_setIfInBounds_ne
def dS:=@Nat.mul_mod
def dT:=@Option.map_some
def dU:=@Nat.mul_zero
def dV:=@List.length_nil
def dW:=@Nat.beq_refl
def dX:=@Nat.div_le_self
def dY:=@List.mem_map
def dZ:=@Int.mul_le_mul_of_nonneg_left
def d8:=@Array.length_toList
def d9:=@List.cons_append
def dc:=@Nat.two_pow_add_eq_or_of_lt
def de:=@List.map_replicate
def dh:=@Array.getElem?_toList
def di:=@Nat.le_div_iff_mul_le
def dj:=@List.take_add_one
def dk:=@Nat.div_lt_of_lt_mul
def dp:=@List.mem_range
def dr:=@List.take_zero
def dt:=@Int.zero_emod
def du:=@Option.map_none
def dw:=@Bool.eq_iff_iff
def dx:=@Rat.intCast_inj
def dy:=@Nat.one_pos
def dz:=@Rat.mul_one
def eB:=@Int.mul_neg
def eC:=@Int.mul_one
def eH:=@Bool.not_eq_true'
def eI:=@Nat.mul_left_comm
def eJ:=@Int.natAbs_add_le
def eK:=@Int.emod_eq_of_lt
def eL:=@Nat.succ_mul
def eM:=@Int.mul_comm
def eN:=@List.mem_append_right
def eO:=@Nat.add_sub_add_right
def zml:=@List.mem_append_left
def zmm:=@Nat.blt_eq
def zmn:=@Array.getElem?_setIfInBounds_self_of_lt
def zmo:=@Array.getElem?_append_left
def zmp:=@Int.add_mul_emod_self_left
def zmq:=@List.replicate_zero
def zmr:=@List.getElem_of_mem
def zms:=@Array.getElem?_eq_getElem
def zmt:=@Nat.mod_add_div
def zmu:=@List.range_succ
def zmv:=@List.getElem?_take_of_lt
def zmw:=@Nat.add_le_add_iff_right
def zmx:=@Nat.gcd_zero_right
def zmy:=@Nat.pos_of_ne_zero
def zmz:=@Int.sub_eq_add_neg
def zmA:=@List.length_eq_zero_iff
def zmB:=@List.getElem?_replicate
def zmC:=@Int.natCast_dvd_natCast
def zmD:=@of_decide_eq_true
def zmE:=@Int.natAbs_sub_le
def zmF:=@Nat.pow_mul
def zmG:=@Nat.div_pos
def zmH:=@Nat.mul_pos
def zmI:=@List.drop_of_length_le
def zmJ:=@List.map_drop
def zmK:=@Int.natCast_emod
def zmL:=@List.eq_nil_or_concat
def zmM:=@List.mem_iff_getElem?
def zmN:=@Nat.mul_mod_mul_right
def zmO:=@Int.mul_ediv_add_emod
def zmP:=@List.length_singleton
def zmQ:=@Nat.and_two_pow_sub_one_eq_mod
def zmR:=@Nat.le_of_eq
def zmS:=@Nat.mul_add_div
def zmT:=@Nat.le_add_left
def zmU:=@Rat.intCast_add
def zmV:=@Int.emod_two_eq
def zmW:=@List.replicate_succ'
def zmX:=@Int.mul_zero
def zmY:=@List.drop_succ_cons
def zmZ:=@List.drop_set_of_lt
def zn0:=@List.mem_map_of_mem
def zn1:=@List.dropLast_concat_getLast
def zn2:=@Int.negSucc_eq
def zn3:=@Nat.log2_lt
def zn4:=@Nat.mul_div_cancel
def zn5:=@Rat.inv_mul_cancel
def zn6:=@Nat.lt_of_mul_lt_mul_right
def zn7:=@Nat.mul_lt_mul_of_lt_of_le
def zn8:=@List.size_toArray
def zn9:=@Nat.lt_succ_of_lt
def zna:=@List.length_range
def znb:=@Nat.mod_le
def znc:=@List.getLast?_eq_getElem?
def znd:=@Nat.lt_of_mul_lt_mul_left
def zne:=@Nat.sub_zero
def znf:=@Nat.zero_mod
def zng:=@Nat.log2_self_le
def znh:=@Int.natCast_ediv
def zni:=@Int.zero_mul
def znj:=@Int.add_zero
def znk:=@Nat.le_antisymm
def znl:=@Int.natCast_add
def znm:=@Rat.num_intCast
def znn:=@Rat.den_intCast
def zno:=@Nat.le_zero
def znp:=@Nat.le_log2
def znq:=@Nat.gcd_rec
def znr:=@Nat.add_mod
def zns:=@Rat.one_mul
end Go.Proofs.Ev
namespace Go.Proofs.Ev
def eP{p:Prop}(h:p:=by omega):p:=h
def eX{p:Prop}(h:p:=by kernel_rfl):p:=h
def eV{p:Prop}(h:p:=by decide):p:=h
def fU{p:Prop}(h:p:=by simp):p:=h
inductive Tr (α:Type) where
 |nil
 |node (v:Option α) (l r:Tr α)
def Tr.get{α:Type}:Tr α->Nat->Option α
 |.nil,_=>none
 |.node v l r,n=>cond (Nat.beq n 0) v (cond (Nat.beq (Nat.mod n 2) 1) (l.get (Nat.div n 2)) (r.get (Nat.pred (Nat.div n 2))))
def Tr.setF{α:Type}:Nat->Tr α->Nat->α->Tr α
 |0,t,_,_=>t
 |k+1,.nil,n,x=>cond (Nat.beq n 0) (.node (some x) .nil .nil)
  (cond (Nat.beq (Nat.mod n 2) 1) (.node none (Tr.setF k .nil (Nat.div n 2) x) .nil) (.node none .nil (Tr.setF k .nil (Nat.pred (Nat.div n 2)) x)))
 |k+1,.node v l r,n,x=>cond (Nat.beq n 0) (.node (some x) l r)
  (cond (Nat.beq (Nat.mod n 2) 1) (.node v (Tr.setF k l (Nat.div n 2) x) r) (.node v l (Tr.setF k r (Nat.pred (Nat.div n 2)) x)))
def Tr.set{α:Type}(t:Tr α)(n:Nat)(x:α):Tr α:=Tr.setF (Nat.succ n) t n x
inductive D where
 |u
 |i (k:IntKind) (n:Int)
 |b (x:Bool)
 |s (l:List UInt8)
 |n (m:Nat)
 |np
 |nf
 |tree (cs:List D) (len:Nat) (ex:Bool)
 |own (cs:List D) (len sz:Nat)
 |sl (l off len cm sz:Nat) (ex:Bool)
 |ptr (l off:Nat)
 |fp (cs:List D)
 |agg (cs:List D)
 |tup (vs:List D)
 |fn (f:Nat) (z6c:List D)
 deriving Inhabited
def mn:Nat->Nat->List UInt8->List UInt8
 |0,_,acc=>acc
 |k+1,n,acc=>cond (Nat.beq n 0) acc (mn k (Nat.div n 256) (UInt8.ofNat (Nat.mod n 256)::acc))
def fy(n:Nat):List UInt8:=mn n n []
inductive Stt where
 |rw
 |frz
 |gone
 |apd
structure Blk where
 cs:List D
 st:Stt
def Stt.live:Stt->Bool
 |.gone=>false
 |_=>true
def Stt.wr:Stt->Bool
 |.rw=>true
 |_=>false
def Stt.fz:Stt->Stt
 |.rw=>.frz
 |s=>s
def Stt.own:Stt->Bool
 |.rw=>true
 |.apd=>true
 |_=>false
structure Sto where
 m:Tr Blk
 nx:Nat
def Sto.empty:Sto:=⟨.nil,0⟩
inductive X where
 |t (n:Nat)
 |c (d:D)
inductive O where
 |bad
 |mv (x:X)
 |pick (c a b:X)
 |alloc (zero:List D)
 |box (x:X)
 |build (zero:List D) (parts:List (Nat×Nat×X))
 |bsl (len:Nat) (zero:List D) (parts:List (Nat×Nat×X))
 |load1 (a:X)
 |loadn (n:Nat) (a:X)
 |store (n:Nat) (a x:X)
 |nilc (x:X)
 |isnil (neg:Bool) (x:X)
 |bin (op:BinOp) (x y:X)
 |binb (op:BinOp) (x y:X)
 |eqs (neg:Bool) (ks:List Nat) (x y:X)
 |neg (x:X)
 |not (x:X)
 |toInt (k:IntKind) (x:X)
 |b2s (x:X)
 |mkfn (f:Nat) (z6c:List X)
 |mksl (sz bytes:Nat) (zero:List D) (l c:X)
 |slice (sz:Nat) (x:X) (lo hi mx:Option X)
 |faddr (off:Nat) (x:X)
 |field1 (off:Nat) (x:X)
 |fieldn (off n:Nat) (x:X)
 |iaddr (sz:Nat) (x i:X)
 |index (x i:X)
 |ext (x:X) (i:Nat)
 |len (x:X)
 |lens (x:X)
 |max (x y:X)
 |min (x y:X)
 |add64 (x y c:X)
 |sub64 (x y c:X)
 |call (pure:Bool) (f:X) (args:List X)
 |app (sz bytes:Nat) (x y:X)
 |appk (sz bytes:Nat) (x y:X)
 |copy (sz:Nat) (x y:X)
 |clr (sz:Nat) (zero:List D) (x:X)
 |apart (a x:X)
structure Ins where
 dst:Option Nat
 gd:Option (Nat×Bool)
 op:O
inductive C where
 |bad
 |skip
 |reg (l:List Ins)
 |seq (a b:C)
 |cond (x:X) (a b:C)
 |block (id:Nat) (c:C)
 |loop (c:C)
 |exit (id:Nat)
 |ret
 |cut (ls:List Nat) (c:C)
def C.er:C->C
 |.bad=>.bad
 |.skip=>.skip
 |.reg l=>.reg l
 |.seq a b=>.seq a.er b.er
 |.cond x a b=>.cond x a.er b.er
 |.block id c=>.block id c.er
 |.loop c=>.loop c.er
 |.exit id=>.exit id
 |.ret=>.ret
 |.cut _ c=>c.er
structure Fun where
 np:Nat
 res:List (Nat×Option Nat)
 mode:Nat
 body:C
def Fun.er(F:Fun):Fun:=⟨F.np,F.res,F.mode,F.body.er⟩
inductive Ent where
 |body (F:Fun)
 |model (M:List D->Option D)
abbrev Env:=Tr D
def X.ev(e:Env):X->D
 |.t n=>match e.get n with|some d=>d|none=>.u
 |.c d=>d
def str:D->Option (List UInt8)
 |.s l=>some l
 |.n m=>some (fy m)
 |_=>none
def lA:D->List D
 |.agg cs=>cs
 |d=>[d]
def one:D->Bool
 |.agg _|.tup _|.u|.own .. =>false
 |_=>true
def zp(op:BinOp)(k:IntKind)(a b:Int):Option D:=
 match op with
 |.add=>some (.i k (k.wrap (a+b)))
 |.sub=>some (.i k (k.wrap (a-b)))
 |.mul=>some (.i k (k.wrap (a*b)))
 |.quo=>if b=0 then none else some (.i k (k.wrap (a.tdiv b)))
 |.rem=>if b=0 then none else some (.i k (a.tmod b))
 |.and=>some (.i k (k.wrap (BitVec.ofInt k.bits a&&&BitVec.ofInt k.bits b).toNat))
 |.or=>some (.i k (k.wrap (BitVec.ofInt k.bits a|||BitVec.ofInt k.bits b).toNat))
 |.xor=>some (.i k (k.wrap (BitVec.ofInt k.bits a^^^BitVec.ofInt k.bits b).toNat))
 |.andNot=>some (.i k (k.wrap (BitVec.ofInt k.bits a&&& ~~~BitVec.ofInt k.bits b).toNat))
 |.eql=>some (.b (a==b))
 |.neq=>some (.b (a != b))
 |.lss=>some (.b (decide (a<b)))
 |.leq=>some (.b (decide (a<=b)))
 |.gtr=>some (.b (decide (a>b)))
 |.geq=>some (.b (decide (a≥b)))
 |_=>none
def Vh(op:BinOp)(x y:List UInt8):Option D:=
 match op with
 |.eql=>some (.b (x==y))
 |.neq=>some (.b (!(x==y)))
 |.lss=>some (.b (Op.bytesLess x y))
 |.leq=>some (.b (Op.bytesLess x y||x==y))
 |.gtr=>some (.b (!(Op.bytesLess x y||x==y)))
 |.geq=>some (.b (!Op.bytesLess x y))
 |_=>none
def bin(op:BinOp)(x y:D):Option D:=
 match x,y with
 |.i k a,.i k' b=>
  match op with
  |.shl=>if b<0 then none else some (.i k (k.wrap (a*2^(Nat.min b.toNat k.bits))))
  |.shr=>if b<0 then none else some (.i k (a.fdiv (2^(Nat.min b.toNat k.bits))))
  |op=>if k=k' then zp op k a b else none
 |.n a,.n b=>
  match op with
  |.eql=>some (.b (Nat.beq a b))
  |.neq=>some (.b (!(Nat.beq a b)))
  |op=>Vh op (fy a) (fy b)
 |x,y=>
  match str x,str y with
  |some a,some b=>Vh op a b
  |_,_=>none
def eq1:Nat->D->D->Option Bool
 |0,.i k a,.i k' b=>if k=k' then some (a==b)else none
 |1,.b a,.b b=>some (a==b)
 |2,x,y=>match x,y with
  |.n a,.n b=>some (Nat.beq a b)
  |x,y=>match str x,str y with
   |some a,some b=>some (a==b)
   |_,_=>none
 |_,_,_=>none
def eqL:List Nat->List D->List D->Option Bool
 |[],[],[]=>some true
 |k::ks,x::xs,y::ys=>match eq1 k x y with
  |some true=>eqL ks xs ys
  |some false=>some false
  |none=>none
 |_,_,_=>none
def cut(off n:Nat)(cs:List D):Option (List D):=
 let r:=(cs.drop off).take n
 if r.length=n then some r else none
def lay(off:Nat)(new cs:List D):Option (List D):=
 if off+new.length<=cs.length then some (cs.take off++new++cs.drop (off+new.length))else none
def fill(ev:X->D):List (Nat×Nat×X)->List D->Option (List D)
 |[],cs=>some cs
 |(off,sz,x)::r,cs=>
  let new:=lA (ev x)
  if new.length=sz&&new.all one then
   match lay off new cs with
   |some cs=>fill ev r cs
   |none=>none
  else none
def mf(n:Nat)(zero:List D):List D:=
 match n with
 |0=>[]
 |n+1=>zero++mf n zero
def vU(ev:X->D)(x:Option X)(z7V:Nat):Option Nat:=
 match x with
 |none=>some z7V
 |some x=>match ev x with
  |.i _ n=>if 0<=n then some n.toNat else none
  |_=>none
def at_(g:Nat->Option Blk):D->Option (List D)
 |.ptr l off=>match g l with
  |some b=>if !b.st.live then none else some (b.cs.drop off)
  |none=>none
 |.fp cs=>some cs
 |_=>none
def kw(g:Nat->Option Blk)(sz:Nat):D->Option (List D)
 |.sl l off len _ z _=>match g l with
  |some b=>if !b.st.live then none else if z=sz then cut off (len*sz) b.cs else none
  |none=>none
 |.tree cs len _=>if cs.length=len*sz then some cs else none
 |_=>none
def lenOf:D->Option Nat
 |.sl _ _ len _ _ _=>some len
 |.tree _ len _=>some len
 |_=>none
def fa:List UInt8->Nat->Nat
 |[],acc=>acc
 |c::l,acc=>fa l (acc*256+c.toNat)
def Io(l:List UInt8):D:=
 match l with
 |[]=>.n 0
 |c::r=>cond (Nat.beq c.toNat 0) (.s l) (.n (fa l 0))
def y6:List D->Option (List UInt8)
 |[]=>some []
 |.i .u8 n::r=>match y6 r with
  |some l=>some (UInt8.ofNat n.toNat::l)
  |none=>none
 |_=>none
def evA(nx:Nat)(ev:X->D)(g:Nat->Option Blk):O->Option (D×List Blk)
 |.mv x=>some (ev x,[])
 |.pick c a b=>match ev c with
  |.b true=>some (ev a,[])
  |.b false=>some (ev b,[])
  |_=>none
 |.alloc zero=>some (.ptr nx 0,[⟨zero,.rw⟩])
 |.box x=>
  let cs:=lA (ev x)
  if cs.all one then some (.ptr nx 0,[⟨cs,.rw⟩])else none
 |.build zero parts=>match fill ev parts zero with
  |some cs=>some (.agg cs,[])
  |none=>none
 |.bsl len zero parts=>match fill ev parts (mf len zero)with
  |some cs=>some (.sl nx 0 len len zero.length true,[⟨cs,.rw⟩])
  |none=>none
 |.load1 a=>match at_ g (ev a)with
  |some (d::_)=>some (d,[])
  |_=>none
 |.loadn n a=>match at_ g (ev a)with
  |some cs=>match cut 0 n cs with
   |some r=>some (.agg r,[])
   |none=>none
  |none=>none
 |.nilc x=>match ev x with
  |.ptr l o=>match g l with
   |some b=>if b.st.live then some (.ptr l o,[])else none
   |none=>none
  |.fp cs=>some (.fp cs,[])
  |.fn f cs=>some (.fn f cs,[])
  |_=>none
 |.isnil neg x=>match ev x with
  |.sl l o len cm z ex=>match g l with
   |some b=>if b.st.live then some (.b neg,[])else none
   |none=>none
  |.tree cs len ex=>match cs with
   |[]=>none
   |_::_=>some (.b neg,[])
  |_=>none
 |.bin op x y=>match bin op (ev x) (ev y)with
  |some d=>some (d,[])
  |none=>none
 |.binb op x y=>match ev x,ev y with
  |.b p,.b q=>match op with
   |.eql=>some (.b (p==q),[])
   |.neq=>some (.b (!(p==q)),[])
   |_=>none
  |_,_=>none
 |.eqs neg ks x y=>match ev x,ev y with
  |.agg a,.agg b=>if a.length=ks.length&&b.length=ks.length then match eqL ks a b with
   |some r=>some (.b (if neg then !r else r),[])
   |none=>none
   else none
  |_,_=>none
 |.neg x=>match ev x with
  |.i k n=>some (.i k (k.wrap (0-n)),[])
  |_=>none
 |.not x=>match ev x with
  |.b p=>some (.b (!p),[])
  |_=>none
 |.toInt k x=>match ev x with
  |.i _ n=>some (.i k (k.wrap n),[])
  |_=>none
 |.b2s x=>match kw g 1 (ev x)with
  |some cs=>match y6 cs with
   |some l=>some (Io l,[])
   |none=>none
  |none=>none
 |.mkfn f z6c=>some (.fn f (z6c.map ev),[])
 |.mksl sz bytes zero l c=>match ev l,ev c with
  |.i .i64 l,.i .i64 c=>
   if 0<=l&&l<=c&&c<=140737488355328&&c*bytes<=140737488355328&&zero.length=sz then
    some (.sl nx 0 l.toNat c.toNat sz true,[⟨mf c.toNat zero,.rw⟩])
   else none
  |_,_=>none
 |.slice sz x lo hi mx=>match ev x with
  |.sl l off len cm z ex=>
   match vU ev mx cm,vU ev hi len,vU ev lo 0,g l with
   |some m,some h,some lw,some b=>
    if b.st.live&&m<=cm&&h<=m&&lw<=h&&z=sz then
     if lw<m then some (.sl l (off+lw*sz) (h-lw) (m-lw) sz (mx.isSome||ex),[])
     else some (.tree [] 0 (mx.isSome||ex),[])
    else none
   |_,_,_,_=>none
  |.tree cs len ex=>
   match vU ev mx len,vU ev hi len,vU ev lo 0 with
   |some m,some h,some lw=>
    if m<=len&&h<=m&&lw<=h&&cs.length=len*sz then
     some (.tree ((cs.drop (lw*sz)).take ((h-lw)*sz)) (h-lw) ((mx.isSome&&m==h)||(!mx.isSome&&ex&&h==len)),[])
    else none
   |_,_,_=>none
  |_=>none
 |.faddr off x=>match ev x with
  |.ptr l o=>match g l with
   |some b=>if b.st.live then some (.ptr l (o+off),[])else none
   |none=>none
  |.fp cs=>some (.fp (cs.drop off),[])
  |_=>none
 |.field1 off x=>match ev x with
  |.agg cs=>match cs.drop off with
   |d::_=>some (d,[])
   |[]=>none
  |_=>none
 |.fieldn off n x=>match ev x with
  |.agg cs=>match cut off n cs with
   |some r=>some (.agg r,[])
   |none=>none
  |_=>none
 |.iaddr sz x i=>match ev i with
  |.i _ n=>match ev x with
   |.sl l off len _ z _=>match g l with
    |some b=>if b.st.live&&0<=n&&n<len&&z=sz then some (.ptr l (off+n.toNat*sz),[])else none
    |none=>none
   |.tree cs len _=>if 0<=n&&n<len then match cs.drop (n.toNat*sz)with
    |[]=>none
    |d::r=>some (.fp (d::r),[])
    else none
   |_=>none
  |_=>none
 |.index x i=>match ev i,str (ev x)with
  |.i _ n,some l=>if 0<=n then match l.drop n.toNat with
   |c::_=>some (.i .u8 c.toNat,[])
   |[]=>none
   else none
  |_,_=>none
 |.ext x i=>match ev x with
  |.tup vs=>match vs.drop i with
   |d::_=>some (d,[])
   |[]=>none
  |_=>none
 |.len x=>match lenOf (ev x)with
  |some n=>some (.i .i64 n,[])
  |none=>none
 |.lens x=>match str (ev x)with
  |some l=>some (.i .i64 l.length,[])
  |none=>none
 |.max x y=>match ev x,ev y with
  |.i k a,.i k' b=>if k=k' then some (.i k (if b>a then b else a),[])else none
  |_,_=>none
 |.min x y=>match ev x,ev y with
  |.i k a,.i k' b=>if k=k' then some (.i k (if b<a then b else a),[])else none
  |_,_=>none
 |.add64 x y c=>match ev x,ev y,ev c with
  |.i .u64 a,.i .u64 b,.i .u64 c=>
   if c.toNat<=1 then some (.tup [.i .u64 (Int.ofNat ((a.toNat+b.toNat+c.toNat)%2^64)),.i .u64 (Int.ofNat ((a.toNat+b.toNat+c.toNat)/2^64))],[])else none
  |_,_,_=>none
 |.sub64 x y c=>match ev x,ev y,ev c with
  |.i .u64 a,.i .u64 b,.i .u64 c=>
   if c.toNat<=1 then some (.tup [.i .u64 (Int.ofNat ((a.toNat+2^64-b.toNat-c.toNat)%2^64)),.i .u64 (Int.ofNat (if a.toNat<b.toNat+c.toNat then 1 else 0))],[])else none
  |_,_,_=>none
 |.apart a x=>match ev a,ev x with
  |.fp _,_=>some (.u,[])
  |.ptr l _,.sl l' _ _ _ _ _=>if l=l' then none else some (.u,[])
  |.ptr l _,.ptr l' _=>if l=l' then none else some (.u,[])
  |.ptr _ _,.tree .. =>some (.u,[])
  |_,_=>none
 |_=>none
def Sto.get(σ:Sto)(l:Nat):Option Blk:=σ.m.get l
def Sto.put(σ:Sto)(l:Nat)(b:Blk):Sto:=⟨σ.m.set l b,σ.nx⟩
def Sto.adds(σ:Sto):List Blk->Sto
 |[]=>σ
 |b::bs=>Sto.adds ⟨σ.m.set σ.nx b,Nat.succ σ.nx⟩ bs
def uU(ev:X->D)(σ:Sto)(sz bytes:Nat)(x y:X):Option (D×Sto):=
 match kw σ.get sz (ev y),lenOf (ev y)with
 |some new,some n=>
  match ev x with
  |.tree cs len ex=>
   if n=0 then some (.tree cs len ex,σ)
   else if ex&&cs.length=len*sz&&(len+n)*bytes<=1099511627776&&len+n<=1099511627776 then
    some (.sl σ.nx 0 (len+n) (len+n) sz false,σ.adds [⟨cs++new,.rw⟩])
   else none
  |.sl l off len cm z ex=>match σ.get l with
   |some b=>
    if b.st.wr&&z=sz&&new.all one&&(len+n)*bytes<=1099511627776&&len+n<=1099511627776 then
     if len+n<=cm then
      match lay (off+len*sz) new b.cs with
      |some cs=>some (.sl l off (len+n) cm sz ex,σ.put l ⟨cs,.rw⟩)
      |none=>none
     else match cut off (len*sz) b.cs with
      |some old=>
       let σ':=if ex then σ else σ.put l ⟨[],.gone⟩
       some (.sl σ.nx 0 (len+n) (len+n) sz false,σ'.adds [⟨old++new,.rw⟩])
      |none=>none
    else none
   |none=>none
  |_=>none
 |_,_=>none
def evW(ev:X->D)(σ:Sto):O->Option (D×Sto)
 |.store n a x=>match ev a with
  |.ptr l off=>match σ.get l with
   |some b=>
    let new:=lA (ev x)
    if b.st.wr&&new.length=n&&new.all one then
     match lay off new b.cs with
     |some cs=>some (.u,σ.put l ⟨cs,.rw⟩)
     |none=>none
    else none
   |none=>none
  |_=>none
 |.app sz bytes x y=>uU ev σ sz bytes x y
 |.appk sz bytes x y=>match ev x with
  |.sl l off len cm z false=>match kw σ.get sz (ev y),lenOf (ev y),σ.get l with
   |some new,some n,some b=>
    if b.st.own&&z=sz&&new.all one&&(len+n)*bytes<=1099511627776&&len+n<=1099511627776&&off+len*sz=b.cs.length then
     match cut off (len*sz) b.cs with
     |some old=>some (.sl σ.nx 0 (len+n) (len+n) sz false,(σ.put l ⟨b.cs,.frz⟩).adds [⟨old++new,.apd⟩])
     |none=>none
    else none
   |_,_,_=>none
  |_=>match uU ev σ sz bytes x y with
   |some (.sl l off len cm z ex,σ')=>if Nat.beq l σ.nx then match σ'.get l with
    |some b=>if b.st.own then some (.sl l off len cm z ex,σ'.put l ⟨b.cs,.apd⟩)else none
    |none=>none
    else some (.sl l off len cm z ex,σ')
   |r=>r
 |.copy sz x y=>match ev x,lenOf (ev y)with
  |.sl l off len _ z _,some n=>match σ.get l,kw σ.get sz (ev y)with
   |some b,some src=>
    let k:=Nat.min n len
    if b.st.wr&&z=sz&&src.all one then
     match lay off (src.take (k*sz)) b.cs with
     |some cs=>some (.i .i64 k,σ.put l ⟨cs,.rw⟩)
     |none=>none
    else none
   |_,_=>none
  |_,_=>none
 |.clr sz zero x=>match ev x with
  |.sl l off len _ z _=>match σ.get l with
   |some b=>
    if b.st.wr&&zero.length=sz&&z=sz&&zero.all one then
     match lay off (mf len zero) b.cs with
     |some cs=>some (.u,σ.put l ⟨cs,.rw⟩)
     |none=>none
    else none
   |none=>none
  |.tree _ 0 _=>some (.u,σ)
  |_=>none
 |_=>none
def i8{α β:Type}(f:α->Option (β×List Nat)):List α->Option (List β×List Nat)
 |[]=>some ([],[])
 |x::xs=>match f x with
  |some (y,a)=>match i8 f xs with
   |some (ys,b)=>some (y::ys,a++b)
   |none=>none
  |none=>none
def res(g:Nat->Option Blk):Nat->D->Option (D×List Nat)
 |0,_=>none
 |k+1,d=>match d with
  |.u=>none
  |.own .. =>none
  |.sl l off len cm z ex=>match g l with
   |some b=>if !b.st.live then none else match cut off (len*z) b.cs with
    |some r=>match i8 (res g k) r with
     |some (cs,ls)=>some (.tree cs len (ex&&cm==len),l::ls)
     |none=>none
    |none=>none
   |none=>none
  |.ptr l off=>match g l with
   |some b=>if !b.st.live then none else match i8 (res g k) (b.cs.drop off)with
    |some (cs,ls)=>some (.fp cs,l::ls)
    |none=>none
   |none=>none
  |.agg cs=>match i8 (res g k) cs with
   |some (cs,ls)=>some (.agg cs,ls)
   |none=>none
  |.tup cs=>match i8 (res g k) cs with
   |some (cs,ls)=>some (.tup cs,ls)
   |none=>none
  |.fn f cs=>match i8 (res g k) cs with
   |some (cs,ls)=>some (.fn f cs,ls)
   |none=>none
  |d=>some (d,[])
def yF:Option (D×List Nat)->Option (D×List Nat×List Nat)
 |some (d,ls)=>some (d,[],ls)
 |none=>none
def vL(own:Bool)(g:Nat->Option Blk)(k:Nat)(d:D):Option (D×List Nat×List Nat):=
 match own,d with
 |true,.sl l off len _ z _=>match g l with
  |some b=>if b.st.wr then match cut off (len*z) b.cs with
   |some r=>match i8 (res g k) r with
    |some (cs,ls)=>some (.own cs len z,[l],ls)
    |none=>none
   |none=>none
   else yF (res g k d)
  |none=>none
 |_,d=>yF (res g k d)
def lf(own:Bool)(g:Nat->Option Blk)(k:Nat)(d:D):Option D:=
 match d with
 |.tup (d::ds)=>match vL own g k d,i8 (res g k) ds with
  |some (d,o,ls),some (ds,ls')=>if o.all λl=> !(ls++ls').contains l then some (.tup (d::ds))else none
  |_,_=>none
 |d=>match vL own g k d with
  |some (d,o,ls)=>if o.all λl=> !ls.contains l then some d else none
  |none=>none
def mat(nx:Nat):D->D×List Blk
 |.own cs len z=>(.sl nx 0 len len z false,[⟨cs,.rw⟩])
 |.tup (.own cs len z::ds)=>(.tup (.sl nx 0 len len z false::ds),[⟨cs,.rw⟩])
 |d=>(d,[])
def Sto.frz(σ:Sto):List Nat->Sto
 |[]=>σ
 |l::ls=>match σ.get l with
  |some b=>Sto.frz (σ.put l ⟨b.cs,b.st.fz⟩) ls
  |none=>Sto.frz σ ls
def oH:D->Bool
 |.i .. =>true
 |.b _=>true
 |.s _=>true
 |.n _=>true
 |.np=>true
 |.nf=>true
 |_=>false
def uT:D->Bool
 |.agg cs=>cs.all oH
 |d=>oH d
def wT:D->Bool
 |.agg cs=>cs.all oH
 |.tup cs=>cs.all uT
 |d=>oH d
def fin(σ:Sto)(ls:List Nat)(r:D):D×Sto:=
 match wT r with
 |true=>(r,σ)
 |false=>((mat σ.nx r).1,(σ.frz ls).adds (mat σ.nx r).2)
inductive Ex where
 |nrm
 |exit (id:Nat)
 |ret
inductive Job where
 |code (c:C) (e:Env) (σ:Sto)
 |ops (l:List Ins) (e:Env) (σ:Sto)
 |call (p:Bool) (f:D) (args:List D) (σ:Sto)
inductive Out where
 |code (x:Ex) (e:Env) (σ:Sto)
 |val (d:D) (σ:Sto)
def put(e:Env):Option Nat->D->Env
 |some t,d=>e.set t d
 |none,_=>e
def tP:Env->Nat->List D->Env
 |e,_,[]=>e
 |e,t,d::ds=>tP (e.set t d) (Nat.succ t) ds
def BA(e:Env)(σ:Sto):Nat×Option Nat->Option D
 |(t,none)=>e.get t
 |(t,some n)=>match e.get t with
  |some a=>match at_ σ.get a with
   |some cs=>match n with
    |0=>match cs with
     |d::_=>some d
     |[]=>none
    |n=>match cut 0 n cs with
     |some r=>some (.agg r)
     |none=>none
   |none=>none
  |none=>none
def wy(e:Env)(σ:Sto):List (Nat×Option Nat)->Option (List D)
 |[]=>some []
 |r::rs=>match BA e σ r,wy e σ rs with
  |some d,some ds=>some (d::ds)
  |_,_=>none
def sE(e:Env)(σ:Sto)(rs:List (Nat×Option Nat)):Option D:=
 match wy e σ rs with
 |some [d]=>some d
 |some ds=>some (.tup ds)
 |none=>none
def gJ:Nat:=60
def z5:List Nat->Env->Env
 |[],_=>.nil
 |t::ls,e=>match e.get t with
  |some d=>(z5 ls e).set t d
  |none=>z5 ls e
def gdv(e:Env):Option (Nat×Bool)->Option Bool
 |none=>some true
 |some (t,want)=>match e.get t with
  |some (.b p)=>some (p==want)
  |some (.tup _)=>some false
  |_=>none
def run(Δ:Tr Ent):Nat->Job->Option Out
 |0,_=>none
 |k+1,.code c e σ=>match c with
  |.bad=>none
  |.skip=>some (.code .nrm e σ)
  |.reg l=>run Δ k (.ops l e σ)
  |.seq a b=>match run Δ k (.code a e σ)with
   |some (.code .nrm e σ)=>run Δ k (.code b e σ)
   |r=>r
  |.cond x a b=>match x.ev e with
   |.b true=>run Δ k (.code a e σ)
   |.b false=>run Δ k (.code b e σ)
   |_=>none
  |.block id c=>match run Δ k (.code c e σ)with
   |some (.code (.exit j) e σ)=>cond (Nat.beq j id) (some (.code .nrm e σ)) (some (.code (.exit j) e σ))
   |r=>r
  |.loop c=>match run Δ k (.code c e σ)with
   |some (.code .nrm e σ)=>run Δ k (.code (.loop c) e σ)
   |r=>r
  |.exit id=>some (.code (.exit id) e σ)
  |.ret=>some (.code .ret e σ)
  |.cut ls c=>run Δ k (.code c (z5 ls e) σ)
 |_+1,.ops [] e σ=>some (.code .nrm e σ)
 |k+1,.ops (i::l) e σ=>
  match gdv e i.gd with
  |none=>none
  |some false=>run Δ k (.ops l (put e i.dst (.tup [])) σ)
  |some true=>match i.op with
   |.call p f as=>match run Δ k (.call p (f.ev e) (as.map (X.ev e)) σ)with
    |some (.val d σ)=>run Δ k (.ops l (put e i.dst d) σ)
    |_=>none
   |o=>match evA σ.nx (X.ev e) σ.get o with
    |some (d,bs)=>run Δ k (.ops l (put e i.dst d) (σ.adds bs))
    |none=>match evW (X.ev e) σ o with
     |some (d,σ)=>run Δ k (.ops l (put e i.dst d) σ)
     |none=>none
 |k+1,.call p f as σ=>match f with
  |.fn f z6c=>match Δ.get f with
   |none=>none
   |some (.model M)=>match i8 (res σ.get gJ) (as++z6c)with
    |some (as,ls)=>match M as with
     |some r=>some (.val (fin σ ls r).1 (fin σ ls r).2)
     |none=>none
    |none=>none
   |some (.body F)=>match !p&&Nat.beq F.mode 2 with
    |true=>match run Δ k (.code F.body (tP .nil 0 (as++z6c)) σ)with
     |some (.code x e σ)=>match x with
      |.exit _=>none
      |_=>match sE e σ F.res with
       |some d=>some (.val d σ)
       |none=>none
     |_=>none
    |false=>match i8 (res σ.get gJ) (as++z6c)with
     |some (as,ls)=>match run Δ k (.code F.body (tP .nil 0 as) Sto.empty)with
      |some (.code x e σ')=>match x with
       |.exit _=>none
       |_=>match sE e σ' F.res with
        |some d=>match lf (!Nat.beq F.mode 0) σ'.get gJ d with
         |some r=>some (.val (fin σ ls r).1 (fin σ ls r).2)
         |none=>none
        |none=>none
      |_=>none
     |none=>none
  |_=>none
def z3p(l:List UInt8):D:=if fy (fa l 0)=l then .n (fa l 0)else .s l
def cV1:Value->D
 |.int k n=>.i k n
 |.bool b=>.b b
 |.string s=>z3p s.data.toList
 |.pointer none=>.np
 |.nilFunc=>.nf
 |.slice none 0 0=>.tree [] 0 true
 |_=>.u
def cV:Value->D
 |.agg cs=>.agg (cs.toList.map cV1)
 |v=>cV1 v
def zc(v:Value):List D:=v.cells.toList.map cV1
section
variable (P:Program) (im:Nat->Option Nat)
def cX:Operand->X
 |.tmp t=>.t t
 |.const v=>.c (cV v)
 |.func f=>match im f with
  |some k=>.c (.fn k [])
  |none=>.c .u
 |.global _=>.c .u
def jS(t:TypeId):Nat:=match P.info? t with
 |some i=>i.size
 |none=>0
def Gg(t:TypeId):Nat:=match P.info? t with
 |some i=>i.bytes
 |none=>0
def rE(t:TypeId):Option Value:=match P.info? t with
 |some i=>i.zero
 |none=>none
def Gt(t:TypeId):Bool:=match P.underlying t with
 |some (.struct _)=>true
 |some (.array _ _)=>true
 |_=>false
def CX(f:TypeId->Option (List Nat)):Nat->List Field->Option (List Nat)
 |_,[]=>some []
 |pos,fd::fs=>if fd.name= "_" then none else if fd.offset≠pos then none else match f fd.type with
  |some l=>match CX f (pos+l.length) fs with
   |some r=>some (l++r)
   |none=>none
  |none=>none
def yO:Nat->TypeId->Option (List Nat)
 |0,_=>none
 |d+1,t=>match P.underlying t with
  |some .bool=>if jS P t=1 then some [1]else none
  |some (.int _)=>if jS P t=1 then some [0]else none
  |some .string=>if jS P t=1 then some [2]else none
  |some (.struct fs)=>if P.stoodInHeld t then none else match CX (yO d) 0 fs.toList with
   |some l=>if l.length=jS P t then some l else none
   |none=>none
  |_=>none
def Gd(places:List (Nat×Nat)):List (Nat×Operand)->Option (List (Nat×Nat×X))
 |[]=>some []
 |(i,x)::r=>match places[i]?,Gd places r with
  |some p,some l=>some ((p.1,p.2,cX im x)::l)
  |_,_=>none
def ij(c:Call):O:=
 match c.callee with
 |.invoke .. =>.bad
 |.value f=>
  match f with
  |.func F=>match P.funcs[F]?with
   |some fn=>
    if fn.body.isNone&&fn.origin== "" then
     if fn.name== "math/bits.Add64" then match c.args.toList with
      |[x,y,z]=>.add64 (cX im x) (cX im y) (cX im z)
      |_=>.bad
     else if fn.name== "math/bits.Sub64" then match c.args.toList with
      |[x,y,z]=>.sub64 (cX im x) (cX im y) (cX im z)
      |_=>.bad
     else .bad
    else if fn.body.isNone then .bad else .call false (cX im f) (c.args.toList.map (cX im))
   |none=>.bad
  |.tmp t=>.call false (.t t) (c.args.toList.map (cX im))
  |_=>.bad
 |.builtin b=>match b,c.args.toList,c.argTypes.toList with
  |.len,[x],[t]=>match P.underlying t with
   |some .string=>.lens (cX im x)
   |some (.slice _)=>.len (cX im x)
   |_=>.bad
  |.append,[x,y],[t,u]=>match P.underlying t,P.underlying u with
   |some (.slice el),some (.slice _)=>match rE P el with
    |some z=>if 0<jS P el&&(zc z).length==jS P el then .app (jS P el) (Gg P el) (cX im x) (cX im y)else .bad
    |none=>.bad
   |_,_=>.bad
  |.copy,[x,y],[t,u]=>match P.underlying t,P.underlying u with
   |some (.slice el),some (.slice _)=>if 0<jS P el then .copy (jS P el) (cX im x) (cX im y)else .bad
   |_,_=>.bad
  |.clear,[x],[t]=>match P.underlying t with
   |some (.slice el)=>match rE P el with
    |some z=>.clr (jS P el) (zc z) (cX im x)
    |none=>.bad
   |_=>.bad
  |.max,[x,y],_=>.max (cX im x) (cX im y)
  |.min,[x,y],_=>.min (cX im x) (cX im y)
  |_,_,_=>.bad
def z2J:Value->Bool
 |.slice none 0 0=>true
 |_=>false
def XF:Operand->Bool
 |.const v=>z2J v
 |_=>false
def cOp(o:Op):O:=
 match o with
 |.move x=>.mv (cX im x)
 |.assign x=>.mv (cX im x)
 |.pick c a b=>.pick (cX im c) (cX im a) (cX im b)
 |.alloc el=>match rE P el with
  |some z=>.alloc (zc z)
  |none=>.bad
 |.box _ x=>.box (cX im x)
 |.build t parts=>match P.underlying t,rE P t with
  |some (.struct fs),some z=>match fs.toList.mapM (λf=>(P.info? f.type).map λi=>(f.offset,i.size))with
   |some places=>match Gd im places parts.toList with
    |some l=>.build (zc z) l
    |none=>.bad
   |none=>.bad
  |_,_=>.bad
 |.buildSlice t len parts=>match P.underlying t with
  |some (.slice el)=>match rE P el with
   |some z=>if len*jS P el<=16777216&&(zc z).length==jS P el&&0<jS P el then
    .bsl len (zc z) (parts.toList.map λp=>(p.1*jS P el,jS P el,cX im p.2))else .bad
   |none=>.bad
  |_=>.bad
 |.load t a=>match P.underlying t with
  |none=>.bad
  |some _=>if Gt P t then .loadn (jS P t) (cX im a)else .load1 (cX im a)
 |.store t a x=>match P.info? t with
  |none=>.bad
  |some i=>.store i.size (cX im a) (cX im x)
 |.nilCheck x=>.nilc (cX im x)
 |.binOp op t x y _=>match P.underlying t with
  |some (.struct _)=>match op with
   |.eql=>if P.eqGuardType P.depth t then .bad else match yO P 8 t with
    |some ks=>.eqs false ks (cX im x) (cX im y)
    |none=>.bad
   |.neq=>if P.eqGuardType P.depth t then .bad else match yO P 8 t with
    |some ks=>.eqs true ks (cX im x) (cX im y)
    |none=>.bad
   |_=>.bad
  |some (.slice _)=>if XF y then match op with
   |.eql=>.isnil false (cX im x)
   |.neq=>.isnil true (cX im x)
   |_=>.bad
   else .bad
  |some .bool=>.binb op (cX im x) (cX im y)
  |some .string=>.bin op (cX im x) (cX im y)
  |some (.int _)=>.bin op (cX im x) (cX im y)
  |_=>.bad
 |.unOp op _ x=>match op with
  |.neg=>.neg (cX im x)
  |.not=>.not (cX im x)
  |_=>.bad
 |.convert s d x=>match P.underlying s,P.underlying d with
  |some (.int _),some (.int k)=>.toInt k (cX im x)
  |some (.slice e),some .string=>match P.underlying e with
   |some (.int .u8)=>.b2s (cX im x)
   |_=>.bad
  |_,_=>.bad
 |.makeFunc (.func f) first z6c=>match im f,first.toList with
  |some k,[]=>.mkfn k (z6c.toList.map (cX im))
  |_,_=>.bad
 |.makeSlice t l c=>match P.underlying t with
  |some (.slice el)=>match rE P el with
   |some z=>if(zc z).length==jS P el&&0<jS P el then .mksl (jS P el) (Gg P el) (zc z) (cX im l) (cX im c)else .bad
   |none=>.bad
  |_=>.bad
 |.slice t x lo hi mx=>match P.underlying t with
  |some (.slice el)=>if(hi.isNone&&mx.isSome)||jS P el=0 then .bad else .slice (jS P el) (cX im x) (lo.map (cX im)) (hi.map (cX im)) (mx.map (cX im))
  |_=>.bad
 |.fieldAddr s x f=>match P.underlying s with
  |some (.struct fs)=>match fs[f]?with
   |some f=>if jS P f.type=0 then .bad else .faddr f.offset (cX im x)
   |none=>.bad
  |_=>.bad
 |.field s x f=>match P.underlying s with
  |some (.struct fs)=>match fs[f]?with
   |some f=>match P.underlying f.type with
    |some _=>if Gt P f.type then .fieldn f.offset (jS P f.type) (cX im x)else .field1 f.offset (cX im x)
    |none=>.bad
   |none=>.bad
  |_=>.bad
 |.indexAddr t x i=>match P.underlying t with
  |some (.slice el)=>if jS P el=0 then .bad else .iaddr (jS P el) (cX im x) (cX im i)
  |_=>.bad
 |.index t x i=>match P.underlying t with
  |some .string=>.index (cX im x) (cX im i)
  |_=>.bad
 |.extract x i=>.ext (cX im x) i
 |.call c=>ij P im c
 |_=>.bad
def cGd(ops:List Oper):Option (Nat×Bool)->Option (Option (Nat×Bool))
 |none=>some none
 |some (j,want)=>match ops[j]?with
  |some q=>match q.dst with
   |some t=>some (some (t,want))
   |none=>none
  |none=>none
def Nb(nt:Nat):Option Nat->O->O
 |some t,q=>if t<nt then q else .bad
 |none,q=>q
def yp:Nat:=1000000
def kpO(nt:Nat)(q:O):O:=
 match q with
 |.app sz bytes x y=>if yp<=nt then .appk sz bytes x y else .app sz bytes x y
 |q=>q
def uR(nt:Nat)(ops:List Oper)(o:Oper):Ins:=
 match cGd ops o.guard with
 |none=>⟨o.dst,none,.bad⟩
 |some gd=>⟨o.dst,gd,Nb (nt%yp) o.dst (kpO nt (cOp P im o.op))⟩
def zo(A:List Nat):List Edge->Nat
 |[]=>0
 |e::r=>if Region.binds .any e then(2^e.on|||(A[e.on]?).getD 0)|||zo A r else zo A r
def ET(A:List Nat):List Oper->List Nat
 |[]=>[]
 |o::r=>zo A o.after.toList::ET (A++[zo A o.after.toList]) r
def vv(ops:List Oper):List Nat:=ET [] ops
def xT:X->List Nat
 |.t n=>[n]
 |.c _=>[]
def xsT(l:List X):List Nat:=l.flatMap xT
def oT:Option X->List Nat
 |some x=>xT x
 |none=>[]
def O.reads:O->List Nat
 |.bad=>[]
 |.mv x=>xT x
 |.pick c a b=>xsT [c,a,b]
 |.alloc _=>[]
 |.box x=>xT x
 |.build _ l=>xsT (l.map (·.2.2))
 |.bsl _ _ l=>xsT (l.map (·.2.2))
 |.load1 a=>xT a
 |.loadn _ a=>xT a
 |.store _ a x=>xsT [a,x]
 |.nilc x=>xT x
 |.isnil _ x=>xT x
 |.bin _ x y=>xsT [x,y]
 |.binb _ x y=>xsT [x,y]
 |.eqs _ _ x y=>xsT [x,y]
 |.neg x=>xT x
 |.not x=>xT x
 |.toInt _ x=>xT x
 |.b2s x=>xT x
 |.mkfn _ l=>xsT l
 |.mksl _ _ _ l c=>xsT [l,c]
 |.slice _ x a b c=>xT x++(oT a++(oT b++oT c))
 |.faddr _ x=>xT x
 |.field1 _ x=>xT x
 |.fieldn _ _ x=>xT x
 |.iaddr _ x i=>xsT [x,i]
 |.index x i=>xsT [x,i]
 |.ext x _=>xT x
 |.len x=>xT x
 |.lens x=>xT x
 |.max x y=>xsT [x,y]
 |.min x y=>xsT [x,y]
 |.add64 x y c=>xsT [x,y,c]
 |.sub64 x y c=>xsT [x,y,c]
 |.call _ f l=>xsT (f::l)
 |.app _ _ x y=>xsT [x,y]
 |.appk _ _ x y=>xsT [x,y]
 |.copy _ x y=>xsT [x,y]
 |.clr _ _ x=>xT x
 |.apart a x=>xsT [a,x]
def Ins.reads(i:Ins):List Nat:=i.op.reads++(match i.gd with
 |some (t,_)=>[t]
 |none=>[])
def blind:O->Bool
 |.mv _=>true
 |.pick .. =>true
 |.bin .. =>true
 |.binb .. =>true
 |.neg _=>true
 |.not _=>true
 |.toInt .. =>true
 |.field1 .. =>true
 |.fieldn .. =>true
 |.index .. =>true
 |.ext .. =>true
 |.len _=>true
 |.lens _=>true
 |.max .. =>true
 |.min .. =>true
 |.add64 .. =>true
 |.sub64 .. =>true
 |.apart .. =>true
 |_=>false
def sD:O->Bool
 |.bad=>true
 |.store .. =>true
 |.app .. =>true
 |.appk .. =>true
 |.copy .. =>true
 |.clr .. =>true
 |.call p _ _=> !p
 |_=>false
def O.adr:O->Option X
 |.load1 x=>some x
 |.loadn _ x=>some x
 |.b2s x=>some x
 |.nilc x=>some x
 |.isnil _ x=>some x
 |.slice _ x _ _ _=>some x
 |.faddr _ x=>some x
 |.iaddr _ x _=>some x
 |_=>none
def z2O:D->Bool
 |.sl .. =>true
 |.ptr .. =>true
 |_=>false
def Vz(q:O):Bool:=match q.adr with
 |some (.c d)=> !z2O d
 |_=>true
structure Pl where
 i:Ins
 bs:Nat
def lone(l:List Pl)(k:Nat)(bs:Nat):Nat->List Pl->Bool
 |_,[]=>true
 |j,q::r=>(blind q.i.op||Nat.beq j k||(if j<k then bs.testBit j else q.bs.testBit k))&&lone l k bs (j+1) r
def Kj(s:Nat)(l:List Pl):Bool:=l.all λr=>match r.i.dst with
 |some t=> !Nat.beq t s
 |none=>true
def H9:X->Option Nat
 |.t s=>some s
 |.c _=>none
def zY:O->Option Nat
 |.load1 x=>H9 x
 |.loadn _ x=>H9 x
 |_=>none
def far(l:List Pl)(o:O):Bool:=match zY o with
 |some s=>Kj s l
 |none=>false
def HN:O->Option Nat
 |.app _ _ x _=>H9 x
 |.store _ x _=>H9 x
 |_=>none
def Vv(l:List Pl)(k:Nat)(o:O):Bool:=match HN o with
 |some s=>Kj s (l.drop k)
 |none=>false
def Hy(l:List Pl)(k:Nat)(bs:Nat):Nat->List Pl->Bool
 |_,[]=>true
 |j,q::r=>(blind q.i.op||far l q.i.op||Nat.beq j k||(if j<k then bs.testBit j else q.bs.testBit k))&&Hy l k bs (j+1) r
def y7(l:List Pl)(k bs:Nat)(s:Nat):Nat->List Pl->List Ins
 |_,[]=>[]
 |j,q::r=>(match zY q.i.op with
  |some a=>if far l q.i.op&& !(if j<k then bs.testBit j else q.bs.testBit k)then[⟨none,none,.apart (.t a) (.t s)⟩]else[]
  |none=>[])++y7 l k bs s (j+1) r
def v8(l:List Pl):Nat->List Pl->List Ins
 |_,[]=>[]
 |k,x::r=>(match HN x.i.op with
  |some s=>y7 l k x.bs s 0 l
  |none=>[])++v8 l (k+1) r
def Mr(x:Ins)(j:Nat)(y:Pl):Bool:=
 y.bs.testBit j||((match x.dst with
  |some t=> !y.i.reads.contains t
  |none=>true)&&(match y.i.dst with
  |some t=> !x.reads.contains t
  |none=>true))
def VK(x y:Ins):Bool:=match x.dst,y.dst with
 |some t,some u=> !Nat.beq t u
 |_,_=>true
def CH:Nat->List Pl->Bool
 |_,[]=>true
 |j,x::r=>(r.all λy=>Mr x.i j y&&VK x.i y.i)&&CH (j+1) r
def z0F(l:List Pl)(k:Nat)(x:Pl):Pl:=match x.i.op with
 |.call _ f as=>⟨⟨x.i.dst,x.i.gd,.call (!lone l k x.bs 0 l) f as⟩,x.bs⟩
 |_=>x
def Dq(l:List Pl):Nat->List Pl->List Pl
 |_,[]=>[]
 |k,x::r=>z0F l k x::Dq l (k+1) r
def Kw(l:List Pl):Nat->List Pl->Bool
 |_,[]=>true
 |k,x::r=>(!sD x.i.op||lone l k x.bs 0 l||(Vv l k x.i.op&&Hy l k x.bs 0 l))&&Kw l (k+1) r
def places(nt:Nat)(ops:List Oper):List Pl:=
 let l:=List.zipWith (λo b=>Pl.mk (uR P im nt ops o) b) ops (vv ops)
 Dq l 0 l
def Gn:Nat->List Oper->Bool
 |_,[]=>true
 |i,o::r=>(o.after.toList.all λe=> !Region.binds .any e||e.on<i)&&Gn (i+1) r
def D6(ops:List Oper)(l:List Pl):Bool:=
 Gn 0 ops&&Kw l 0 l&&CH 0 l&&l.all λq=>Vz q.i.op
def Lu(nt:Nat)(ops:List Oper)(draw:Bool):C:=
 if draw then
  if D6 ops (places P im nt ops)then .reg ((places P im nt ops).map (·.i)++v8 (places P im nt ops) 0 (places P im nt ops))else .bad
 else .reg (ops.map (uR P im nt ops))
def jv(nt:Nat):Code->C
 |.skip=>.skip
 |.label _=>.skip
 |.region _ ops draw=>Lu P im nt ops.toList draw
 |.seq a b=>.seq (jv nt a) (jv nt b)
 |.cond x a b=>.cond (cX im x) (jv nt a) (jv nt b)
 |.block id c=>.block id (jv nt c)
 |.loop c=>.loop (jv nt c)
 |.scope c=>jv nt c
 |.exit id=>.exit id
 |.ret=>.ret
 |_=>.bad
def ES:ResultVar->Nat×Option Nat
 |.tmp t=>(t,none)
 |.cell a t=>(a,some (if Gt P t then jS P t else 0))
def CA:ResultVar->Bool
 |.tmp _=>true
 |.cell _ t=>match P.underlying t with
  |some _=> !Gt P t||jS P t != 0
  |none=>false
def ntF(mode n:Nat):Nat:=if 10<=mode then n+yp*(mode/10)else n
def Tb(mode n:Nat):ntF mode n%yp<=n:=by
 unfold ntF;split
 ·rw[cQ];exact znb _ _
 ·exact znb _ _
def zj(mode:Nat)(fn:Func):Fun:=
 ⟨fn.params.size,fn.results.toList.map (ES P),mode,match fn.body with
  |some c=>if fn.results.toList.all (CA P)then jv P im (ntF mode fn.ntmps) c else .bad
  |none=>.bad⟩
end
def Rn{n:Nat}(h:n≠0):Nat.beq n 0=false:=by
 cases n with
 |zero=>exact absurd rfl h
 |succ n=>rfl
def Tr.get_nil{α:Type}(n:Nat):(Tr.nil:Tr α).get n=none:=rfl
def Tr.get_node{α:Type}(v:Option α)(l r:Tr α)(n:Nat):
 (Tr.node v l r).get n=if n=0 then v else if n%2=1 then l.get (n/2)else r.get (n/2-1):=by
 show cond (Nat.beq n 0) v (cond (Nat.beq (Nat.mod n 2) 1) (l.get (Nat.div n 2)) (r.get (Nat.pred (Nat.div n 2))))=_;by_cases h:n=0
 ·subst h;rfl
 ·have h1:Nat.beq n 0=false:=Rn h;rw[h1,aG h];by_cases h2:n%2=1
  ·have h3:Nat.beq (Nat.mod n 2) 1=true:=by show Nat.beq (n%2) 1=true;rw[h2];rfl
   rw[h3,aF h2];rfl
  ·have h3:Nat.beq (Nat.mod n 2) 1=false:=by
    have:n%2=0:=eP;show Nat.beq (n%2) 1=false;rw[this];rfl
   rw[h3,aG h2];rfl
def Tr.get_setF{α:Type}(x:α):∀(k:Nat)(t:Tr α)(n m:Nat),n<k->(Tr.setF k t n x).get m=if m=n then some x else t.get m:=by
 intro k
 induction k with
 |zero=>intro t n m h;omega
 |succ k ih=>
  intro t n m h;have key:∀(v:Option α)(l r:Tr α),(cond (Nat.beq n 0) (Tr.node (some x) l r)
   (cond (Nat.beq (Nat.mod n 2) 1) (Tr.node v (Tr.setF k l (Nat.div n 2) x) r) (Tr.node v l (Tr.setF k r (Nat.pred (Nat.div n 2)) x)))).get m=if m=n then some x else(Tr.node v l r).get m:=by
   intro v l r;by_cases h0:n=0
   ·subst h0;show(Tr.node (some x) l r).get m=_;rw[Tr.get_node,Tr.get_node];by_cases hm:m=0<;>simp[hm]
   ·have h1:Nat.beq n 0=false:=Rn h0;rw[h1];by_cases h2:n%2=1
    ·have h3:Nat.beq (Nat.mod n 2) 1=true:=by show Nat.beq (n%2) 1=true;rw[h2];rfl
     rw[h3];show(Tr.node v (Tr.setF k l (n/2) x) r).get m=_;rw[Tr.get_node,Tr.get_node,ih _ _ _ eP];by_cases hm:m=0
     ·subst hm;rw[aF rfl,aG eP,aF rfl]
     ·rw[aG hm,aG hm];by_cases hm2:m%2=1
      ·rw[aF hm2,aF hm2];by_cases he:m=n
       ·rw[aF eP,aF he]
       ·rw[aG eP,aG he]
      ·rw[aG hm2,aG hm2,aG (by intro e;subst e;exact hm2 h2)]
    ·have h3:Nat.beq (Nat.mod n 2) 1=false:=by
      have:n%2=0:=eP;show Nat.beq (n%2) 1=false;rw[this];rfl
     rw[h3];show(Tr.node v l (Tr.setF k r (n/2-1) x)).get m=_;rw[Tr.get_node,Tr.get_node,ih _ _ _ eP];by_cases hm:m=0
     ·subst hm;rw[aF rfl,aG eP,aF rfl]
     ·rw[aG hm,aG hm];by_cases hm2:m%2=1
      ·rw[aF hm2,aF hm2,aG (by intro e;subst e;exact h2 hm2)]
      ·rw[aG hm2,aG hm2];by_cases he:m=n
       ·rw[aF eP,aF he]
       ·rw[aG eP,aG he]
  cases t with
  |nil=>
   have:=key none .nil .nil;simp only[Tr.setF];rw[this,Tr.get_node,Tr.get_nil,Tr.get_nil,Tr.get_nil];by_cases hm:m=n<;>simp[hm]
  |node v l r=>simp only[Tr.setF];exact key v l r
def Tr.get_set{α:Type}(t:Tr α)(n m:Nat)(x:α):(t.set n x).get m=if m=n then some x else t.get m:=
 Tr.get_setF x _ t n m (co n)
def Sto.get_put(σ:Sto)(l m:Nat)(b:Blk):(σ.put l b).get m=if m=l then some b else σ.get m:=Tr.get_set _ _ _ _
def Sto.nx_put(σ:Sto)(l:Nat)(b:Blk):(σ.put l b).nx=σ.nx:=rfl
def Sto.get_add1(σ:Sto)(b:Blk)(m:Nat):(σ.adds [b]).get m=if m=σ.nx then some b else σ.get m:=Tr.get_set _ _ _ _
def okN(ok:Nat->Nat->Prop)(b o n:Nat):Prop:=∀j,j<n->ok b (o+j)
def okN.mono{ok ok':Nat->Nat->Prop}(h:∀b o,ok b o->ok' b o){b o n:Nat}(k:okN ok b o n):okN ok' b o n:=λj hj=>h _ _ (k j hj)
def okN.part{ok:Nat->Nat->Prop}{b o n o' n':Nat}(k:okN ok b o n)(h1:o<=o')(h2:o'+n'<=o+n):okN ok b o' n':=λj hj=>by
 have:=k (o'-o+j) eP;rwa[show o+(o'-o+j)=o'+j by omega]at this
def okN.drop{ok:Nat->Nat->Prop}{b o:Nat}{α:Type}{cs:List α}(k:okN ok b o cs.length)(n:Nat):okN ok b (o+n) (cs.drop n).length:=λj hj=>by
 rw[bR]at hj;have:=k (n+j) eP;rwa[show o+(n+j)=o+n+j by omega]at this
def okN.take{ok:Nat->Nat->Prop}{b o:Nat}{α:Type}{cs:List α}(k:okN ok b o cs.length)(n:Nat):okN ok b o (cs.take n).length:=λj hj=>k j (by rw[aR]at hj;omega)
section
variable (im:Nat->Option Nat)
mutual
def TR(w:World)(ok:Nat->Nat->Prop):D->Value->Prop
 |.u,_=>False
 |.i k n,v=>v=.int k n
 |.b x,v=>v=.bool x
 |.s l,v=>v=.string ⟨l.toArray⟩
 |.n m,v=>v=.string ⟨(fy m).toArray⟩
 |.np,v=>v=.pointer none
 |.nf,v=>v=.nilFunc
 |.tree cs len ex,v=>∃a cap,v=.slice a len cap/\len<=cap/\(ex=true->cap=len)/\(cs≠[]->∃ad:Addr,a=some ad/\ad.spot=none/\okN ok ad.block ad.off cs.length/\TRc w ok cs ad.block ad.off)
 |.own _ _ _,_=>False
 |.sl _ _ _ _ _ _,_=>False
 |.ptr _ _,_=>False
 |.fp cs,v=>∃ad:Addr,v=.pointer (some ad)/\ad.spot=none/\okN ok ad.block ad.off cs.length/\TRc w ok cs ad.block ad.off
 |.agg cs,v=>∃arr:Array Value,v=.agg arr/\TRl w ok cs arr.toList
 |.tup cs,v=>∃arr:Array Value,v=.tuple arr/\TRl w ok cs arr.toList
 |.fn f cs,v=>∃F:Nat,∃arr:Array Value,im F=some f/\v=.func (.func F) #[] arr/\TRl w ok cs arr.toList
def TRc(w:World)(ok:Nat->Nat->Prop):List D->Nat->Nat->Prop
 |[],_,_=>True
 |d::ds,b,o=>(∃v,w.cell? ⟨b,o,none⟩=some v/\TR w ok d v)/\TRc w ok ds b (o+1)
def TRl(w:World)(ok:Nat->Nat->Prop):List D->List Value->Prop
 |[],vs=>vs=[]
 |d::ds,vs=>∃v r,vs=v::r/\TR w ok d v/\TRl w ok ds r
end
variable {im}
def oK{w w':World}{b o:Nat}(h:w'.heap[b]?=w.heap[b]?):w'.cell? ⟨b,o,none⟩=w.cell? ⟨b,o,none⟩:=by
 simp[World.cell?,h]
section
variable {w w':World} {ok ok':Nat->Nat->Prop} (h1:∀b o,ok b o->ok' b o) (h2:∀b o,ok b o->w'.cell? ⟨b,o,none⟩=w.cell? ⟨b,o,none⟩)
include h1 h2
mutual
theorem A3:∀(d:D)(v:Value),TR im w ok d v->TR im w' ok' d v
 |.u,_,h=>by simp[TR]at h
 |.i k n,v,h=>by simpa[TR]using h
 |.b x,v,h=>by simpa[TR]using h
 |.s l,v,h=>by simpa[TR]using h
 |.n m,v,h=>by simpa[TR]using h
 |.np,v,h=>by simpa[TR]using h
 |.nf,v,h=>by simpa[TR]using h
 |.tree cs len ex,v,h=>by
  simp only[TR]at h ⊢;obtain⟨a,cap,e,hl,hx,hc⟩:=h;exact⟨a,cap,e,hl,hx,λhn=>by
   obtain⟨ad,e1,e2,e3,e4⟩:=hc hn;exact⟨ad,e1,e2,e3.mono h1,Gz cs _ _ e3 e4⟩⟩
 |.own _ _ _,_,h=>by simp[TR]at h
 |.sl _ _ _ _ _ _,_,h=>by simp[TR]at h
 |.ptr _ _,_,h=>by simp[TR]at h
 |.fp cs,v,h=>by
  simp only[TR]at h ⊢;obtain⟨ad,e1,e2,e3,e4⟩:=h;exact⟨ad,e1,e2,e3.mono h1,Gz cs _ _ e3 e4⟩
 |.agg cs,v,h=>by
  simp only[TR]at h ⊢;obtain⟨arr,e,hl⟩:=h;exact⟨arr,e,Cm cs _ hl⟩
 |.tup cs,v,h=>by
  simp only[TR]at h ⊢;obtain⟨arr,e,hl⟩:=h;exact⟨arr,e,Cm cs _ hl⟩
 |.fn f cs,v,h=>by
  simp only[TR]at h ⊢;obtain⟨F,arr,hF,e,hl⟩:=h;exact⟨F,arr,hF,e,Cm cs _ hl⟩
theorem Gz:∀(cs:List D)(b o:Nat),okN ok b o cs.length->TRc im w ok cs b o->TRc im w' ok' cs b o
 |[],_,_,_,_=>by simp[TRc]
 |d::ds,b,o,hb,h=>by
  simp only[TRc]at h ⊢;obtain⟨⟨v,hv,hd⟩,hr⟩:=h;exact⟨⟨v,by rw[h2 b o (hb 0 fU)];exact hv,A3 d v hd⟩,Gz ds b (o+1) (hb.part eP (by simp only[ah];omega)) hr⟩
theorem Cm:∀(cs:List D)(vs:List Value),TRl im w ok cs vs->TRl im w' ok' cs vs
 |[],_,h=>by simpa[TRl]using h
 |d::ds,vs,h=>by
  simp only[TRl]at h ⊢;obtain⟨v,r,e,hd,hr⟩:=h;exact⟨v,r,e,A3 d v hd,Cm ds r hr⟩
end
end
def sC(w:World)(b:Nat):Nat:=match w.heap[b]?with
 |some (.cells arr _ _)=>arr.size
 |_=>0
def uY{w w':World}{b:Nat}(h:w'.heap[b]?=w.heap[b]?):sC w' b=sC w b:=by unfold sC;rw[h]
def oR{w:World}{b:Nat}{arr:Array Value}{el:TypeId}{fr:Nat×Nat}(h:w.heap[b]?=some (.cells arr el fr)):sC w b=arr.size:=by unfold sC;rw[h]
section
variable (im:Nat->Option Nat) (g:Nat->Option Blk) (μ:Nat->Nat×Nat) (w:World) (ok:Nat->Nat->Prop)
mutual
def VR:D->Value->Prop
 |.u,_=>True
 |.i k n,v=>v=.int k n
 |.b x,v=>v=.bool x
 |.s l,v=>v=.string ⟨l.toArray⟩
 |.n m,v=>v=.string ⟨(fy m).toArray⟩
 |.np,v=>v=.pointer none
 |.nf,v=>v=.nilFunc
 |.tree cs len ex,v=>TR im w ok (.tree cs len ex) v
 |.own _ _ _,_=>False
 |.sl l off len cm z ex,v=>∃b a cap,g l=some b/\v=.slice a len cap/\(b.st.live=true->len<=cm/\a=some ⟨(μ l).1,(μ l).2+off,none⟩/\cm<=cap/\(ex=true->cap=cm)/\(μ l).2+off+cap*z<=sC w (μ l).1)
 |.ptr l off,v=>∃b a,g l=some b/\v=.pointer a/\(b.st.live=true->a=some ⟨(μ l).1,(μ l).2+off,none⟩)
 |.fp cs,v=>TR im w ok (.fp cs) v
 |.agg cs,v=>∃arr:Array Value,v=.agg arr/\VRl cs arr.toList
 |.tup cs,v=>∃arr:Array Value,v=.tuple arr/\VRl cs arr.toList
 |.fn f cs,v=>∃F:Nat,∃arr:Array Value,im F=some f/\v=.func (.func F) #[] arr/\VRl cs arr.toList
def VRl:List D->List Value->Prop
 |[],vs=>vs=[]
 |d::ds,vs=>∃v r,vs=v::r/\VR d v/\VRl ds r
end
def VRc:List D->Nat->Nat->Prop
 |[],_,_=>True
 |d::ds,b,o=>(∃v,w.cell? ⟨b,o,none⟩=some v/\VR im g μ w ok d v)/\VRc ds b (o+1)
end
structure Rel (im:Nat->Option Nat) (g:Nat->Option Blk) (μ:Nat->Nat×Nat) (w:World) (ok okp:Nat->Nat->Prop) (base:Nat):Prop where
 blk:∀l b,g l=some b->b.st.live=true->(∃arr el fr,w.heap[(μ l).1]?=some (.cells arr el fr)/\∀o,o<arr.size->¬(fr.1<=o/\o<fr.2))/\VRc im g μ w ok b.cs (μ l).1 (μ l).2
 wrb:∀l b,g l=some b->b.st.wr=true->base<=(μ l).1/\∀o,¬ok (μ l).1 o
 apd:∀l b,g l=some b->b.st.own=true->base<=(μ l).1/\∀o,(μ l).2+b.cs.length<=o->¬ok (μ l).1 o
 frz:∀l b,g l=some b->b.st.live=true->b.st.wr=false->okN ok (μ l).1 (μ l).2 b.cs.length
 inj:∀l b l' b',g l=some b->g l'=some b'->b.st.own=true->b'.st.own=true->(μ l).1=(μ l').1->l=l'
 okl:∀b o,ok b o->b<w.heap.size/\(okp b o\/base<=b)
 okp:∀b o,okp b o->ok b o
 bas:base<=w.heap.size
structure Same (w w':World):Prop where
 os:w'.os=w.os
 out:w'.output=w.output
def Same.refl(w:World):Same w w:=⟨rfl,rfl⟩
def Same.trans{w w1 w2:World}(a:Same w w1)(b:Same w1 w2):Same w w2:=⟨b.os.trans a.os,b.out.trans a.out⟩
def Same.drew(w:World):Same w w.drew:=⟨rfl,rfl⟩
def Same.alloc(w:World)(c:Array Value)(t:TypeId):Same w (w.alloc (.cells c t)):=⟨rfl,rfl⟩
def Same.setCell(w:World)(a:Addr)(v:Value):Same w (w.setCell a v):=⟨rfl,rfl⟩
structure Stp (g:Nat->Option Blk) (μ:Nat->Nat×Nat) (w:World) (ok:Nat->Nat->Prop) (g':Nat->Option Blk) (μ':Nat->Nat×Nat) (w':World) (ok':Nat->Nat->Prop) (base:Nat):Prop where
 okk:∀b o,ok b o->ok' b o
 kept:∀b o,ok b o->w'.cell? ⟨b,o,none⟩=w.cell? ⟨b,o,none⟩
 low:∀b,b<base->w'.heap[b]?=w.heap[b]?
 locs:∀l b,g l=some b->∃b',g' l=some b'/\(b'.st.live=true->b.st.live=true/\μ' l=μ l/\sC w' (μ l).1=sC w (μ l).1)
 size:w.heap.size<=w'.heap.size
 sm:Same w w'
def Stp.refl(g:Nat->Option Blk)(μ:Nat->Nat×Nat)(w:World)(ok:Nat->Nat->Prop)(base:Nat):Stp g μ w ok g μ w ok base:=
 ⟨λ_ _ h=>h,λ_ _ _=>rfl,λ_ _=>rfl,λl b h=>⟨b,h,λh=>⟨h,rfl,rfl⟩⟩,aC _,.refl _⟩
def Stp.trans{g g1 g2:Nat->Option Blk}{μ μ1 μ2:Nat->Nat×Nat}{w w1 w2:World}{ok ok1 ok2:Nat->Nat->Prop}{base:Nat}
 (a:Stp g μ w ok g1 μ1 w1 ok1 base) (b:Stp g1 μ1 w1 ok1 g2 μ2 w2 ok2 base):Stp g μ w ok g2 μ2 w2 ok2 base:=
 ⟨λx o h=>b.okk x o (a.okk x o h),λx o h=>(b.kept x o (a.okk x o h)).trans (a.kept x o h),λx h=>(b.low x h).trans (a.low x h),
  λl x h=>by
   obtain⟨x1,h1,k1⟩:=a.locs l x h;obtain⟨x2,h2,k2⟩:=b.locs l x1 h1;refine⟨x2,h2,λhl=>?_⟩;obtain⟨q1,q2,q3⟩:=k2 hl;obtain⟨p1,p2,p3⟩:=k1 q1;exact⟨p1,q2.trans p2,by rw[<-p3,<-p2];exact q3⟩,
  aX a.size b.size,a.sm.trans b.sm⟩
section
variable {g g':Nat->Option Blk} {μ μ':Nat->Nat×Nat} {w w':World} {ok ok':Nat->Nat->Prop} {base:Nat} (s:Stp g μ w ok g' μ' w' ok' base)
include s
mutual
theorem pC:∀(d:D)(v:Value),VR im g μ w ok d v->VR im g' μ' w' ok' d v
 |.u,_,h=>by simp[VR]
 |.i k n,v,h=>by simpa[VR]using h
 |.b x,v,h=>by simpa[VR]using h
 |.s l,v,h=>by simpa[VR]using h
 |.n m,v,h=>by simpa[VR]using h
 |.np,v,h=>by simpa[VR]using h
 |.nf,v,h=>by simpa[VR]using h
 |.tree cs len ex,v,h=>by
  simp only[VR]at h ⊢;exact A3 s.okk s.kept _ _ h
 |.own _ _ _,_,h=>by simp[VR]at h
 |.sl l off len cm z ex,v,h=>by
  simp only[VR]at h ⊢;obtain⟨b,a,cap,hb,e,h⟩:=h;obtain⟨b',hb',k⟩:=s.locs l b hb;exact⟨b',a,cap,hb',e,λhl=>by rw[(k hl).2.1,(k hl).2.2];exact h (k hl).1⟩
 |.ptr l off,v,h=>by
  simp only[VR]at h ⊢;obtain⟨b,a,hb,e,h⟩:=h;obtain⟨b',hb',k⟩:=s.locs l b hb;exact⟨b',a,hb',e,λhl=>by rw[(k hl).2.1];exact h (k hl).1⟩
 |.fp cs,v,h=>by
  simp only[VR]at h ⊢;exact A3 s.okk s.kept _ _ h
 |.agg cs,v,h=>by
  simp only[VR]at h ⊢;obtain⟨arr,e,hl⟩:=h;exact⟨arr,e,vO cs _ hl⟩
 |.tup cs,v,h=>by
  simp only[VR]at h ⊢;obtain⟨arr,e,hl⟩:=h;exact⟨arr,e,vO cs _ hl⟩
 |.fn f cs,v,h=>by
  simp only[VR]at h ⊢;obtain⟨F,arr,hF,e,hl⟩:=h;exact⟨F,arr,hF,e,vO cs _ hl⟩
theorem vO:∀(cs:List D)(vs:List Value),VRl im g μ w ok cs vs->VRl im g' μ' w' ok' cs vs
 |[],_,h=>by simpa[VRl]using h
 |d::ds,vs,h=>by
  simp only[VRl]at h ⊢;obtain⟨v,r,e,hd,hr⟩:=h;exact⟨v,r,e,pC d v hd,vO ds r hr⟩
end
theorem nI:∀(cs:List D)(b o:Nat),(∀j,j<cs.length->w'.cell? ⟨b,o+j,none⟩=w.cell? ⟨b,o+j,none⟩)->VRc im g μ w ok cs b o->VRc im g' μ' w' ok' cs b o
 |[],_,_,_,_=>by simp[VRc]
 |d::ds,b,o,hc,h=>by
  simp only[VRc]at h ⊢;obtain⟨⟨v,hv,hd⟩,hr⟩:=h;refine⟨⟨v,by have:=hc 0 fU;simp only[bO]at this;rw[this];exact hv,pC s d v hd⟩,nI ds b (o+1) (λj hj=>?_) hr⟩;have:=hc (j+1) (by simp;omega);rwa[show o+(j+1)=o+1+j by omega]at this
end
mutual
theorem Gx{g:Nat->Option Blk}{μ:Nat->Nat×Nat}{w:World}{ok:Nat->Nat->Prop}:∀(d:D)(v:Value),TR im w ok d v->VR im g μ w ok d v
 |.u,_,h=>by simp[VR]
 |.i k n,v,h=>by simpa[VR,TR]using h
 |.b x,v,h=>by simpa[VR,TR]using h
 |.s l,v,h=>by simpa[VR,TR]using h
 |.n m,v,h=>by simpa[VR,TR]using h
 |.np,v,h=>by simpa[VR,TR]using h
 |.nf,v,h=>by simpa[VR,TR]using h
 |.tree cs len ex,v,h=>by simp only[VR];exact h
 |.own _ _ _,_,h=>by simp[TR]at h
 |.sl l off len cm z ex,v,h=>by simp[TR]at h
 |.ptr l off,v,h=>by simp[TR]at h
 |.fp cs,v,h=>by simp only[VR];exact h
 |.agg cs,v,h=>by
  simp only[VR,TR]at h ⊢;obtain⟨arr,e,hl⟩:=h;exact⟨arr,e,tB cs _ hl⟩
 |.tup cs,v,h=>by
  simp only[VR,TR]at h ⊢;obtain⟨arr,e,hl⟩:=h;exact⟨arr,e,tB cs _ hl⟩
 |.fn f cs,v,h=>by
  simp only[VR,TR]at h ⊢;obtain⟨F,arr,hF,e,hl⟩:=h;exact⟨F,arr,hF,e,tB cs _ hl⟩
theorem tB{g:Nat->Option Blk}{μ:Nat->Nat×Nat}{w:World}{ok:Nat->Nat->Prop}:∀(cs:List D)(vs:List Value),TRl im w ok cs vs->VRl im g μ w ok cs vs
 |[],_,h=>by simpa[VRl,TRl]using h
 |d::ds,vs,h=>by
  simp only[VRl,TRl]at h ⊢;obtain⟨v,r,e,hd,hr⟩:=h;exact⟨v,r,e,Gx d v hd,tB ds r hr⟩
end
end
end Go.Proofs.Ev
namespace Go.Proofs.Ev
section
variable {im:Nat->Option Nat} {g:Nat->Option Blk} {μ:Nat->Nat×Nat} {w:World} {ok okp:Nat->Nat->Prop} {base:Nat}
def AZ{cs:List D}{b o:Nat}(h:VRc im g μ w ok cs b o){j:Nat}{d:D}(hj:cs[j]?=some d):∃v,w.cell? ⟨b,o+j,none⟩=some v/\VR im g μ w ok d v:=by
 induction cs generalizing o j with
 |nil=>simp at hj
 |cons x xs ih=>
  simp only[VRc]at h;cases j with
  |zero=>simp only[ax,aA]at hj;subst hj;exact h.1
  |succ j=>
   simp only[bP]at hj;have:=ih h.2 hj;rwa[show o+1+j=o+(j+1) by omega]at this
def Ba{cs:List D}{b o:Nat}(h:∀(j:Nat)(d:D),cs[j]?=some d->∃v,w.cell? ⟨b,o+j,none⟩=some v/\VR im g μ w ok d v):VRc im g μ w ok cs b o:=by
 induction cs generalizing o with
 |nil=>simp[VRc]
 |cons x xs ih=>
  simp only[VRc];refine⟨by simpa using h 0 x rfl,ih λj d hj=>?_⟩;have:=h (j+1) d (by simpa using hj);rwa[show o+(j+1)=o+1+j by omega]at this
def Jz{cs:List D}{b o:Nat}(h:TRc im w ok cs b o){j:Nat}{d:D}(hj:cs[j]?=some d):∃v,w.cell? ⟨b,o+j,none⟩=some v/\TR im w ok d v:=by
 induction cs generalizing o j with
 |nil=>simp at hj
 |cons x xs ih=>
  simp only[TRc]at h;cases j with
  |zero=>simp only[ax,aA]at hj;subst hj;exact h.1
  |succ j=>
   simp only[bP]at hj;have:=ih h.2 hj;rwa[show o+1+j=o+(j+1) by omega]at this
def Jy{cs:List D}{b o:Nat}(h:∀(j:Nat)(d:D),cs[j]?=some d->∃v,w.cell? ⟨b,o+j,none⟩=some v/\TR im w ok d v):TRc im w ok cs b o:=by
 induction cs generalizing o with
 |nil=>simp[TRc]
 |cons x xs ih=>
  simp only[TRc];refine⟨by simpa using h 0 x rfl,ih λj d hj=>?_⟩;have:=h (j+1) d (by simpa using hj);rwa[show o+(j+1)=o+1+j by omega]at this
def B9{cs:List D}{b o:Nat}(h:TRc im w ok cs b o):VRc im g μ w ok cs b o:=
 Ba λj d hj=>by obtain⟨v,hv,ht⟩:=Jz h hj;exact⟨v,hv,Gx d v ht⟩
def ky{cs:List D}{vs:List Value}:VRl im g μ w ok cs vs↔vs.length=cs.length/\∀(j:Nat)(d:D),cs[j]?=some d->∃v,vs[j]?=some v/\VR im g μ w ok d v:=by
 induction cs generalizing vs with
 |nil=>simp[VRl]
 |cons x xs ih=>
  simp only[VRl];constructor
  ·rintro ⟨v,r,rfl,hv,hr⟩
   obtain⟨hl,hr⟩:=ih.1 hr;refine⟨by simp[hl],λj d hj=>?_⟩;cases j with
   |zero=>simp only[ax,aA]at hj;subst hj;exact⟨v,rfl,hv⟩
   |succ j=>simpa using hr j d (by simpa using hj)
  ·rintro ⟨hl,h⟩
   cases vs with
   |nil=>simp at hl
   |cons v r=>
    refine⟨v,r,rfl,?_,ih.2 ⟨by simpa using hl,λj d hj=>by simpa using h (j+1) d (by simpa using hj)⟩⟩;obtain⟨v',e,hv⟩:=h 0 x rfl;simp only[ax,aA]at e;subst e;exact hv
def QS{cs:List D}{vs:List Value}:TRl im w ok cs vs↔vs.length=cs.length/\∀(j:Nat)(d:D),cs[j]?=some d->∃v,vs[j]?=some v/\TR im w ok d v:=by
 induction cs generalizing vs with
 |nil=>simp[TRl]
 |cons x xs ih=>
  simp only[TRl];constructor
  ·rintro ⟨v,r,rfl,hv,hr⟩
   obtain⟨hl,hr⟩:=ih.1 hr;refine⟨by simp[hl],λj d hj=>?_⟩;cases j with
   |zero=>simp only[ax,aA]at hj;subst hj;exact⟨v,rfl,hv⟩
   |succ j=>simpa using hr j d (by simpa using hj)
  ·rintro ⟨hl,h⟩
   cases vs with
   |nil=>simp at hl
   |cons v r=>
    refine⟨v,r,rfl,?_,ih.2 ⟨by simpa using hl,λj d hj=>by simpa using h (j+1) d (by simpa using hj)⟩⟩;obtain⟨v',e,hv⟩:=h 0 x rfl;simp only[ax,aA]at e;subst e;exact hv
def j7{cs:List D}{vs:List Value}(h:VRl im g μ w ok cs vs):vs.length=cs.length:=(ky.1 h).1
def Cu{d:D}{v:Value}(h:VR im g μ w ok d v)(h1:(lA d).all one=true):VRl im g μ w ok (lA d) v.cells.toList:=by
 cases d with
 |agg cs=>simp only[VR]at h;obtain⟨arr,rfl,hl⟩:=h;simpa[lA,Value.cells]using hl
 |u=>simp[lA,one]at h1
 |tup=>simp[lA,one]at h1
 |own=>simp[lA,one]at h1
 |tree cs len ex=>simp only[VR,TR]at h;obtain⟨a,cap,rfl,r⟩:=h;simp only[lA,Value.cells,VRl];exact⟨_,[],rfl,by simp only[VR,TR];exact⟨a,cap,rfl,r⟩,rfl⟩
 |fp cs=>simp only[VR,TR]at h;obtain⟨a,rfl,r⟩:=h;simp only[lA,Value.cells,VRl];exact⟨_,[],rfl,by simp only[VR,TR];exact⟨a,rfl,r⟩,rfl⟩
 |fn f cs=>simp only[VR]at h;obtain⟨F,arr,hF,rfl,r⟩:=h;simp only[lA,Value.cells,VRl];exact⟨_,[],rfl,by simp only[VR];exact⟨F,arr,hF,rfl,r⟩,rfl⟩
 |sl l off len cm z ex=>
  obtain⟨b,a,cap,hb,e,r⟩:∃b a cap,g l=some b/\v=.slice a len cap/\_:=by simpa only[VR]using h
  subst e;simp only[lA,Value.cells,VRl];exact⟨_,[],rfl,h,rfl⟩
 |ptr l off=>
  obtain⟨b,a,hb,e,r⟩:∃b a,g l=some b/\v=.pointer a/\_:=by simpa only[VR]using h
  subst e;simp only[lA,Value.cells,VRl];exact⟨_,[],rfl,h,rfl⟩
 |_=>simp only[VR]at h;subst h;simp[lA,Value.cells,VRl,VR]
def T6{d:D}{v:Value}(h:VR im g μ w ok d v)(h1:one d=true):v.oneCell'=true:=by
 cases d with
 |agg cs=>simp[one]at h1
 |u=>simp[one]at h1
 |tup=>simp[one]at h1
 |own=>simp[one]at h1
 |tree cs len ex=>simp only[VR,TR]at h;obtain⟨a,cap,rfl,r⟩:=h;rfl
 |fp cs=>simp only[VR,TR]at h;obtain⟨a,rfl,r⟩:=h;rfl
 |fn f cs=>simp only[VR]at h;obtain⟨F,arr,hF,rfl,r⟩:=h;rfl
 |sl l off len cm z ex=>simp only[VR]at h;obtain⟨b,a,cap,hb,rfl,r⟩:=h;rfl
 |ptr l off=>simp only[VR]at h;obtain⟨b,a,hb,rfl,r⟩:=h;rfl
 |_=>simp only[VR]at h;subst h;rfl
def gp{s:Stt}(h:s.own=true):s.live=true:=by cases s<;>simp_all [Stt.own,Stt.live]
def l9{s:Stt}(h:s.wr=true):s.own=true:=by cases s<;>simp_all [Stt.wr,Stt.own]
def N1{s:Stt}(h:s.live=true)(h2:s.own=false):s.wr=false/\s=.frz:=by cases s<;>simp_all [Stt.own,Stt.live,Stt.wr]
def Rel.heap{w':World}(R:Rel im g μ w ok okp base)(e:w'.heap=w.heap)(sm:Same w w'):Rel im g μ w' ok okp base/\Stp g μ w ok g μ w' ok base:=by
 have st:Stp g μ w ok g μ w' ok base:=⟨λ_ _ h=>h,λ_ _ _=>oK (by rw[e]),λ_ _=>by rw[e],λl b h=>⟨b,h,λh=>⟨h,rfl,uY (by rw[e])⟩⟩,by rw[e];exact aC _,sm⟩
 refine⟨⟨λl b h hl=>?_,R.wrb,R.apd,R.frz,R.inj,λb o h=>by rw[e];exact R.okl b o h,R.okp,by rw[e];exact R.bas⟩,st⟩;obtain⟨h1,h2⟩:=R.blk l b h hl;exact⟨by rw[e];exact h1,nI st _ _ _ (λj _=>oK (by rw[e])) h2⟩
def upd{α:Type}(f:Nat->α)(l:Nat)(x:α):Nat->α:=λm=>if m=l then x else f m
def fh{α:Type}(f:Nat->α)(l:Nat)(x:α):upd f l x l=x:=aF rfl
def gF{α:Type}(f:Nat->α){l m:Nat}(x:α)(h:m≠l):upd f l x m=f m:=aG h
def Rel.blt(R:Rel im g μ w ok okp base){m:Nat}{b:Blk}(h:g m=some b)(hb:b.st.live=true):(μ m).1<w.heap.size:=by
 obtain⟨⟨arr,el,fr,hh,_⟩,_⟩:=R.blk m b h hb;exact(bu.1 hh).1
def Rel.alloc{w':World}(R:Rel im g μ w ok okp base){l:Nat}(hl:g l=none){cs:List D}{arr:Array Value}{el:TypeId}{fr:Nat×Nat}
 (old:∀b,b<w.heap.size->w'.heap[b]?=w.heap[b]?) (z6O:w'.heap[w.heap.size]?=some (.cells arr el fr)) (hsz:w'.heap.size=w.heap.size+1) (sm:Same w w') (hfr:∀o,o<arr.size->¬(fr.1<=o/\o<fr.2))
 (hc:∀(j:Nat)(d:D),cs[j]?=some d->∃v,arr[j]?=some v/\VR im g μ w ok d v):
 Rel im (upd g l (some ⟨cs,.rw⟩)) (upd μ l (w.heap.size,0)) w' ok okp base/\Stp g μ w ok (upd g l (some ⟨cs,.rw⟩)) (upd μ l (w.heap.size,0)) w' ok base:=by
 have gl:∀m b,g m=some b->m≠l:=λm b h e=>by subst e;rw[hl]at h;cases h
 have blt:∀m b,g m=some b->b.st.live=true->(μ m).1<w.heap.size:=λm b h hb=>R.blt h hb;have st:Stp g μ w ok (upd g l (some ⟨cs,.rw⟩)) (upd μ l (w.heap.size,0)) w' ok base:=
  ⟨λ_ _ h=>h,λb o hb=>oK (old b (R.okl b o hb).1),λb hb=>old b (bw hb R.bas),
   λm b h=>⟨b,by rw[gF _ _ (gl m b h)];exact h,λhl=>⟨hl,gF _ _ (gl m b h),uY (old _ (blt m b h hl))⟩⟩,eP,sm⟩
 refine⟨⟨λm b h hb=>?_,λm b h hb=>?_,λm b h hb=>?_,λm b h hb hb2=>?_,λm b m' b' h h' hb hb' he=>?_,λb o h=>⟨by have:=(R.okl b o h).1;omega,(R.okl b o h).2⟩,R.okp,by have:=R.bas;omega⟩,st⟩
 ·by_cases e:m=l
  ·subst e;rw[fh]at h ⊢;simp only[aA]at h;subst h;refine⟨⟨arr,el,fr,z6O,hfr⟩,Ba λj d hj=>?_⟩;obtain⟨v,hv,hr⟩:=hc j d hj;refine⟨v,?_,pC st d v hr⟩;show World.cell? w' ⟨w.heap.size,0+j,none⟩=some v;simp[World.cell?,z6O,hv]
  ·rw[gF _ _ e]at h ⊢;obtain⟨⟨z6K,el',fr',hh,hf⟩,hv⟩:=R.blk m b h hb;have hlt:=blt m b h hb;exact⟨⟨z6K,el',fr',by rw[old _ hlt];exact hh,hf⟩,nI st _ _ _ (λj _=>oK (old _ hlt)) hv⟩
 ·by_cases e:m=l
  ·subst e;rw[fh];exact⟨R.bas,λo ho=>by have:=(R.okl _ _ ho).1;omega⟩
  ·rw[gF _ _ e]at h ⊢;exact R.wrb m b h hb
 ·by_cases e:m=l
  ·subst e;rw[fh];exact⟨R.bas,λo _ ho=>by have:=(R.okl _ _ ho).1;omega⟩
  ·rw[gF _ _ e]at h ⊢;exact R.apd m b h hb
 ·by_cases e:m=l
  ·subst e;rw[fh]at h;simp only[aA]at h;subst h;simp[Stt.wr]at hb2
  ·rw[gF _ _ e]at h ⊢;exact R.frz m b h hb hb2
 ·by_cases e:m=l
  ·by_cases e':m'=l
   ·omega
   ·rw[gF _ _ e']at h' he;subst e;rw[fh]at he;have:=blt m' b' h' (gp hb');simp only at he;omega
  ·rw[gF _ _ e]at h he;by_cases e':m'=l
   ·subst e';rw[fh]at he;have:=blt m b h (gp hb);simp only at he;omega
   ·rw[gF _ _ e']at h' he;exact R.inj m b m' b' h h' hb hb' he
def Rel.write{w':World}(R:Rel im g μ w ok okp base){l:Nat}{b:Blk}(hl:g l=some b)(hb:b.st.wr=true){cs:List D}{arr:Array Value}{el:TypeId}{fr:Nat×Nat}
 (h1:w'.heap[(μ l).1]?=some (.cells arr el fr)) (hfr:∀o,o<arr.size->¬(fr.1<=o/\o<fr.2))
 (h2:∀k,k≠(μ l).1->w'.heap[k]?=w.heap[k]?) (hs:w'.heap.size=w.heap.size) (hrs:arr.size=sC w (μ l).1) (sm:Same w w')
 (hc:∀(j:Nat)(d:D),cs[j]?=some d->∃v,arr[(μ l).2+j]?=some v/\VR im g μ w ok d v):
 Rel im (upd g l (some ⟨cs,.rw⟩)) μ w' ok okp base/\Stp g μ w ok (upd g l (some ⟨cs,.rw⟩)) μ w' ok base:=by
 have nok:∀k o,ok k o->k≠(μ l).1:=λk o h e=>(R.wrb l b hl hb).2 o (e▸h);have zd9:b.st.live=true:=gp (l9 hb);have st:Stp g μ w ok (upd g l (some ⟨cs,.rw⟩)) μ w' ok base:=
  ⟨λ_ _ h=>h,λk o hk=>oK (h2 k (nok k o hk)),λk hk=>h2 k (by have:=(R.wrb l b hl hb).1;omega),λm b' h=>by
   by_cases e:m=l
   ·subst e;rw[hl]at h;simp only[aA]at h;subst h;exact⟨_,fh _ _ _,λ_=>⟨zd9,rfl,(oR h1).trans hrs⟩⟩
   ·exact⟨b',by rw[gF _ _ e];exact h,λhq=>⟨hq,rfl,by
     by_cases hq2:(μ m).1=(μ l).1
     ·rw[hq2];exact(oR h1).trans hrs
     ·exact uY (h2 _ hq2)⟩⟩,eP,sm⟩
 have q:∀m b1,upd g l (some ⟨cs,.rw⟩) m=some b1->b1.st.own=true->∃b0,g m=some b0/\b0.st.own=true:=λm b1 h hb1=>by
  by_cases e:m=l
  ·subst e;exact⟨b,hl,l9 hb⟩
  ·rw[gF _ _ e]at h;exact⟨b1,h,hb1⟩
 refine⟨⟨λm b' h hb'=>?_,λm b' h hb'=>?_,λm b' h hb'=>?_,λm b' h hb' hb2=>?_,λm b1 m' b2 h h' hb1 hb2 he=>?_,λk o h=>by rw[hs];exact R.okl k o h,R.okp,by rw[hs];exact R.bas⟩,st⟩
 ·by_cases e:m=l
  ·subst e;rw[fh]at h;simp only[aA]at h;subst h;refine⟨⟨arr,el,fr,h1,hfr⟩,Ba λj d hj=>?_⟩;obtain⟨v,hv,hr⟩:=hc j d hj;exact⟨v,by simp[World.cell?,h1,hv],pC st d v hr⟩
  ·rw[gF _ _ e]at h;obtain⟨⟨z6K,el',fr',hh,hf⟩,hv⟩:=R.blk m b' h hb';refine⟨?_,nI st _ _ _ (λj hj=>?_) hv⟩
   ·by_cases hne:(μ m).1=(μ l).1
    ·rw[hne];exact⟨arr,el,fr,h1,hfr⟩
    ·exact⟨z6K,el',fr',by rw[h2 _ hne];exact hh,hf⟩
   ·by_cases hw:b'.st.own=true
    ·exact oK (h2 _ λhe=>e (R.inj m b' l b h hl hw (l9 hb) he))
    ·exact st.kept _ _ (R.frz m b' h hb' (N1 hb' (by simpa using hw)).1 j hj)
 ·by_cases e:m=l
  ·subst e;exact R.wrb m b hl hb
  ·rw[gF _ _ e]at h;exact R.wrb m b' h hb'
 ·by_cases e:m=l
  ·subst e;exact⟨(R.wrb m b hl hb).1,λo _=>(R.wrb m b hl hb).2 o⟩
  ·rw[gF _ _ e]at h;exact R.apd m b' h hb'
 ·by_cases e:m=l
  ·subst e;rw[fh]at h;simp only[aA]at h;subst h;simp[Stt.wr]at hb2
  ·rw[gF _ _ e]at h;exact R.frz m b' h hb' hb2
 ·obtain⟨c1,k1,k2⟩:=q m b1 h hb1;obtain⟨c2,k3,k4⟩:=q m' b2 h' hb2;exact R.inj m c1 m' c2 k1 k3 k2 k4 he
def Rel.kill(R:Rel im g μ w ok okp base){l:Nat}{b:Blk}(hl:g l=some b){cs:List D}:
 Rel im (upd g l (some ⟨cs,.gone⟩)) μ w ok okp base/\Stp g μ w ok (upd g l (some ⟨cs,.gone⟩)) μ w ok base:=by
 have st:Stp g μ w ok (upd g l (some ⟨cs,.gone⟩)) μ w ok base:=
  ⟨λ_ _ h=>h,λ_ _ _=>rfl,λ_ _=>rfl,λm b' h=>by
   by_cases e:m=l
   ·subst e;exact⟨_,fh _ _ _,λh=>by simp[Stt.live]at h⟩
   ·exact⟨b',by rw[gF _ _ e];exact h,λh=>⟨h,rfl,rfl⟩⟩,aC _,.refl _⟩
 have q:∀m b1,upd g l (some ⟨cs,.gone⟩) m=some b1->b1.st.live=true->g m=some b1:=λm b1 h hb1=>by
  by_cases e:m=l
  ·subst e;rw[fh]at h;simp only[aA]at h;subst h;simp[Stt.live]at hb1
  ·rwa[gF _ _ e]at h
 exact⟨⟨λm b' h hb'=>⟨(R.blk m b' (q m b' h hb') hb').1,nI st _ _ _ (λ_ _=>rfl) (R.blk m b' (q m b' h hb') hb').2⟩,
  λm b' h hb'=>R.wrb m b' (q m b' h (gp (l9 hb'))) hb',λm b' h hb'=>R.apd m b' (q m b' h (gp hb')) hb',λm b' h hb' hb2=>R.frz m b' (q m b' h hb') hb' hb2,
  λm b1 m' b2 h h' hb1 hb2 he=>R.inj m b1 m' b2 (q m b1 h (gp hb1)) (q m' b2 h' (gp hb2)) hb1 hb2 he,R.okl,R.okp,R.bas⟩,st⟩
def Rel.move{w':World}(R:Rel im g μ w ok okp base){l l2:Nat}{b:Blk}(hl:g l=some b)(hb:b.st.wr=true)(hn:g l2=none){cs:List D}{arr:Array Value}{el:TypeId}{fr:Nat×Nat}{o2:Nat}
 (h1:w'.heap[(μ l).1]?=some (.cells arr el fr)) (hfr:∀o,o<arr.size->¬(fr.1<=o/\o<fr.2))
 (h2:∀k,k≠(μ l).1->w'.heap[k]?=w.heap[k]?) (hs:w'.heap.size=w.heap.size) (hrs:arr.size=sC w (μ l).1) (sm:Same w w')
 (hc:∀(j:Nat)(d:D),cs[j]?=some d->∃v,arr[o2+j]?=some v/\VR im g μ w ok d v):
 Rel im (upd (upd g l (some ⟨[],.gone⟩)) l2 (some ⟨cs,.rw⟩)) (upd μ l2 ((μ l).1,o2)) w' ok okp base/\Stp g μ w ok (upd (upd g l (some ⟨[],.gone⟩)) l2 (some ⟨cs,.rw⟩)) (upd μ l2 ((μ l).1,o2)) w' ok base:=by
 have nok:∀k o,ok k o->k≠(μ l).1:=λk o h e=>(R.wrb l b hl hb).2 o (e▸h);have hne:l≠l2:=λe=>by rw[e,hn]at hl;cases hl
 have rs:∀m,sC w' (μ m).1=sC w (μ m).1:=λm=>by
  by_cases hq2:(μ m).1=(μ l).1
  ·rw[hq2];exact(oR h1).trans hrs
  ·exact uY (h2 _ hq2)
 have st:Stp g μ w ok (upd (upd g l (some ⟨[],.gone⟩)) l2 (some ⟨cs,.rw⟩)) (upd μ l2 ((μ l).1,o2)) w' ok base:=
  ⟨λ_ _ h=>h,λk o hk=>oK (h2 k (nok k o hk)),λk hk=>h2 k (by have:=(R.wrb l b hl hb).1;omega),λm b' h=>by
   have e2:m≠l2:=λe=>by subst e;rw[hn]at h;cases h
   by_cases e:m=l
   ·subst e;exact⟨_,by rw[gF _ _ e2,fh],λh=>by simp[Stt.live]at h⟩
   ·exact⟨b',by rw[gF _ _ e2,gF _ _ e];exact h,λhq=>⟨hq,gF _ _ e2,rs m⟩⟩,eP,sm⟩
 have q:∀m b1,upd (upd g l (some ⟨[],.gone⟩)) l2 (some ⟨cs,.rw⟩) m=some b1->b1.st.live=true->(m=l2/\b1=⟨cs,.rw⟩)\/(m≠l2/\m≠l/\g m=some b1):=λm b1 h hb1=>by
  by_cases e2:m=l2
  ·subst e2;rw[fh]at h;simp only[aA]at h;exact .inl ⟨rfl,h.symm⟩
  ·rw[gF _ _ e2]at h;by_cases e:m=l
   ·subst e;rw[fh]at h;simp only[aA]at h;subst h;simp[Stt.live]at hb1
   ·rw[gF _ _ e]at h;exact .inr ⟨e2,e,h⟩
 refine⟨⟨λm b' h hb'=>?_,λm b' h hb'=>?_,λm b' h hb'=>?_,λm b' h hb' hb2=>?_,λm b1 m' b2 h h' hb1 hb2 he=>?_,λk o h=>by rw[hs];exact R.okl k o h,R.okp,by rw[hs];exact R.bas⟩,st⟩
 ·rcases q m b' h hb' with⟨rfl,rfl⟩|⟨e2,e,hg⟩
  ·rw[fh];refine⟨⟨arr,el,fr,h1,hfr⟩,Ba λj d hj=>?_⟩;obtain⟨v,hv,hr⟩:=hc j d hj;exact⟨v,by simp[World.cell?,h1,hv],pC st d v hr⟩
  ·rw[gF _ _ e2];obtain⟨⟨z6K,el',fr',hh,hf⟩,hv⟩:=R.blk m b' hg hb';refine⟨?_,nI st _ _ _ (λj hj=>?_) hv⟩
   ·by_cases hne:(μ m).1=(μ l).1
    ·rw[hne];exact⟨arr,el,fr,h1,hfr⟩
    ·exact⟨z6K,el',fr',by rw[h2 _ hne];exact hh,hf⟩
   ·by_cases hw:b'.st.own=true
    ·exact oK (h2 _ λhe=>e (R.inj m b' l b hg hl hw (l9 hb) he))
    ·exact st.kept _ _ (R.frz m b' hg hb' (N1 hb' (by simpa using hw)).1 j hj)
 ·rcases q m b' h (gp (l9 hb'))with⟨rfl,rfl⟩|⟨e2,e,hg⟩
  ·rw[fh];exact R.wrb l b hl hb
  ·rw[gF _ _ e2];exact R.wrb m b' hg hb'
 ·rcases q m b' h (gp hb')with⟨rfl,rfl⟩|⟨e2,e,hg⟩
  ·rw[fh];exact⟨(R.wrb l b hl hb).1,λo _=>(R.wrb l b hl hb).2 o⟩
  ·rw[gF _ _ e2];exact R.apd m b' hg hb'
 ·rcases q m b' h hb' with⟨rfl,rfl⟩|⟨e2,e,hg⟩
  ·simp[Stt.wr]at hb2
  ·rw[gF _ _ e2];exact R.frz m b' hg hb' hb2
 ·rcases q m b1 h (gp hb1)with⟨rfl,rfl⟩|⟨e2,e,hg⟩
  ·rcases q m' b2 h' (gp hb2)with⟨rfl,rfl⟩|⟨e2',e',hg'⟩
   ·rfl
   ·rw[fh,gF _ _ e2']at he;exact absurd (R.inj m' b2 l b hg' hl hb2 (l9 hb) he.symm) e'
  ·rcases q m' b2 h' (gp hb2)with⟨rfl,rfl⟩|⟨e2',e',hg'⟩
   ·rw[fh,gF _ _ e2]at he;exact absurd (R.inj m b1 l b hg hl hb1 (l9 hb) he) e
   ·rw[gF _ _ e2,gF _ _ e2']at he;exact R.inj m b1 m' b2 hg hg' hb1 hb2 he
def Rel.toApd(R:Rel im g μ w ok okp base){l:Nat}{b:Blk}(hl:g l=some b)(hb:b.st.own=true):
 Rel im (upd g l (some ⟨b.cs,.apd⟩)) μ w (λk o=>ok k o\/(k=(μ l).1/\o<(μ l).2+b.cs.length)) okp base/\Stp g μ w ok (upd g l (some ⟨b.cs,.apd⟩)) μ w (λk o=>ok k o\/(k=(μ l).1/\o<(μ l).2+b.cs.length)) base:=by
 have st:Stp g μ w ok (upd g l (some ⟨b.cs,.apd⟩)) μ w (λk o=>ok k o\/(k=(μ l).1/\o<(μ l).2+b.cs.length)) base:=
  ⟨λ_ _ h=>.inl h,λ_ _ _=>rfl,λ_ _=>rfl,λm b' h=>by
   by_cases e:m=l
   ·subst e;rw[hl]at h;simp only[aA]at h;subst h;exact⟨_,fh _ _ _,λ_=>⟨gp hb,rfl,rfl⟩⟩
   ·exact⟨b',by rw[gF _ _ e];exact h,λh=>⟨h,rfl,rfl⟩⟩,aC _,.refl _⟩
 have q:∀m b1,upd g l (some ⟨b.cs,.apd⟩) m=some b1->b1.st.own=true->∃b0,g m=some b0/\b0.st.own=true/\b0.cs=b1.cs:=λm b1 h hb1=>by
  by_cases e:m=l
  ·subst e;rw[fh]at h;simp only[aA]at h;subst h;exact⟨b,hl,hb,rfl⟩
  ·rw[gF _ _ e]at h;exact⟨b1,h,hb1,rfl⟩
 refine⟨⟨λm b' h hb'=>?_,λm b' h hb'=>?_,λm b' h hb'=>?_,λm b' h hb' hb2=>?_,λm b1 m' b2 h h' hb1 hb2 he=>?_,λk o h=>?_,λk o h=>.inl (R.okp k o h),R.bas⟩,st⟩
 ·by_cases e:m=l
  ·subst e;rw[fh]at h;simp only[aA]at h;subst h;exact⟨(R.blk m b hl (gp hb)).1,nI st _ _ _ (λ_ _=>rfl) (R.blk m b hl (gp hb)).2⟩
  ·rw[gF _ _ e]at h;exact⟨(R.blk m b' h hb').1,nI st _ _ _ (λ_ _=>rfl) (R.blk m b' h hb').2⟩
 ·by_cases e:m=l
  ·subst e;rw[fh]at h;simp only[aA]at h;subst h;simp[Stt.wr]at hb'
  ·rw[gF _ _ e]at h;refine⟨(R.wrb m b' h hb').1,λo ho=>?_⟩;rcases ho with ho|ho
   ·exact(R.wrb m b' h hb').2 o ho
   ·exact e (R.inj m b' l b h hl (l9 hb') hb ho.1)
 ·obtain⟨b0,h0,ho0,hc0⟩:=q m b' h hb';refine⟨(R.apd m b0 h0 ho0).1,λo hle ho=>?_⟩;rcases ho with ho|ho
  ·exact(R.apd m b0 h0 ho0).2 o (by rw[hc0];exact hle) ho
  ·have e:=R.inj m b0 l b h0 hl ho0 hb ho.1;subst e;rw[hl]at h0;simp only[aA]at h0;subst h0;rw[<-hc0]at hle;omega
 ·by_cases e:m=l
  ·subst e;rw[fh]at h;simp only[aA]at h;subst h;exact λj hj=>.inr ⟨rfl,by simp only at hj;omega⟩
  ·rw[gF _ _ e]at h;exact(R.frz m b' h hb' hb2).mono λ_ _ h=>.inl h
 ·obtain⟨c1,k1,k2,_⟩:=q m b1 h hb1;obtain⟨c2,k3,k4,_⟩:=q m' b2 h' hb2;exact R.inj m c1 m' c2 k1 k3 k2 k4 he
 ·rcases h with h|h
  ·exact R.okl k o h
  ·obtain⟨h,_⟩:=h;subst h;exact⟨R.blt hl (gp hb),.inr (R.apd l b hl hb).1⟩
def Rel.share{w':World}(R:Rel im g μ w ok okp base){l l2:Nat}{b:Blk}(hl:g l=some b)(hb:b.st=.apd)(hn:g l2=none){cs:List D}{arr zdd:Array Value}{el el0:TypeId}{fr fr0:Nat×Nat}{o2:Nat}
 (h0:w.heap[(μ l).1]?=some (.cells zdd el0 fr0)) (h1:w'.heap[(μ l).1]?=some (.cells arr el fr)) (hfr:∀o,o<arr.size->¬(fr.1<=o/\o<fr.2)) (hold:∀k,k<(μ l).2+b.cs.length->arr[k]?=zdd[k]?)
 (h2:∀k,k≠(μ l).1->w'.heap[k]?=w.heap[k]?) (hs:w'.heap.size=w.heap.size) (hrs:arr.size=sC w (μ l).1) (sm:Same w w') (z85:(μ l).2+b.cs.length<=o2+cs.length)
 (hc:∀(j:Nat)(d:D),cs[j]?=some d->∃v,arr[o2+j]?=some v/\VR im g μ w ok d v):
 Rel im (upd (upd g l (some ⟨b.cs,.frz⟩)) l2 (some ⟨cs,.apd⟩)) (upd μ l2 ((μ l).1,o2)) w' (λk o=>ok k o\/(k=(μ l).1/\o<o2+cs.length)) okp base/\
  Stp g μ w ok (upd (upd g l (some ⟨b.cs,.frz⟩)) l2 (some ⟨cs,.apd⟩)) (upd μ l2 ((μ l).1,o2)) w' (λk o=>ok k o\/(k=(μ l).1/\o<o2+cs.length)) base:=by
 have z6S:b.st.own=true:=by rw[hb];rfl
 have z6g:b.st.live=true:=by rw[hb];rfl
 have kept:∀k o,ok k o->w'.cell? ⟨k,o,none⟩=w.cell? ⟨k,o,none⟩:=λk o h=>by
  by_cases e:k=(μ l).1
  ·subst e;have hlt:o<(μ l).2+b.cs.length:=by
    rcases aY o ((μ l).2+b.cs.length)with hq|hq
    ·exact hq
    ·exact absurd h ((R.apd l b hl z6S).2 o hq)
   simp only[World.cell?,h0,h1];simpa using hold o hlt
  ·exact oK (h2 k e)
 have rs:∀m,sC w' (μ m).1=sC w (μ m).1:=λm=>by
  by_cases hq2:(μ m).1=(μ l).1
  ·rw[hq2];exact(oR h1).trans hrs
  ·exact uY (h2 _ hq2)
 have st:Stp g μ w ok (upd (upd g l (some ⟨b.cs,.frz⟩)) l2 (some ⟨cs,.apd⟩)) (upd μ l2 ((μ l).1,o2)) w' (λk o=>ok k o\/(k=(μ l).1/\o<o2+cs.length)) base:=
  ⟨λ_ _ h=>.inl h,kept,λk hk=>h2 k (by have:=(R.apd l b hl z6S).1;omega),λm b' h=>by
   have e2:m≠l2:=λe=>by subst e;rw[hn]at h;cases h
   by_cases e:m=l
   ·subst e;rw[hl]at h;simp only[aA]at h;subst h;exact⟨_,by rw[gF _ _ e2,fh],λ_=>⟨z6g,gF _ _ e2,rs m⟩⟩
   ·exact⟨b',by rw[gF _ _ e2,gF _ _ e];exact h,λhq=>⟨hq,gF _ _ e2,rs m⟩⟩,eP,sm⟩
 have ll2:l≠l2:=λe=>by rw[e,hn]at hl;cases hl
 have q:∀m b1,upd (upd g l (some ⟨b.cs,.frz⟩)) l2 (some ⟨cs,.apd⟩) m=some b1->(m=l2/\b1=⟨cs,.apd⟩)\/(m≠l2/\m=l/\b1=⟨b.cs,.frz⟩)\/(m≠l2/\m≠l/\g m=some b1):=λm b1 h=>by
  by_cases e2:m=l2
  ·subst e2;rw[fh]at h;simp only[aA]at h;exact .inl ⟨rfl,h.symm⟩
  ·rw[gF _ _ e2]at h;by_cases e:m=l
   ·subst e;rw[fh]at h;simp only[aA]at h;exact .inr (.inl ⟨e2,rfl,h.symm⟩)
   ·rw[gF _ _ e]at h;exact .inr (.inr ⟨e2,e,h⟩)
 have oth:∀m b1,m≠l->g m=some b1->b1.st.own=true->(μ m).1≠(μ l).1:=λm b1 e h ho he=>e (R.inj m b1 l b h hl ho z6S he);refine⟨⟨λm b' h hb'=>?_,λm b' h hb'=>?_,λm b' h hb'=>?_,λm b' h hb' hb2=>?_,λm b1 m' b2 h h' hb1 hb2 he=>?_,λk o h=>?_,λk o h=>.inl (R.okp k o h),by rw[hs];exact R.bas⟩,st⟩
 ·rcases q m b' h with⟨rfl,rfl⟩|⟨e2,rfl,rfl⟩|⟨e2,e,hg⟩
  ·rw[fh];refine⟨⟨arr,el,fr,h1,hfr⟩,Ba λj d hj=>?_⟩;obtain⟨v,hv,hr⟩:=hc j d hj;exact⟨v,by simp[World.cell?,h1,hv],pC st d v hr⟩
  ·rw[gF _ _ e2];refine⟨⟨arr,el,fr,h1,hfr⟩,nI st _ _ _ (λj hj=>kept _ _ ?_) (R.blk m b hl z6g).2⟩;exact R.frz m b hl z6g (by rw[hb];rfl) j hj
  ·rw[gF _ _ e2];obtain⟨⟨z6K,el',fr',hh,hf⟩,hv⟩:=R.blk m b' hg hb';refine⟨?_,nI st _ _ _ (λj hj=>?_) hv⟩
   ·by_cases hne:(μ m).1=(μ l).1
    ·rw[hne];exact⟨arr,el,fr,h1,hfr⟩
    ·exact⟨z6K,el',fr',by rw[h2 _ hne];exact hh,hf⟩
   ·by_cases hw:b'.st.own=true
    ·exact oK (h2 _ (oth m b' e hg hw))
    ·exact kept _ _ (R.frz m b' hg hb' (N1 hb' (by simpa using hw)).1 j hj)
 ·rcases q m b' h with⟨rfl,rfl⟩|⟨e2,rfl,rfl⟩|⟨e2,e,hg⟩
  ·simp[Stt.wr]at hb'
  ·simp[Stt.wr]at hb'
  ·rw[gF _ _ e2];refine⟨(R.wrb m b' hg hb').1,λo ho=>?_⟩;rcases ho with ho|ho
   ·exact(R.wrb m b' hg hb').2 o ho
   ·exact oth m b' e hg (l9 hb') ho.1
 ·rcases q m b' h with⟨rfl,rfl⟩|⟨e2,rfl,rfl⟩|⟨e2,e,hg⟩
  ·rw[fh];refine⟨(R.apd l b hl z6S).1,λo hle ho=>?_⟩;simp only at hle;rcases ho with ho|ho
   ·exact(R.apd l b hl z6S).2 o eP ho
   ·omega
  ·simp[Stt.own]at hb'
  ·rw[gF _ _ e2];refine⟨(R.apd m b' hg hb').1,λo hle ho=>?_⟩;rcases ho with ho|ho
   ·exact(R.apd m b' hg hb').2 o hle ho
   ·exact oth m b' e hg hb' ho.1
 ·rcases q m b' h with⟨rfl,rfl⟩|⟨e2,rfl,rfl⟩|⟨e2,e,hg⟩
  ·rw[fh];exact λj hj=>.inr ⟨rfl,by simp only at hj ⊢;omega⟩
  ·rw[gF _ _ e2];exact λj hj=>.inr ⟨rfl,by simp only at hj;omega⟩
  ·rw[gF _ _ e2];exact(R.frz m b' hg hb' hb2).mono λ_ _ h=>.inl h
 ·rcases q m b1 h with⟨rfl,rfl⟩|⟨e2,rfl,rfl⟩|⟨e2,e,hg⟩
  ·rcases q m' b2 h' with⟨rfl,rfl⟩|⟨e2',rfl,rfl⟩|⟨e2',e',hg'⟩
   ·rfl
   ·simp[Stt.own]at hb2
   ·rw[fh,gF _ _ e2']at he;exact absurd he.symm (oth m' b2 e' hg' hb2)
  ·simp[Stt.own]at hb1
  ·rcases q m' b2 h' with⟨rfl,rfl⟩|⟨e2',rfl,rfl⟩|⟨e2',e',hg'⟩
   ·rw[fh,gF _ _ e2]at he;exact absurd he (oth m b1 e hg hb1)
   ·simp[Stt.own]at hb2
   ·rw[gF _ _ e2,gF _ _ e2']at he;exact R.inj m b1 m' b2 hg hg' hb1 hb2 he
 ·rw[hs];rcases h with h|h
  ·exact R.okl k o h
  ·obtain⟨h,_⟩:=h;subst h;exact⟨R.blt hl z6g,.inr (R.apd l b hl z6S).1⟩
def Rel.freeze(R:Rel im g μ w ok okp base){l:Nat}{b:Blk}(hl:g l=some b)(hb:b.st.live=true):
 ∃ok',Rel im (upd g l (some ⟨b.cs,b.st.fz⟩)) μ w ok' okp base/\Stp g μ w ok (upd g l (some ⟨b.cs,b.st.fz⟩)) μ w ok' base/\okN ok' (μ l).1 (μ l).2 b.cs.length:=by
 by_cases hwr:b.st.wr=true
 ·have z6S:=l9 hwr;have hfz:b.st.fz=.frz:=by cases hh:b.st<;>simp_all [Stt.wr,Stt.fz]
  rw[hfz];have st:Stp g μ w ok (upd g l (some ⟨b.cs,.frz⟩)) μ w (λk o=>ok k o\/k=(μ l).1) base:=
   ⟨λ_ _ h=>.inl h,λ_ _ _=>rfl,λ_ _=>rfl,λm b' h=>by
    by_cases e:m=l
    ·subst e;rw[hl]at h;simp only[aA]at h;subst h;exact⟨_,fh _ _ _,λ_=>⟨hb,rfl,rfl⟩⟩
    ·exact⟨b',by rw[gF _ _ e];exact h,λh=>⟨h,rfl,rfl⟩⟩,aC _,.refl _⟩
  have q:∀m b1,upd g l (some ⟨b.cs,.frz⟩) m=some b1->b1.st.own=true->m≠l/\g m=some b1:=λm b1 h hb1=>by
   by_cases e:m=l
   ·subst e;rw[fh]at h;simp only[aA]at h;subst h;simp[Stt.own]at hb1
   ·rw[gF _ _ e]at h;exact⟨e,h⟩
  refine⟨_,⟨λm b' h hb'=>?_,λm b' h hb'=>?_,λm b' h hb'=>?_,λm b' h hb' hb2=>?_,λm b1 m' b2 h h' hb1 hb2 he=>R.inj m b1 m' b2 (q m b1 h hb1).2 (q m' b2 h' hb2).2 hb1 hb2 he,λk o h=>?_,λk o h=>.inl (R.okp k o h),R.bas⟩,st,λj hj=>.inr rfl⟩
  ·by_cases e:m=l
   ·subst e;rw[fh]at h;simp only[aA]at h;subst h;exact⟨(R.blk m b hl hb).1,nI st _ _ _ (λ_ _=>rfl) (R.blk m b hl hb).2⟩
   ·rw[gF _ _ e]at h;exact⟨(R.blk m b' h hb').1,nI st _ _ _ (λ_ _=>rfl) (R.blk m b' h hb').2⟩
  ·obtain⟨hne,hg⟩:=q m b' h (l9 hb');refine⟨(R.wrb m b' hg hb').1,λo ho=>?_⟩;rcases ho with ho|ho
   ·exact(R.wrb m b' hg hb').2 o ho
   ·exact hne (R.inj m b' l b hg hl (l9 hb') z6S ho)
  ·obtain⟨hne,hg⟩:=q m b' h hb';refine⟨(R.apd m b' hg hb').1,λo hle ho=>?_⟩;rcases ho with ho|ho
   ·exact(R.apd m b' hg hb').2 o hle ho
   ·exact hne (R.inj m b' l b hg hl hb' z6S ho)
  ·by_cases e:m=l
   ·subst e;exact λj hj=>.inr rfl
   ·rw[gF _ _ e]at h;exact(R.frz m b' h hb' hb2).mono λ_ _ h=>.inl h
  ·rcases h with h|h
   ·exact R.okl k o h
   ·subst h;exact⟨R.blt hl hb,.inr (R.apd l b hl z6S).1⟩
 ·have h2:b.st.fz=b.st:=by cases hh:b.st<;>simp_all [Stt.wr,Stt.fz]
  have z99:upd g l (some ⟨b.cs,b.st.fz⟩)=g:=by
   funext m;by_cases e:m=l
   ·subst e;rw[fh,hl,h2]
   ·rw[gF _ _ e]
  rw[z99];exact⟨ok,R,.refl ..,R.frz l b hl hb (by simpa using hwr)⟩
def Rel.freezeF(R:Rel im g μ w ok okp base){l:Nat}{b:Blk}(hl:g l=some b)(hb:b.st.own=true):
 ∃ok',Rel im (upd g l (some ⟨b.cs,.frz⟩)) μ w ok' okp base/\Stp g μ w ok (upd g l (some ⟨b.cs,.frz⟩)) μ w ok' base:=by
 obtain⟨ok',r1,r2,r3⟩:=R.freeze hl (gp hb);cases hh:b.st with
 |rw=>rw[hh]at r1 r2;exact⟨ok',r1,r2⟩
 |apd=>
  have st:Stp g μ w ok (upd g l (some ⟨b.cs,.frz⟩)) μ w ok base:=
   ⟨λ_ _ h=>h,λ_ _ _=>rfl,λ_ _=>rfl,λm b' h=>by
    by_cases e:m=l
    ·subst e;rw[hl]at h;simp only[aA]at h;subst h;exact⟨_,fh _ _ _,λ_=>⟨gp hb,rfl,rfl⟩⟩
    ·exact⟨b',by rw[gF _ _ e];exact h,λh=>⟨h,rfl,rfl⟩⟩,aC _,.refl _⟩
  have q:∀m b1,upd g l (some ⟨b.cs,.frz⟩) m=some b1->b1.st.own=true->g m=some b1:=λm b1 h hb1=>by
   by_cases e:m=l
   ·subst e;rw[fh]at h;simp only[aA]at h;subst h;simp[Stt.own]at hb1
   ·rw[gF _ _ e]at h;exact h
  refine⟨ok,⟨λm b' h hb'=>?_,λm b' h hb'=>R.wrb m b' (q m b' h (l9 hb')) hb',λm b' h hb'=>R.apd m b' (q m b' h hb') hb',λm b' h hb' hb2=>?_,λm b1 m' b2 h h' hb1 hb2 he=>R.inj m b1 m' b2 (q m b1 h hb1) (q m' b2 h' hb2) hb1 hb2 he,R.okl,R.okp,R.bas⟩,st⟩
  ·by_cases e:m=l
   ·subst e;rw[fh]at h;simp only[aA]at h;subst h;exact⟨(R.blk m b hl (gp hb)).1,nI st _ _ _ (λ_ _=>rfl) (R.blk m b hl (gp hb)).2⟩
   ·rw[gF _ _ e]at h;exact⟨(R.blk m b' h hb').1,nI st _ _ _ (λ_ _=>rfl) (R.blk m b' h hb').2⟩
  ·by_cases e:m=l
   ·subst e;rw[fh]at h;simp only[aA]at h;subst h;exact R.frz m b hl (gp hb) (by rw[hh];rfl)
   ·rw[gF _ _ e]at h;exact R.frz m b' h hb' hb2
 |_=>rw[hh]at hb;cases hb
def Ee(s:Stt):s.fz.live=s.live:=by cases s<;>rfl
def ZB(s:Stt):s.fz.fz=s.fz:=by cases s<;>rfl
end
def Addr.add_eq{ad:Addr}(h:ad.spot=none)(j:Nat):ad.add j=⟨ad.block,ad.off+j,none⟩:=by
 unfold Addr.add;obtain⟨b,o,s⟩:=ad;simp only at h;subst h;split
 ·rename_i h;subst h;rfl
 ·rfl
def Addr.eta{ad:Addr}(h:ad.spot=none):ad=⟨ad.block,ad.off,none⟩:=by
 obtain⟨b,o,s⟩:=ad;simp only at h;subst h;rfl
section
variable {P:Program} {w:World}
def qH{t:TypeId}{d:TypeDesc}(h:P.underlying t=some d):∃i,P.info? t=some i:=by
 unfold Program.underlying at h;cases hi:P.info? t with
 |none=>rw[hi]at h;cases h
 |some i=>exact⟨i,rfl⟩
def py{t:TypeId}{i:TypeInfo}(h:P.info? t=some i):jS P t=i.size:=by simp[jS,h]
def Jq{t:TypeId}{i:TypeInfo}(h:P.info? t=some i):Gg P t=i.bytes:=by simp[Gg,h]
def uX{t:TypeId}{z:Value}(h:rE P t=some z):∃i,P.info? t=some i/\i.zero=some z:=by
 unfold rE at h;cases hi:P.info? t with
 |none=>rw[hi]at h;cases h
 |some i=>rw[hi]at h;exact⟨i,rfl,h⟩
def un{t:TypeId}{i:TypeInfo}(h:P.info? t=some i):(typeInfo t).run P w=.ok i w:=by simp[typeInfo,h]
def jQ{t:TypeId}{i:TypeInfo}(h:P.info? t=some i):(sizeOf t).run P w=.ok i.size w:=by simp[sizeOf,un h]
def rG{t:TypeId}{i:TypeInfo}{z:Value}(h:P.info? t=some i)(hz:i.zero=some z):(zeroValue t).run P w=.ok z w:=by simp[zeroValue,un h,hz]
def gI{t:TypeId}{d:TypeDesc}(h:P.underlying t=some d):(underlying t).run P w=.ok d w:=by simp[underlying,h]
def oe{t:TypeId}{d:TypeDesc}(h:P.underlying t=some d):(isAgg t).run P w=.ok (Gt P t) w:=by
 simp only[isAgg,Sem.run_bind,gI h,Result.andThen_ok,Gt,h];cases d<;>rfl
end
section
variable {P:Program} {im:Nat->Option Nat} {g:Nat->Option Blk} {μ:Nat->Nat×Nat} {w:World} {ok okp:Nat->Nat->Prop} {base:Nat}
def Vc(v:Value):VR im g μ w ok (cV1 v) v:=by
 unfold cV1;split
 ·simp[VR]
 ·simp[VR]
 ·rename_i s;unfold z3p;split
  ·rename_i h;simp only[VR];rw[h]
  ·simp only[VR]
 ·simp[VR]
 ·simp[VR]
 ·simp only[VR,TR];exact⟨none,0,rfl,aC _,λ_=>rfl,λh=>absurd rfl h⟩
 ·simp[VR]
def Ks(vs:List Value):VRl im g μ w ok (vs.map cV1) vs:=by
 induction vs with
 |nil=>simp[VRl]
 |cons v vs ih=>simp only[cC,VRl];exact⟨v,vs,rfl,Vc v,ih⟩
def z3o(v:Value):VR im g μ w ok (cV v) v:=by
 unfold cV;split
 ·rename_i cs;simp only[VR];exact⟨cs,rfl,Ks _⟩
 ·exact Vc _
def MP(v:Value):VRl im g μ w ok (zc v) v.cells.toList:=Ks _
def ry(im:Nat->Option Nat)(g:Nat->Option Blk)(μ:Nat->Nat×Nat)(w:World)(ok:Nat->Nat->Prop)(e:Env)(tmps:Array Value):Prop:=
 ∀t,VR im g μ w ok (X.ev e (.t t)) (tmps.getD t undef)
variable {e:Env} {a:Act}
def ju(hE:ry im g μ w ok e a.tmps)(x:Operand):VR im g μ w ok (X.ev e (cX im x)) (a.eval x):=by
 cases x with
 |tmp t=>exact hE t
 |const v=>exact z3o v
 |global n=>simp[cX,X.ev,VR]
 |func f=>
  simp only[cX];cases hf:im f with
  |none=>simp[X.ev,VR]
  |some k=>simp only[X.ev,VR];exact⟨f,#[],hf,rfl,by simp[VRl]⟩
def QD(hE:ry im g μ w ok e a.tmps)(xs:List Operand):VRl im g μ w ok ((xs.map (cX im)).map (X.ev e)) (xs.map a.eval):=by
 induction xs with
 |nil=>simp[VRl]
 |cons x xs ih=>simp only[cC,VRl];exact⟨_,_,rfl,ju hE x,ih⟩
def Gw{cs:List D}{b o:Nat}(h:VRc im g μ w ok cs b o)(n:Nat):VRc im g μ w ok (cs.drop n) b (o+n):=
 Ba λj d hj=>by
  rw[cA]at hj;obtain⟨v,hv,hr⟩:=AZ h hj;exact⟨v,by rw[<-hv];congr 2;omega,hr⟩
def WE{cs:List D}{b o:Nat}(h:VRc im g μ w ok cs b o)(n:Nat):VRc im g μ w ok (cs.take n) b o:=
 Ba λj d hj=>AZ h (by rw[cN]at hj;split at hj<;>simp_all)
def HA{cs:List D}{b o:Nat}(h:TRc im w ok cs b o)(n:Nat):TRc im w ok (cs.drop n) b (o+n):=
 Jy λj d hj=>by
  rw[cA]at hj;obtain⟨v,hv,hr⟩:=Jz h hj;exact⟨v,by rw[<-hv];congr 2;omega,hr⟩
def WI{cs:List D}{b o:Nat}(h:TRc im w ok cs b o)(n:Nat):TRc im w ok (cs.take n) b o:=
 Jy λj d hj=>Jz h (by rw[cN]at hj;split at hj<;>simp_all)
def yY{off n:Nat}{cs r:List D}(h:cut off n cs=some r):r=(cs.drop off).take n/\r.length=n:=by
 unfold cut at h;simp only at h;split at h
 ·rename_i hl;simp only[aA]at h;subst h;exact⟨rfl,hl⟩
 ·cases h
def yZ{off n:Nat}{cs r:List D}(h:cut off n cs=some r){b o:Nat}(hv:VRc im g μ w ok cs b o):VRc im g μ w ok r b (o+off):=by
 obtain⟨rfl,_⟩:=yY h;exact WE (Gw hv off) n
def Vq(R:Rel im g μ w ok okp base){d:D}{v:Value}{cs:List D}(h:at_ g d=some cs)(hv:VR im g μ w ok d v):
 ∃ad:Addr,v=.pointer (some ad)/\ad.spot=none/\VRc im g μ w ok cs ad.block ad.off:=by
 cases d<;>simp only[at_]at h<;>try cases h
 case ptr l off=>
  cases hb:g l with
  |none=>rw[hb]at h;cases h
  |some b=>
   rw[hb]at h;simp only at h;split at h
   ·cases h
   ·rename_i hl;simp only[aA]at h;subst h;simp only[VR]at hv;obtain⟨b',a',hb',rfl,hv⟩:=hv;rw[hb]at hb';simp only[aA]at hb';subst hb';have hl':b.st.live=true:=by simpa using hl
    exact⟨_,by rw[hv hl'],rfl,Gw (R.blk l b hb hl').2 off⟩
 case fp=>
  simp only[VR,TR]at hv;obtain⟨ad,rfl,h1,h2,h3⟩:=hv;exact⟨ad,rfl,h1,B9 h3⟩
def Ga(R:Rel im g μ w ok okp base){d:D}{v:Value}{cs:List D}{sz:Nat}(h:kw g sz d=some cs)(hv:VR im g μ w ok d v):
 ∃ad len cap,v=.slice ad len cap/\lenOf d=some len/\cs.length=len*sz/\len<=cap/\(cs≠[]->∃x:Addr,ad=some x/\x.spot=none/\VRc im g μ w ok cs x.block x.off):=by
 cases d<;>simp only[kw]at h<;>try cases h
 case sl l off len cm z ex=>
  cases hb:g l with
  |none=>rw[hb]at h;cases h
  |some b=>
   rw[hb]at h;simp only at h;split at h
   ·cases h
   ·rename_i hl;split at h
    ·simp only[VR]at hv;obtain⟨b',a',cap,hb',rfl,hv⟩:=hv;rw[hb]at hb';simp only[aA]at hb';subst hb';have hl':b.st.live=true:=by simpa using hl
     obtain⟨h1,h2,h3,h4,h5⟩:=hv hl';exact⟨_,_,_,rfl,rfl,(yY h).2,eP,λ_=>⟨_,h2,rfl,yZ h (R.blk l b hb hl').2⟩⟩
    ·cases h
 case tree cs' len ex=>
  split at h
  ·rename_i hl;simp only[aA]at h;subst h;simp only[VR,TR]at hv;obtain⟨a',cap,rfl,h1,h2,h3⟩:=hv;exact⟨_,_,_,rfl,rfl,hl,h1,λhn=>by
    obtain⟨ad,e1,e2,e3,e4⟩:=h3 hn;exact⟨ad,e1,e2,B9 e4⟩⟩
  ·cases h
def tp(g:Nat->Option Blk):Nat->List Blk->Nat->Option Blk
 |_,[]=>g
 |nx,b::bs=>tp (upd g nx (some b)) (nx+1) bs
def Okv(im:Nat->Option Nat)(g:Nat->Option Blk)(μ:Nat->Nat×Nat)(w:World)(ok okp:Nat->Nat->Prop)(base:Nat)(g':Nat->Option Blk)(d:D)(v:Value)(w':World):Prop:=
 ∃μ' ok',Rel im g' μ' w' ok' okp base/\Stp g μ w ok g' μ' w' ok' base/\VR im g' μ' w' ok' d v
def zF(im:Nat->Option Nat)(g:Nat->Option Blk)(μ:Nat->Nat×Nat)(w:World)(ok okp:Nat->Nat->Prop)(base:Nat)(g':Nat->Option Blk)(d:D)(r:Result Next):Prop:=
 ∃v w',(r=.ok (.value v) w'\/(r=.ok .skip w'/\v=undef))/\Okv im g μ w ok okp base g' d v w'
def Okv.same(R:Rel im g μ w ok okp base){d:D}{v:Value}(h:VR im g μ w ok d v):Okv im g μ w ok okp base g d v w:=⟨μ,ok,R,.refl ..,h⟩
def zF.of_v{s:Sem Value}{d:D}{v:Value}{w':World}{g':Nat->Option Blk}(h:s.run P w=.ok v w')(k:Okv im g μ w ok okp base g' d v w'):
 zF im g μ w ok okp base g' d ((do pure (.value (<-s)):Sem Next).run P w):=⟨v,w',.inl (by simp[h]),k⟩
def zF.of_same(R:Rel im g μ w ok okp base){s:Sem Value}{d:D}{v:Value}(h:s.run P w=.ok v w)(k:VR im g μ w ok d v):
 zF im g μ w ok okp base g d ((do pure (.value (<-s)):Sem Next).run P w):=.of_v h (.same R k)
def Okv.new(R:Rel im g μ w ok okp base){l:Nat}(hl:g l=none){cs:List D}{arr:Array Value}{el:TypeId}{fr:Nat×Nat}{w':World}{d:D}{v:Value}
 (hw:w'.heap=w.heap.push (.cells arr el fr)) (sm:Same w w') (hfr:∀o,o<arr.size->¬(fr.1<=o/\o<fr.2))
 (hc:∀(j:Nat)(x:D),cs[j]?=some x->∃v,arr[j]?=some v/\VR im g μ w ok x v)
 (hv:VR im (upd g l (some ⟨cs,.rw⟩)) (upd μ l (w.heap.size,0)) w' ok d v):Okv im g μ w ok okp base (upd g l (some ⟨cs,.rw⟩)) d v w':=by
 obtain⟨h1,h2⟩:=R.alloc (w':=w') hl (λb hb=>by rw[hw,Array.getElem?_push,aG eP]) (by rw[hw,Array.getElem?_push,aF rfl]) (by rw[hw];simp) sm hfr hc;exact⟨_,_,h1,h2,hv⟩
def Okv.new'(R:Rel im g μ w ok okp base){l:Nat}(hl:g l=none){cs:List D}{arr:Array Value}{el:TypeId}{fr:Nat×Nat}{w':World}{d:D}{v:Value}
 (old:∀b,b<w.heap.size->w'.heap[b]?=w.heap[b]?) (z6O:w'.heap[w.heap.size]?=some (.cells arr el fr)) (hsz:w'.heap.size=w.heap.size+1) (sm:Same w w') (hfr:∀o,o<arr.size->¬(fr.1<=o/\o<fr.2))
 (hc:∀(j:Nat)(x:D),cs[j]?=some x->∃v,arr[j]?=some v/\VR im g μ w ok x v)
 (hv:VR im (upd g l (some ⟨cs,.rw⟩)) (upd μ l (w.heap.size,0)) w' ok d v):Okv im g μ w ok okp base (upd g l (some ⟨cs,.rw⟩)) d v w':=by
 obtain⟨h1,h2⟩:=R.alloc (w':=w') hl old z6O hsz sm hfr hc;exact⟨_,_,h1,h2,hv⟩
def Gy{l:Nat}{cs:List D}{n:Nat}{w':World}:VR im (upd g l (some ⟨cs,.rw⟩)) (upd μ l (n,0)) w' ok (.ptr l 0) (.pointer (some ⟨n,0,none⟩)):=by
 simp only[VR];exact⟨_,_,fh _ _ _,rfl,λ_=>by rw[fh]⟩
def A0{l:Nat}{cs:List D}{n len cm z cap:Nat}{ex:Bool}{w':World}(h1:len<=cm)(h2:cm<=cap)(h3:ex=true->cap=cm)(h4:cap*z<=sC w' n):
 VR im (upd g l (some ⟨cs,.rw⟩)) (upd μ l (n,0)) w' ok (.sl l 0 len cm z ex) (.slice (some ⟨n,0,none⟩) len cap):=by
 simp only[VR];exact⟨_,_,_,fh _ _ _,rfl,λ_=>⟨h1,by rw[fh],h2,h3,by rw[fh];show 0+0+cap*z<=sC w' n;omega⟩⟩
def tk{cs:List D}{arr:Array Value}(h:VRl im g μ w ok cs arr.toList):∀(j:Nat)(x:D),cs[j]?=some x->∃v,arr[j]?=some v/\VR im g μ w ok x v:=by
 intro j x hj;obtain⟨v,hv,hr⟩:=(ky.1 h).2 j x hj;exact⟨v,by simpa using hv,hr⟩
end
section
variable {P:Program} {im:Nat->Option Nat} {g:Nat->Option Blk} {μ:Nat->Nat×Nat} {w:World} {ok okp:Nat->Nat->Prop} {base:Nat} {e:Env} {a:Act} {o:Oper} {nx:Nat} {d:D} {bs:List Blk}
def vA(t:TypeId)(cs:Array Value):(newRow t cs).run P w=.ok ⟨w.heap.size,0,none⟩ (w.alloc (.cells cs t)):=by
 simp[newRow]
def Dh(t:TypeId)(v:Value):(newVar t v).run P w=.ok ⟨w.heap.size,0,none⟩ (w.alloc (.cells v.cells t)):=vA _ _
def tJ(P:Program)(im:Nat->Option Nat)(g:Nat->Option Blk)(μ:Nat->Nat×Nat)(w:World)(ok okp:Nat->Nat->Prop)(base:Nat)(e:Env)(a:Act)(o:Oper)(nx:Nat):Prop:=
 ∀d bs,evA nx (X.ev e) g (cOp P im o.op)=some (d,bs)->(∀j,j<bs.length->g (nx+j)=none)->zF im g μ w ok okp base (tp g nx bs) d ((execOp a.eval o).run P w)
def iV(R:Rel im g μ w ok okp base){s:Sem Value}{v:Value}(hx:execOp a.eval o=(do pure (.value (<-s))))(h:s.run P w=.ok v w)(k:VR im g μ w ok d v):
 zF im g μ w ok okp base (tp g nx []) d ((execOp a.eval o).run P w):=by rw[hx];exact zF.of_same R h k
section
variable (R:Rel im g μ w ok okp base) (hE:ry im g μ w ok e a.tmps)
include R hE
theorem z1J{x:Operand}(ho:o.op=.move x):tJ P im g μ w ok okp base e a o nx:=by
 intro d bs h hf;rw[ho]at h;simp only[cOp,evA,aA,aI]at h;obtain⟨rfl,rfl⟩:=h;exact⟨a.eval x,w,.inl (by simp[execOp,ho]),.same R (ju hE x)⟩
theorem WD{x:Operand}(ho:o.op=.assign x):tJ P im g μ w ok okp base e a o nx:=by
 intro d bs h hf;rw[ho]at h;simp only[cOp,evA,aA,aI]at h;obtain⟨rfl,rfl⟩:=h;exact⟨a.eval x,w,.inl (by simp[execOp,ho]),.same R (ju hE x)⟩
theorem z1I{c x y:Operand}(ho:o.op=.pick c x y):tJ P im g μ w ok okp base e a o nx:=by
 intro d bs h hf;rw[ho]at h;simp only[cOp,evA]at h;have hc:=ju hE c;split at h
 ·rename_i hb;rw[hb]at hc;simp only[VR]at hc;simp only[aA,aI]at h;obtain⟨rfl,rfl⟩:=h;exact⟨a.eval x,w,.inl (by simp[execOp,ho,hc,asBool]),.same R (ju hE x)⟩
 ·rename_i hb;rw[hb]at hc;simp only[VR]at hc;simp only[aA,aI]at h;obtain⟨rfl,rfl⟩:=h;exact⟨a.eval y,w,.inl (by simp[execOp,ho,hc,asBool]),.same R (ju hE y)⟩
 ·cases h
theorem Y8{el:TypeId}(ho:o.op=.alloc el):tJ P im g μ w ok okp base e a o nx:=by
 intro d bs h hf;rw[ho]at h;simp only[cOp]at h;cases hz:rE P el with
 |none=>rw[hz]at h;simp[evA]at h
 |some z=>
  rw[hz]at h;simp only[evA,aA,aI]at h;obtain⟨rfl,rfl⟩:=h;obtain⟨i,hi,hz⟩:=uX hz;have hr:(Instr.alloc el true (.tuple #[])).run P w=.ok (.pointer (some ⟨w.heap.size,0,none⟩)) (w.alloc (.cells z.cells el)):=by
   simp[Instr.alloc,rG hi hz,Dh]
  have h0:g nx=none:=hf 0 fU;exact⟨_,w.alloc (.cells z.cells el),.inl (by simp only[execOp,ho,Sem.run_bind,hr,Result.andThen_ok];rfl),Okv.new R h0 (fr:=(0,0)) rfl (.alloc _ _ _) (λo _=>by simp) (tk (MP z)) Gy⟩
theorem z3E{el:TypeId}{x:Operand}(ho:o.op=.box el x):tJ P im g μ w ok okp base e a o nx:=by
 intro d bs h hf;rw[ho]at h;simp only[cOp,evA]at h;split at h
 ·rename_i h1;simp only[aA,aI]at h;obtain⟨rfl,rfl⟩:=h;have hr:(Instr.box el (a.eval x)).run P w=.ok (.pointer (some ⟨w.heap.size,0,none⟩)) (w.alloc (.cells (a.eval x).cells el)):=by
   simp[Instr.box,Dh]
  have h0:g nx=none:=hf 0 fU;exact⟨_,w.alloc (.cells (a.eval x).cells el),.inl (by simp only[execOp,ho,Sem.run_bind,hr,Result.andThen_ok];rfl),Okv.new R h0 (fr:=(0,0)) rfl (.alloc _ _ _) (λo _=>by simp) (tk (Cu (ju hE x) h1)) Gy⟩
 ·cases h
theorem z1K{t:TypeId}{x:Operand}(ho:o.op=.load t x):tJ P im g μ w ok okp base e a o nx:=by
 intro d bs h hf;rw[ho]at h;simp only[cOp]at h;cases hu:P.underlying t with
 |none=>rw[hu]at h;simp[evA]at h
 |some td=>
  rw[hu]at h;simp only at h;obtain⟨i,hi⟩:=qH hu;split at h
  ·rename_i hag;simp only[evA]at h;split at h
   ·rename_i cs hcs;obtain⟨ad,hv,hs,hc⟩:=Vq R hcs (ju hE x);split at h
    ·rename_i r z6f;simp only[aA,aI]at h;obtain⟨rfl,rfl⟩:=h;have hlen:=(yY z6f).2;have hvr:=yZ z6f hc;simp only[bO]at hvr;have hex:∃vs:List Value,VRl im g μ w ok r vs/\∀(j:Nat) v,vs[j]?=some v->w.cell? (ad.add j)=some v:=by
      clear hlen z6f;have:∀(r:List D)(o:Nat),VRc im g μ w ok r ad.block o->∃vs:List Value,VRl im g μ w ok r vs/\∀(j:Nat) v,vs[j]?=some v->w.cell? ⟨ad.block,o+j,none⟩=some v:=by
       intro r
       induction r with
       |nil=>intro o _;exact⟨[],by simp[VRl],λj v h=>by simp at h⟩
       |cons y ys ih=>
        intro o hr;simp only[VRc]at hr;obtain⟨⟨v,hv,hy⟩,hr⟩:=hr;obtain⟨vs,h1,h2⟩:=ih _ hr;refine⟨v::vs,by simp only[VRl];exact⟨v,vs,rfl,hy,h1⟩,λj u hj=>?_⟩;cases j with
        |zero=>simp only[ax,aA]at hj;subst hj;exact hv
        |succ j=>have:=h2 j u (by simpa using hj);rwa[show o+1+j=o+(j+1) by omega]at this
      obtain⟨vs,h1,h2⟩:=this r _ hvr;exact⟨vs,h1,λj v hj=>by rw[Addr.add_eq hs];exact h2 j v hj⟩
     obtain⟨vs,h1,h2⟩:=hex;have hn:vs.length=i.size:=by rw[j7 h1,hlen,py hi]
     refine iV (s:=Instr.loadAt t (a.eval x)) (v:=.agg vs.toArray) R (by simp only[execOp,ho]) ?_ ?_
     ·simp[Instr.loadAt,Instr.sureAddr,hv,loadVar,oe hu,hag,jQ hi,<-hn,run_loadCells_list w ad vs h2]
     ·simp only[VR];exact⟨vs.toArray,rfl,by simpa using h1⟩
    ·cases h
   ·cases h
  ·rename_i hag;simp only[evA]at h;split at h
   ·rename_i d' rest hcs;simp only[aA,aI]at h;obtain⟨rfl,rfl⟩:=h;obtain⟨ad,hv,hs,hc⟩:=Vq R hcs (ju hE x);simp only[VRc]at hc;obtain⟨⟨v,z6D,hd⟩,_⟩:=hc;rw[<-Addr.eta hs]at z6D;refine iV (s:=Instr.loadAt t (a.eval x)) (v:=v) R (by simp only[execOp,ho]) ?_ hd;simp[Instr.loadAt,Instr.sureAddr,hv,loadVar,oe hu,hag,run_load,z6D]
   ·cases h
theorem Nq{x:Operand}(ho:o.op=.nilCheck x):tJ P im g μ w ok okp base e a o nx:=by
 intro d bs h hf;rw[ho]at h;simp only[cOp,evA]at h;have hx:=ju hE x;split at h
 ·rename_i l off hd;rw[hd]at hx;have hx':=hx;simp only[VR]at hx';obtain⟨b,p,hb,hv,hl⟩:=hx';rw[hb]at h;simp only at h;split at h
  ·rename_i z6g;simp only[aA,aI]at h;obtain⟨rfl,rfl⟩:=h;have hp:=hl z6g;subst hp;exact⟨a.eval x,w,.inl (by simp[execOp,ho,hv]),.same R hx⟩
  ·cases h
 ·rename_i cs hd;simp only[aA,aI]at h;obtain⟨rfl,rfl⟩:=h;rw[hd]at hx;have hx':=hx;simp only[VR,TR]at hx';obtain⟨ad,hv,_⟩:=hx';exact⟨a.eval x,w,.inl (by simp[execOp,ho,hv]),.same R hx⟩
 ·rename_i f cs hd;simp only[aA,aI]at h;obtain⟨rfl,rfl⟩:=h;rw[hd]at hx;have hx':=hx;simp only[VR]at hx';obtain⟨F,arr,_,hv,_⟩:=hx';exact⟨a.eval x,w,.inl (by simp[execOp,ho,hv]),.same R hx⟩
 ·cases h
end
end
section
variable {P:Program} {im:Nat->Option Nat} {g:Nat->Option Blk} {μ:Nat->Nat×Nat} {w:World} {ok okp:Nat->Nat->Prop} {base:Nat} {e:Env} {a:Act} {o:Oper} {nx:Nat} {d:D} {bs:List Blk}
def wG{d:D}{v:Value}{l:List UInt8}(h:str d=some l)(hv:VR im g μ w ok d v):v=.string ⟨l.toArray⟩:=by
 cases d<;>simp only[str]at h<;>try cases h
 ·simp only[VR]at hv;exact hv
 ·simp only[VR]at hv;exact hv
def vH:∀(k n:Nat)(acc:List UInt8),n<=k->fa (mn k n acc) 0=fa acc n
 |0,n,acc,h=>by simp only[mn];rw[zno.1 h]
 |k+1,n,acc,h=>by
  simp only[mn];by_cases h0:n=0
  ·subst h0;rfl
  ·rw[Rn h0];show fa (mn k (n/256) (UInt8.ofNat (n%256)::acc)) 0=_;rw[vH k (n/256) _ eP];show fa acc (n/256*256+(UInt8.ofNat (n%256)).toNat)=_;rw[UInt8.toNat_ofNat'];congr 1;omega
def va(n:Nat):fa (fy n) 0=n:=vH n n [] (aC _)
def JQ{a b:Nat}(h:fy a=fy b):a=b:=by rw[<-va a,h,va]
def yJ(a b:Nat):(fy a==fy b)=Nat.beq a b:=by
 by_cases h:a=b
 ·subst h;simp
 ·have h1:Nat.beq a b=false:=by
   cases hb:Nat.beq a b with
   |false=>rfl
   |true=>exact absurd (aT hb) h
  rw[h1,beq_eq_false_iff_ne];exact λe=>h (JQ e)
def Cw(l:List UInt8):(ByteArray.mk l.toArray).toList=l:=by rw[ByteArray.toList_eq]
def Vi{op:BinOp}{k:IntKind}{x y:Int}(t:TypeId)(h:zp op k x y=some d):∃v,(binOp op t (.int k x) (.int k y)).run P w=.ok v w/\VR im g μ w ok d v:=by
 cases op<;>simp only[zp]at h<;>try cases h
 case quo=>
  split at h
  ·cases h
  ·rename_i hy;simp only[aA]at h;subst h;exact⟨.int k (k.wrap (x.tdiv y)),by simp[binOp,Op.intDiv,hy],by simp[VR]⟩
 case rem=>
  split at h
  ·cases h
  ·rename_i hy;simp only[aA]at h;subst h;exact⟨.int k (x.tmod y),by simp[binOp,Op.intDiv,hy],by simp[VR]⟩
 all_goals first
  |exact⟨_,by simp[binOp,Op.intArith];rfl,by simp[VR]⟩
  |exact⟨_,by simp[binOp,Op.intBits];rfl,by simp[VR]⟩
  |exact⟨_,by simp[binOp,Op.intCmp];rfl,by simp[VR]⟩
def Lv{op:BinOp}{x y:List UInt8}(t:TypeId)(h:Vh op x y=some d):∃v,(binOp op t (.string ⟨x.toArray⟩) (.string ⟨y.toArray⟩)).run P w=.ok v w/\VR im g μ w ok d v:=by
 cases op<;>simp only[Vh]at h<;>try cases h
 all_goals exact⟨_,by simp only[binOp,Op.stringOp,Cw];rfl,by simp[VR]⟩
def YY{op:BinOp}{x y:D}{u v:Value}(t:TypeId)(h:bin op x y=some d)(hx:VR im g μ w ok x u)(hy:VR im g μ w ok y v):
 ∃r,(binOp op t u v).run P w=.ok r w/\VR im g μ w ok d r:=by
 unfold bin at h;split at h
 ·simp only[VR]at hx hy;subst hx hy;rename_i k p k' q;split at h
  ·split at h
   ·cases h
   ·rename_i hq;simp only[aA]at h;subst h;exact⟨_,by simp[binOp,Op.shift,hq];rfl,by simp[VR]⟩
  ·split at h
   ·cases h
   ·rename_i hq;simp only[aA]at h;subst h;exact⟨_,by simp[binOp,Op.shift,hq];rfl,by simp[VR]⟩
  ·split at h
   ·rename_i hk;subst hk;exact Vi t h
   ·cases h
 ·have e1:=wG (l:=fy _) rfl hx;have e2:=wG (l:=fy _) rfl hy;rename_i p q;subst e1 e2;have inj:∀op d,Vh op (fy p) (fy q)=some d->∃r,(binOp op t (.string ⟨(fy p).toArray⟩) (.string ⟨(fy q).toArray⟩)).run P w=.ok r w/\VR im g μ w ok d r:=λop d h=>Lv t h;split at h
  ·simp only[aA]at h;subst h;obtain⟨r,h1,h2⟩:=inj .eql _ rfl;exact⟨r,h1,by rw[yJ]at h2;exact h2⟩
  ·simp only[aA]at h;subst h;obtain⟨r,h1,h2⟩:=inj .neq _ rfl;exact⟨r,h1,by rw[yJ]at h2;exact h2⟩
  ·exact inj _ _ h
 ·split at h
  ·rename_i h1 h2;have e1:=wG h1 hx;have e2:=wG h2 hy;subst e1 e2;exact Lv t h
  ·cases h
section
variable (R:Rel im g μ w ok okp base) (hE:ry im g μ w ok e a.tmps)
include R hE
theorem Bu{op:BinOp}{t:TypeId}{x y:Operand}{u v:Value}{p:D}(hx:VR im g μ w ok p u)(hp:(∃k n,p=.i k n)\/(∃l,str p=some l)):
 (eqGuard op t x y u v).run P w=.ok () w:=by
 have:(∃k n,u=.int k n)\/(∃s,u=.string s):=by
  rcases hp with⟨k,n,rfl⟩|⟨l,hl⟩
  ·simp only[VR]at hx;exact .inl ⟨k,n,hx⟩
  ·exact .inr ⟨_,wG hl hx⟩
 rcases this with⟨k,n,rfl⟩|⟨s,rfl⟩<;>cases op<;>simp[eqGuard]
theorem Vg{op:BinOp}{x y:D}(h:bin op x y=some d):(∃k n,x=.i k n)\/(∃l,str x=some l):=by
 unfold bin at h;split at h
 ·exact .inl ⟨_,_,rfl⟩
 ·exact .inr ⟨_,rfl⟩
 ·split at h
  ·rename_i h1 h2;exact .inr ⟨_,h1⟩
  ·cases h
theorem ZL{op:BinOp}{t yt:TypeId}{x y:Operand}(ho:o.op=.binOp op t x y yt)(hc:cOp P im o.op=.bin op (cX im x) (cX im y)):tJ P im g μ w ok okp base e a o nx:=by
 intro d bs h hf;rw[hc]at h;simp only[evA]at h;split at h
 ·rename_i d' hd;simp only[aA,aI]at h;obtain⟨rfl,rfl⟩:=h;have hx:=ju hE x;have hy:=ju hE y;obtain⟨r,h1,h2⟩:=YY (P:=P) t hd hx hy;refine iV (v:=r) R (s:=do eqGuard op t x y (a.eval x) (a.eval y);binOp op t (a.eval x) (a.eval y)) (by simp only[execOp,ho]) ?_ h2;have hg:(eqGuard op t x y (a.eval x) (a.eval y)).run P w=.ok () w:=Bu R hE hx (Vg R hE hd);simp only[Sem.run_bind,hg,Result.andThen_ok,h1]
 ·cases h
theorem z1M{op:BinOp}{t yt:TypeId}{x y:Operand}(ho:o.op=.binOp op t x y yt)(hc:cOp P im o.op=.binb op (cX im x) (cX im y))(hbt:P.underlying t=some .bool):tJ P im g μ w ok okp base e a o nx:=by
 intro d bs h hf;rw[hc]at h;simp only[evA]at h;have hx:=ju hE x;have hy:=ju hE y;split at h
 ·rename_i p q hp hq;rw[hp]at hx;rw[hq]at hy;simp only[VR]at hx hy;have hg:∀op,(eqGuard op t x y (.bool p) (.bool q)).run P w=.ok () w:=λop=>by cases op<;>simp[eqGuard]
  split at h
  ·simp only[aA,aI]at h;obtain⟨rfl,rfl⟩:=h;refine iV (v:=.bool (p==q)) R (s:=do eqGuard .eql t x y (a.eval x) (a.eval y);binOp .eql t (a.eval x) (a.eval y)) (by simp only[execOp,ho]) ?_ (by simp[VR]);rw[hx,hy];simp only[Sem.run_bind,hg,Result.andThen_ok,run_eql_bool w t _ _ hbt]
  ·simp only[aA,aI]at h;obtain⟨rfl,rfl⟩:=h;refine iV (v:=.bool (!(p==q))) R (s:=do eqGuard .neq t x y (a.eval x) (a.eval y);binOp .neq t (a.eval x) (a.eval y)) (by simp only[execOp,ho]) ?_ (by simp[VR]);rw[hx,hy];simp only[Sem.run_bind,hg,Result.andThen_ok,run_neq_bool w t _ _ hbt]
  ·cases h
 ·cases h
theorem z1H{op:UnOp}{t:TypeId}{x:Operand}(ho:o.op=.unOp op t x):tJ P im g μ w ok okp base e a o nx:=by
 intro d bs h hf;rw[ho]at h;have hx:=ju hE x;cases op<;>simp only[cOp,evA]at h<;>try cases h
 ·split at h
  ·rename_i k n hd;simp only[aA,aI]at h;obtain⟨rfl,rfl⟩:=h;rw[hd]at hx;simp only[VR]at hx;exact iV (v:=.int k (k.wrap (0-n))) R (s:=Op.unary .neg (a.eval x)) (by simp only[execOp,ho]) (by rw[hx];simp[Op.unary,Op.intArith]) (by simp[VR])
  ·cases h
 ·split at h
  ·rename_i p hd;simp only[aA,aI]at h;obtain⟨rfl,rfl⟩:=h;rw[hd]at hx;simp only[VR]at hx;exact iV (v:=.bool (!p)) R (s:=Op.unary .not (a.eval x)) (by simp only[execOp,ho]) (by rw[hx];simp[Op.unary]) (by simp[VR])
  ·cases h
theorem MC{s:TypeId}{x:Operand}{f:Nat}(ho:o.op=.fieldAddr s x f):tJ P im g μ w ok okp base e a o nx:=by
 intro d bs h hf;rw[ho]at h;have hx:=ju hE x;simp only[cOp]at h;split at h
 ·rename_i fs hu;split at h
  ·rename_i fd hfd;split at h
   ·simp[evA]at h
   ·rename_i hsz;have hi:∃i,P.info? fd.type=some i:=by
     unfold jS at hsz;split at hsz
     ·rename_i i hi;exact⟨i,hi⟩
     ·simp at hsz
    obtain⟨i,hi⟩:=hi;have z6v:∀ad:Addr,(Instr.fieldAt s (.pointer (some ad)) f).run P w=.ok (.pointer (some (ad.add fd.offset))) w:=by
     intro ad;have:i.size≠0:=by rw[<-py hi];exact hsz
     simp[Instr.fieldAt,gI hu,hfd,Instr.sureAddr,fieldPlace,jQ hi,this]
    simp only[evA]at h;split at h
    ·rename_i l o' hd;rw[hd]at hx;simp only[VR]at hx;obtain⟨b,p,hb,hv,hl⟩:=hx;rw[hb]at h;simp only at h;split at h
     ·rename_i z6g;simp only[aA,aI]at h;obtain⟨rfl,rfl⟩:=h;have hp:=hl z6g;subst hp;refine iV R (s:=Instr.fieldAt s (a.eval x) f) (by simp only[execOp,ho]) (by rw[hv];exact z6v _) ?_;simp only[VR];rw[Addr.add_eq rfl];exact⟨b,_,hb,rfl,λ_=>by simp[dL]⟩
     ·cases h
    ·rename_i cs hd;simp only[aA,aI]at h;obtain⟨rfl,rfl⟩:=h;rw[hd]at hx;simp only[VR,TR]at hx;obtain⟨ad,hv,h1,h2,h3⟩:=hx;refine iV R (s:=Instr.fieldAt s (a.eval x) f) (by simp only[execOp,ho]) (by rw[hv];exact z6v ad) ?_;simp only[VR,TR];rw[Addr.add_eq h1];exact⟨_,rfl,rfl,h2.drop _,HA h3 _⟩
    ·cases h
  ·simp[evA]at h
 ·simp[evA]at h
theorem Y6{s:TypeId}{x:Operand}{f:Nat}(ho:o.op=.field s x f):tJ P im g μ w ok okp base e a o nx:=by
 intro d bs h hf;rw[ho]at h;have hx:=ju hE x;simp only[cOp]at h;split at h
 ·rename_i fs hu;split at h
  ·rename_i fd hfd;split at h
   ·rename_i td htd;obtain⟨i,hi⟩:=qH htd;split at h
    ·rename_i hag;simp only[evA]at h;split at h
     ·rename_i cs hd;rw[hd]at hx;simp only[VR]at hx;obtain⟨arr,hv,hl⟩:=hx;split at h
      ·rename_i r z6f;simp only[aA,aI]at h;obtain⟨rfl,rfl⟩:=h;obtain⟨rfl,hlen⟩:=yY z6f;refine iV R (s:=Instr.field s (a.eval x) f) (v:=.agg (arr.extract fd.offset (fd.offset+i.size))) (by simp only[execOp,ho]) ?_ ?_
       ·rw[hv];simp[Instr.field,gI hu,hfd,part,oe htd,hag,asAgg,jQ hi]
       ·simp only[VR];refine⟨_,rfl,ky.2 ⟨?_,λj y hj=>?_⟩⟩
        ·have h1:=j7 hl;rw[hlen,py hi];have h2:((cs.drop fd.offset).take (jS P fd.type)).length=jS P fd.type:=hlen;rw[py hi]at h2;simp at h1 h2 ⊢;omega
        ·rw[cN]at hj;split at hj
         ·rename_i hjl;rw[cA]at hj;obtain⟨v,e1,e2⟩:=(ky.1 hl).2 _ _ hj;refine⟨v,?_,e2⟩;rw[py hi]at hjl;have e3:arr[fd.offset+j]?=some v:=by simpa using e1
          have hb:fd.offset+j<arr.size:=(bu.1 e3).1;simp only[dh,Array.getElem?_extract];rw[aF eP];exact e3
         ·cases hj
      ·cases h
     ·cases h
    ·rename_i hag;simp only[evA]at h;split at h
     ·rename_i cs hd;rw[hd]at hx;simp only[VR]at hx;obtain⟨arr,hv,hl⟩:=hx;split at h
      ·rename_i y r hdr;simp only[aA,aI]at h;obtain⟨rfl,rfl⟩:=h;have hj:cs[fd.offset]?=some y:=by
        have:(cs.drop fd.offset)[0]?=some y:=by rw[hdr];rfl
        rwa[cA,bO]at this
       obtain⟨v,e1,e2⟩:=(ky.1 hl).2 _ _ hj;have e3:arr[fd.offset]?=some v:=by simpa using e1
       refine iV R (s:=Instr.field s (a.eval x) f) (v:=v) (by simp only[execOp,ho]) ?_ e2;rw[hv];simp[Instr.field,gI hu,hfd,part,oe htd,hag,asAgg,e3]
      ·cases h
     ·cases h
   ·simp[evA]at h
  ·simp[evA]at h
 ·simp[evA]at h
theorem MA{t:TypeId}{x i:Operand}(ho:o.op=.indexAddr t x i):tJ P im g μ w ok okp base e a o nx:=by
 intro d bs h hf;rw[ho]at h;have hx:=ju hE x;have hi:=ju hE i;simp only[cOp]at h;split at h
 ·rename_i el hu;split at h
  ·simp[evA]at h
  ·rename_i hsz;have hq:∃i,P.info? el=some i:=by
    unfold jS at hsz;split at hsz
    ·rename_i i hi;exact⟨i,hi⟩
    ·simp at hsz
   obtain⟨ti,hti⟩:=hq;have z6v:∀(k:IntKind)(n:Int)(ad:Addr)(len cap:Nat),0<=n->n<len->
    (Instr.indexAt t (.slice (some ad) len cap) (.int k n)).run P w=.ok (.pointer (some (ad.add (n.toNat*jS P el)))) w:=by
    intro k n ad len cap h0 h1;simp[Instr.indexAt,asIntOf,gI hu,jQ hti,h0,h1,py hti]
   simp only[evA]at h;split at h
   ·rename_i k n hdi;rw[hdi]at hi;simp only[VR]at hi;split at h
    ·rename_i l off len cm z ex hd;rw[hd]at hx;simp only[VR]at hx;obtain⟨b,p,cap,hb,hv,hl⟩:=hx;rw[hb]at h;simp only at h;split at h
     ·rename_i hc;simp only[aW,decide_eq_true_eq]at hc;obtain⟨⟨⟨z6g,h0⟩,h1⟩,hz⟩:=hc;simp only[aA,aI]at h;obtain⟨rfl,rfl⟩:=h;obtain⟨hl1,rfl,hl2,hl3,hl5⟩:=hl z6g;refine iV R (s:=Instr.indexAt t (a.eval x) (a.eval i)) (by simp only[execOp,ho]) (by rw[hv,hi];exact z6v k n _ len cap h0 h1) ?_;simp only[VR];rw[Addr.add_eq rfl];exact⟨b,_,hb,rfl,λ_=>by simp[dL]⟩
     ·cases h
    ·rename_i cs len ex hd;rw[hd]at hx;simp only[VR,TR]at hx;obtain⟨p,cap,hv,hl1,hl2,hl3⟩:=hx;split at h
     ·rename_i hc;simp only[aW,decide_eq_true_eq]at hc;obtain⟨h0,h1⟩:=hc;split at h
      ·cases h
      rename_i d1 r1 z9l;simp only[aA,aI]at h;obtain⟨rfl,rfl⟩:=h;have hne:cs≠[]:=by
       intro hn;subst hn;simp at z9l
      obtain⟨ad,rfl,e1,e2,e3⟩:=hl3 hne;refine iV R (s:=Instr.indexAt t (a.eval x) (a.eval i)) (by simp only[execOp,ho]) (by rw[hv,hi];exact z6v k n _ len cap h0 h1) ?_;have e4:=HA e3 (n.toNat*jS P el);rw[z9l]at e4;simp only[VR,TR];rw[Addr.add_eq e1];have e5:=e2.drop (n.toNat*jS P el);rw[z9l]at e5;exact⟨_,rfl,rfl,e5,e4⟩
     ·cases h
    ·cases h
   ·cases h
 ·simp[evA]at h
theorem Y5{t:TypeId}{x i:Operand}(ho:o.op=.index t x i):tJ P im g μ w ok okp base e a o nx:=by
 intro d bs h hf;rw[ho]at h;have hx:=ju hE x;have hi:=ju hE i;simp only[cOp]at h;split at h
 ·rename_i hu;simp only[evA]at h;split at h
  ·rename_i k n l hdi hdx;rw[hdi]at hi;simp only[VR]at hi;have hv:=wG hdx hx;split at h
   ·rename_i h0;split at h
    ·rename_i c r hdr;simp only[aA,aI]at h;obtain⟨rfl,rfl⟩:=h;have hj:l[n.toNat]?=some c:=by
      have:(l.drop n.toNat)[0]?=some c:=by rw[hdr];rfl
      rwa[cA,bO]at this
     obtain⟨hlt,z6T⟩:=ak.1 hj;have hj':(ByteArray.mk l.toArray)[n.toNat]?=some c:=by
      rw[getElem?_pos (ByteArray.mk l.toArray) n.toNat (by simpa[ByteArray.size]using hlt)];rw[<-z6T];rfl
     refine iV R (s:=Instr.index t (a.eval x) (a.eval i)) (v:=.int .u8 c.toNat) (by simp only[execOp,ho]) ?_ (by simp[VR]);rw[hv,hi];simp[Instr.index,asIntOf,gI hu,h0,hj']
    ·cases h
   ·cases h
  ·cases h
 ·simp[evA]at h
theorem Ru{x:Operand}{i:Nat}(ho:o.op=.extract x i):tJ P im g μ w ok okp base e a o nx:=by
 intro d bs h hf;rw[ho]at h;have hx:=ju hE x;simp only[cOp,evA]at h;split at h
 ·rename_i vs hd;rw[hd]at hx;simp only[VR]at hx;obtain⟨arr,hv,hl⟩:=hx;split at h
  ·rename_i y r hdr;simp only[aA,aI]at h;obtain⟨rfl,rfl⟩:=h;have hj:vs[i]?=some y:=by
    have:(vs.drop i)[0]?=some y:=by rw[hdr];rfl
    rwa[cA,bO]at this
   obtain⟨v,e1,e2⟩:=(ky.1 hl).2 _ _ hj;have e3:arr[i]?=some v:=by simpa using e1
   exact iV R (s:=Instr.extract (a.eval x) i) (v:=v) (by simp only[execOp,ho]) (by rw[hv];simp[Instr.extract,e3]) e2
  ·cases h
 ·cases h
theorem Nr{fn:Fn}{first z6c:Array Operand}(ho:o.op=.makeFunc fn first z6c):tJ P im g μ w ok okp base e a o nx:=by
 intro d bs h hf;rw[ho]at h;cases fn<;>simp only[cOp]at h<;>try (simp[evA]at h;done)
 rename_i F;split at h
 ·rename_i k hk z9j;simp only[evA,aA,aI]at h;obtain⟨rfl,rfl⟩:=h;have hfe:first= #[]:=by
   obtain⟨l⟩:=first;simp at z9j;subst z9j;rfl
  subst hfe;refine iV R (s:=Instr.makeFunc (.func F) ((#[]:Array Operand).map a.eval) (z6c.map a.eval)) (v:=.func (.func F) #[] (z6c.map a.eval)) (by simp only[execOp,ho]) (by simp[Instr.makeFunc]) ?_;simp only[VR];exact⟨F,z6c.map a.eval,hk,rfl,by simpa using QD hE z6c.toList⟩
 ·simp[evA]at h
end
end
section
variable {P:Program} {im:Nat->Option Nat} {g:Nat->Option Blk} {μ:Nat->Nat×Nat} {w:World} {ok okp:Nat->Nat->Prop} {base:Nat} {e:Env} {a:Act} {o:Oper} {nx:Nat} {d:D} {bs:List Blk}
def Gv{r:List D}{b:Nat}:∀{o:Nat},VRc im g μ w ok r b o->∃vs:List Value,VRl im g μ w ok r vs/\∀(j:Nat) v,vs[j]?=some v->w.cell? ⟨b,o+j,none⟩=some v:=by
 induction r with
 |nil=>intro o _;exact⟨[],by simp[VRl],λj v h=>by simp at h⟩
 |cons y ys ih=>
  intro o hr;simp only[VRc]at hr;obtain⟨⟨v,hv,hy⟩,hr⟩:=hr;obtain⟨vs,h1,h2⟩:=ih hr;refine⟨v::vs,by simp only[VRl];exact⟨v,vs,rfl,hy,h1⟩,λj u hj=>?_⟩;cases j with
  |zero=>simp only[ax,aA]at hj;subst hj;exact hv
  |succ j=>have:=h2 j u (by simpa using hj);rwa[show o+1+j=o+(j+1) by omega]at this
def Nm{cs:List D}{vs:List Value}{l:List UInt8}(h:y6 cs=some l)(hv:VRl im g μ w ok cs vs):
 ∃ns:List Int,vs=ns.map (Value.int .u8)/\l=ns.map λn=>UInt8.ofNat n.toNat:=by
 induction cs generalizing vs l with
 |nil=>simp only[VRl]at hv;subst hv;simp only[y6,aA]at h;subst h;exact⟨[],rfl,rfl⟩
 |cons c cs ih=>
  unfold y6 at h;split at h
  ·cases ‹_::_=[]›
  ·rename_i n r he;simp only[List.cons.injEq]at he;obtain⟨rfl,rfl⟩:=he;split at h
   ·rename_i l' hl';simp only[aA]at h;subst h;simp only[VRl]at hv;obtain⟨v,r',rfl,hv,hr⟩:=hv;simp only[VR]at hv;subst hv;obtain⟨ns,rfl,rfl⟩:=ih hl' hr;exact⟨n::ns,rfl,rfl⟩
   ·cases h
  ·cases h
def wJ(c:UInt8):∀(l:List UInt8)(acc:Nat),fa (l++[c]) acc=fa l acc*256+c.toNat
 |[],acc=>rfl
 |b::l,acc=>wJ c l (acc*256+b.toNat)
def yK:∀(n:Nat)(l:List UInt8)(k:Nat)(acc:List UInt8),l.length=n->(∀c r,l=c::r->c.toNat≠0)->fa l 0<=k->mn k (fa l 0) acc=l++acc/\(l≠[]->0<fa l 0)
 |0,l,k,acc,hn,_,_=>by
  have:l=[]:=zmA.1 hn;subst this;refine⟨?_,λh=>absurd rfl h⟩;cases k<;>rfl
 |n+1,l,k,acc,hn,hc,hk=>by
  rcases zmL l with h|⟨l',c,h⟩
  ·subst h;simp at hn
  ·have h:l=l'++[c]:=by simpa[List.concat_eq_append]using h
   subst h;have hl':l'.length=n:=by simpa using hn
   have hc':∀b r,l'=b::r->b.toNat≠0:=λb r e=>hc b (r++[c]) (by rw[e];rfl);rw[wJ]at hk ⊢;have hlt:c.toNat<256:=c.toNat_lt;have pos:0<fa l' 0*256+c.toNat:=by
    cases hl:l' with
    |nil=>
     have:=hc c [] (by rw[hl];rfl);simp only[fa];omega
    |cons b r=>
     have:=(yK n l' (fa l' 0) [] hl' hc' (aC _)).2 (by rw[hl];simp);rw[hl]at this;omega
   refine⟨?_,λ_=>pos⟩;cases k with
   |zero=>omega
   |succ k=>
    have e1:(fa l' 0*256+c.toNat)/256=fa l' 0:=eP;have e2:(fa l' 0*256+c.toNat)%256=c.toNat:=eP;have e3:Nat.beq (fa l' 0*256+c.toNat) 0=false:=by
     cases hq:Nat.beq (fa l' 0*256+c.toNat) 0 with
     |false=>rfl
     |true=>have:=aT hq;omega
    have ih:=(yK n l' k (c::acc) hl' hc' eP).1;show cond (Nat.beq (fa l' 0*256+c.toNat) 0) acc (mn k ((fa l' 0*256+c.toNat)/256) (UInt8.ofNat ((fa l' 0*256+c.toNat)%256)::acc))=_;rw[e3,e1,e2,UInt8.ofNat_toNat,cond_false,ih];simp
def W7(l:List UInt8):VR im g μ w ok (Io l) (.string ⟨l.toArray⟩):=by
 cases l with
 |nil=>simp[Io,VR,fy,mn]
 |cons c r=>
  unfold Io;simp only;cases hb:Nat.beq c.toNat 0 with
  |true=>simp[VR]
  |false=>
   have hc:c.toNat≠0:=by intro e;rw[e]at hb;simp at hb
   have:=(yK _ (c::r) (fa (c::r) 0) [] rfl (λb q e=>by
    simp only[List.cons.injEq]at e;rw[<-e.1];exact hc) (aC _)).1
   rw[bQ]at this;simp only[cond_false,VR];show _=Value.string ⟨(mn (fa (c::r) 0) (fa (c::r) 0) []).toArray⟩;rw[this]
def N2(ns:List Int):∀(s:ByteArray),ns.foldl (λr n=>r.push (UInt8.ofNat n.toNat)) s=⟨(s.data.toList++ns.map λn=>UInt8.ofNat n.toNat).toArray⟩:=by
 induction ns with
 |nil=>intro s;cases s;simp
 |cons n ns ih=>intro s;rw[List.foldl_cons,ih];simp[ByteArray.push]
section
variable (R:Rel im g μ w ok okp base) (hE:ry im g μ w ok e a.tmps)
include R hE
theorem Rv{s t:TypeId}{x:Operand}(ho:o.op=.convert s t x):tJ P im g μ w ok okp base e a o nx:=by
 intro d bs h hf;rw[ho]at h;have hx:=ju hE x;simp only[cOp]at h;split at h
 ·rename_i k hs ht;simp only[evA]at h;split at h
  ·rename_i k' n hd;simp only[aA,aI]at h;obtain⟨rfl,rfl⟩:=h;rw[hd]at hx;simp only[VR]at hx;exact iV R (s:=convert s t (a.eval x)) (v:=.int k (k.wrap n)) (by simp only[execOp,ho]) (by rw[hx];simp[convert,gI hs,gI ht,Conv.intToInt]) (by simp[VR])
  ·cases h
 ·rename_i el hs ht;split at h
  ·rename_i he;simp only[evA]at h;split at h
   ·rename_i cs hcs;split at h
    ·rename_i l hl;simp only[aA,aI]at h;obtain⟨rfl,rfl⟩:=h;obtain⟨ad,len,cap,hv,h1,h2,h3,h4⟩:=Ga R hcs hx;refine iV R (s:=convert s t (a.eval x)) (v:=.string ⟨l.toArray⟩) (by simp only[execOp,ho]) ?_ (W7 l);rw[hv,run_convert_bytes_string w s t el ad len cap hs he ht];cases ad with
     |none=>
      have hn:cs=[]:=Classical.byContradiction λhn=>by obtain⟨x,hx,_⟩:=h4 hn;cases hx
      subst hn;simp only[y6,aA]at hl;subst hl;rfl
     |some ad=>
      have:∃vs:List Value,VRl im g μ w ok cs vs/\∀(j:Nat) v,vs[j]?=some v->w.cell? (ad.add j)=some v:=by
       by_cases hn:cs=[]
       ·subst hn;exact⟨[],by simp[VRl],λj v h=>by simp at h⟩
       ·obtain⟨y,hy,hs,hc⟩:=h4 hn;simp only[aA]at hy;subst hy;obtain⟨vs,e1,e2⟩:=Gv hc;exact⟨vs,e1,λj v hj=>by rw[Addr.add_eq hs];exact e2 j v hj⟩
      obtain⟨vs,e1,e2⟩:=this;obtain⟨ns,rfl,rfl⟩:=Nm hl e1;have hlen:(ns.map (Value.int .u8)).length=len:=by rw[j7 e1,h2,a9]
      have zct:(loadCells ad len).run P w=.ok (ns.map (Value.int .u8)).toArray w:=by
       rw[<-hlen];exact run_loadCells_list w ad _ e2
      rw[run_bytesToString w ad len cap ns zct,N2];rfl
    ·cases h
   ·cases h
  ·simp[evA]at h
 ·simp[evA]at h
theorem ui{d:D}{v:Value}{n:Nat}{x:Operand}{k:IntKind}{m:Int}(h:X.ev e (cX im x)=.i k m):a.eval x=.int k m:=by
 have:=ju hE x;rw[h]at this;simpa only[VR]using this
theorem xM{x:Option Operand}{z7V n:Nat}(h:vU (X.ev e) (x.map (cX im)) z7V=some n):
 (x=none/\n=z7V)\/∃y k m,x=some y/\a.eval y=.int k m/\0<=m/\m.toNat=n:=by
 cases x with
 |none=>simp only[vU,du,aA]at h;exact .inl ⟨rfl,h.symm⟩
 |some y=>
  simp only[vU,dT]at h;split at h
  ·rename_i k m hd;split at h
   ·rename_i h0;simp only[aA]at h;exact .inr ⟨y,k,m,rfl,ui R hE (d:=.u) (v:=undef) (n:=0) hd,h0,h⟩
   ·cases h
  ·cases h
theorem kP{k:IntKind}{m:Int}{y n:Nat}{c:BoundsCode}(h0:0<=m)(hn:m.toNat=n)(h1:n<=y):(Instr.sliceBound (.int k m) y c).run P w=.ok n w:=by
 have:m<=y:=eP;simp[Instr.sliceBound,asIntOf,h0,this,hn]
theorem xH{len cap:Nat}{lo hi mx:Option Operand}{m h l:Nat}(isS:Bool)(hm:vU (X.ev e) (mx.map (cX im)) cap=some m)(hh:vU (X.ev e) (hi.map (cX im)) len=some h)
 (hl:vU (X.ev e) (lo.map (cX im)) 0=some l) (h1:m<=cap) (h2:h<=m) (h3:l<=h) (h4:hi=none->mx=none):
 (Instr.sliceBounds isS len cap (lo.map a.eval) (hi.map a.eval) (mx.map a.eval)).run P w=.ok (l,h,m) w:=by
 rcases xM R hE hm with⟨rfl,rfl⟩|⟨ym,km,nm,rfl,em,zm,tm⟩
 ·rcases xM R hE hh with⟨rfl,rfl⟩|⟨yh,kh,nh,rfl,eh,zh,th⟩
  ·rcases xM R hE hl with⟨rfl,rfl⟩|⟨yl,kl,nl,rfl,el,zl,tl⟩
   ·simp[Instr.sliceBounds]
   ·simp[Instr.sliceBounds,el,kP R hE zl tl h3]
  ·rcases xM R hE hl with⟨rfl,rfl⟩|⟨yl,kl,nl,rfl,el,zl,tl⟩
   ·simp[Instr.sliceBounds,eh,kP R hE zh th h2]
   ·simp[Instr.sliceBounds,eh,el,kP R hE zh th h2,kP R hE zl tl h3]
 ·rcases xM R hE hh with⟨rfl,rfl⟩|⟨yh,kh,nh,rfl,eh,zh,th⟩
  ·exact absurd (h4 rfl) fU
  ·rcases xM R hE hl with⟨rfl,rfl⟩|⟨yl,kl,nl,rfl,el,zl,tl⟩
   ·simp[Instr.sliceBounds,em,eh,kP R hE zm tm h1,kP R hE zh th h2]
   ·simp[Instr.sliceBounds,em,eh,el,kP R hE zm tm h1,kP R hE zh th h2,kP R hE zl tl h3]
theorem Hu{x:Option Operand}{d1 d2 n:Nat}(h:vU (X.ev e) (x.map (cX im)) d1=some n):(x=none/\n=d1)\/vU (X.ev e) (x.map (cX im)) d2=some n:=by
 cases x with
 |none=>simp only[vU,du,aA]at h;exact .inl ⟨rfl,h.symm⟩
 |some y=>right;exact h
theorem Y4{t:TypeId}{x:Operand}{lo hi mx:Option Operand}(ho:o.op=.slice t x lo hi mx):tJ P im g μ w ok okp base e a o nx:=by
 intro d bs h hf;rw[ho]at h;have hx:=ju hE x;simp only[cOp]at h;split at h
 ·rename_i el hu;split at h
  ·simp[evA]at h
  ·rename_i hc;simp only[dA,aW,decide_eq_true_eq,not_or,not_and]at hc;obtain⟨hnm,hsz⟩:=hc;have h4:hi=none->mx=none:=by
    intro hh;subst hh;have:=hnm rfl;cases mx<;>simp_all
   have hq:∃i,P.info? el=some i:=by
    unfold jS at hsz;split at hsz
    ·rename_i i hi;exact⟨i,hi⟩
    ·simp at hsz
   obtain⟨ti,hti⟩:=hq;have z6v:∀(p:Option Addr)(len cap l h m:Nat),(Instr.sliceBounds true len cap (lo.map a.eval) (hi.map a.eval) (mx.map a.eval)).run P w=.ok (l,h,m) w->
    (Instr.sliceAt t (.slice p len cap) (lo.map a.eval) (hi.map a.eval) (mx.map a.eval)).run P w=.ok (.slice (if m=l then p else p.map (·.add (l*jS P el))) (h-l) (m-l)) w:=by
    intro p len cap l h m hb;simp[Instr.sliceAt,Instr.slice,gI hu,hb,jQ hti,py hti]
   simp only[evA,Option.isSome_map]at h;split at h
   ·rename_i l off len cm z ex hd;rw[hd]at hx;simp only[VR]at hx;obtain⟨b,p,cap,hb,hv,hl⟩:=hx;split at h
    ·rename_i m hh lw b' em eh el' hb';rw[hb]at hb';simp only[aA]at hb';subst hb';split at h
     ·rename_i z6o;simp only[aW,decide_eq_true_eq]at z6o;obtain⟨⟨⟨⟨z6g,c1⟩,c2⟩,c3⟩,hz⟩:=z6o;obtain⟨hl1,rfl,hl2,hl3,hl5⟩:=hl z6g;obtain⟨M,hM,hM1,hM2,hM3⟩:∃M,vU (X.ev e) (mx.map (cX im)) cap=some M/\m<=M/\M<=cap/\(mx.isSome=true->M=m):=by
       rcases Hu R hE (d2:=cap) em with⟨rfl,rfl⟩|hm
       ·exact⟨cap,rfl,hl2,aC _,λh=>by cases h⟩
       ·cases mx with
        |none=>exact⟨cap,rfl,eP,aC _,λh=>by cases h⟩
        |some y=>exact⟨m,hm,aC _,eP,λ_=>rfl⟩
      have za4:=xH (P:=P) (w:=w) R hE true hM eh el' hM2 eP c3 h4;have hex:(mx.isSome||ex)=true->M=m:=by
       intro hq;rcases(dA _ _).mp hq with h'|h'
       ·exact hM3 h'
       ·cases hmx:mx with
        |some y=>exact hM3 (by rw[hmx];rfl)
        |none=>
         subst hmx;simp only[vU,du,aA]at hM em;have:=hl3 h';omega
      split at h
      ·rename_i hlt;simp only[aA,aI]at h;obtain⟨rfl,rfl⟩:=h;refine iV R (s:=Instr.sliceAt t (a.eval x) (lo.map a.eval) (hi.map a.eval) (mx.map a.eval)) (by simp only[execOp,ho]) (by rw[hv];exact z6v _ _ _ _ _ _ za4) ?_;simp only[VR];rw[aG eP];refine⟨b,_,_,hb,rfl,λ_=>⟨eP,?_,eP,λhq=>by have:=hex hq;omega,?_⟩⟩
       ·simp[Addr.add_eq,dL]
       ·subst hz;have e1:lw*jS P el+(M-lw)*jS P el=M*jS P el:=by rw[<-aS];congr 1;omega
        have e2:M*jS P el<=cap*jS P el:=aK _ hM2;omega
      ·simp only[aA,aI]at h;obtain⟨rfl,rfl⟩:=h;refine iV R (s:=Instr.sliceAt t (a.eval x) (lo.map a.eval) (hi.map a.eval) (mx.map a.eval)) (by simp only[execOp,ho]) (by rw[hv];exact z6v _ _ _ _ _ _ za4) ?_;simp only[VR,TR];have h00:hh-lw=0:=eP;rw[h00];refine⟨_,_,rfl,aJ _,λhq=>?_,λhn=>absurd rfl hn⟩
       ·have:=hex hq;omega
     ·cases h
    ·cases h
   ·rename_i cs len ex hd;rw[hd]at hx;simp only[VR,TR]at hx;obtain⟨p,cap,hv,hl1,hl2,hl3⟩:=hx;split at h
    ·rename_i m hh lw em eh el';split at h
     ·rename_i z6o;simp only[aW,decide_eq_true_eq]at z6o;obtain⟨⟨⟨c1,c2⟩,c3⟩,hlen⟩:=z6o;simp only[aA,aI]at h;obtain⟨rfl,rfl⟩:=h;obtain⟨M,hM,hM1,hM2,hM3⟩:∃M,vU (X.ev e) (mx.map (cX im)) cap=some M/\m<=M/\M<=cap/\(mx.isSome=true->M=m):=by
       rcases Hu R hE (d2:=cap) em with⟨rfl,rfl⟩|hm
       ·exact⟨cap,rfl,hl1,aC _,λh=>by cases h⟩
       ·cases mx with
        |none=>
         simp only[vU,du,aA]at em;exact⟨cap,rfl,eP,aC _,λh=>by cases h⟩
        |some y=>exact⟨m,hm,aC _,eP,λ_=>rfl⟩
      have za4:=xH (P:=P) (w:=w) R hE true hM eh el' hM2 eP c3 h4;refine iV R (s:=Instr.sliceAt t (a.eval x) (lo.map a.eval) (hi.map a.eval) (mx.map a.eval)) (by simp only[execOp,ho]) (by rw[hv];exact z6v _ _ _ _ _ _ za4) ?_;simp only[VR,TR];refine⟨_,_,rfl,eP,λhx=>?_,λhn=>?_⟩
      ·simp only[dA,aW,beq_iff_eq,eH]at hx;rcases hx with⟨q1,q2⟩|⟨⟨q1,q2⟩,q3⟩
       ·have:=hM3 q1;omega
       ·have hmx:mx=none:=by cases mx<;>simp_all
        subst hmx;simp only[vU,du,aA]at hM em;have:=hl2 q2;omega
      ·have hne:cs≠[]:=by intro h;subst h;simp at hn
       have z6W:lw<hh:=by
        rcases aY lw hh with h|h
        ·exact h
        ·have:hh-lw=0:=eP;rw[this,bX]at hn;simp at hn
       obtain⟨ad,rfl,e1,e2,e3⟩:=hl3 hne;rw[aG eP];refine⟨_,rfl,?_,?_,?_⟩
       ·show(ad.add _).spot=none;rw[Addr.add_eq e1]
       ·show okN ok (ad.add _).block (ad.add _).off _;rw[Addr.add_eq e1];exact(e2.drop _).take _
       ·show TRc im w ok _ (ad.add _).block (ad.add _).off;rw[Addr.add_eq e1];exact WI (HA e3 _) _
     ·cases h
    ·cases h
   ·cases h
 ·simp[evA]at h
end
end
def vk(n:Nat)(z:List D):(mf n z).length=n*z.length:=by
 induction n with
 |zero=>simp[mf]
 |succ n ih=>simp only[mf,aq,ih];rw[eL];omega
def Q0{z:List D}(hz:0<z.length):∀(n j:Nat),j<n*z.length->(mf n z)[j]?=z[j%z.length]?:=by
 intro n
 induction n with
 |zero=>intro j h;omega
 |succ n ih=>
  intro j h;simp only[mf];by_cases hj:j<z.length
  ·rw[bF hj,am hj]
  ·rw[aM eP,ih _ (by rw[eL]at h;omega)];rw[Nat.mod_eq_sub_mod (by omega:j≥z.length)]
section
variable {P:Program} {im:Nat->Option Nat} {g:Nat->Option Blk} {μ:Nat->Nat×Nat} {w:World} {ok okp:Nat->Nat->Prop} {base:Nat} {e:Env} {a:Act} {o:Oper} {nx:Nat} {d:D} {bs:List Blk}
def Cr{z:Value}{n m:Nat}(hm:m=n*(zc z).length):∀(j:Nat)(x:D),(mf n (zc z))[j]?=some x->∃v,((Array.range m).map (z.cells[· %z.cells.size]!))[j]?=some v/\VR im g μ w ok x v:=by
 intro j x hj;have hlen:(zc z).length=z.cells.size:=by simp[zc]
 have hlt:j<n*(zc z).length:=by
  have:=(ak.1 hj).1;rwa[vk]at this
 have z6W:0<(zc z).length:=by
  rcases bT (zc z).length with h|h
  ·rw[h,dU]at hlt;omega
  ·exact h
 rw[Q0 z6W _ _ hlt]at hj;obtain⟨v,hv,hr⟩:=tk (g:=g) (μ:=μ) (w:=w) (ok:=ok) (im:=im) (MP z) _ _ hj;refine⟨v,?_,hr⟩;rw[hlen]at hv;have z7K:j%z.cells.size<z.cells.size:=bN _ eP;have h2:j<(Array.range m).size:=by simp;omega
 rw[Array.getElem?_map,Array.getElem?_range];rw[aF eP];simp only[dT,aA];rw[getElem!_pos z.cells _ z7K];rw[getElem?_pos z.cells _ z7K]at hv;simpa using hv
section
variable (R:Rel im g μ w ok okp base) (hE:ry im g μ w ok e a.tmps)
include R hE
theorem Lz{t:TypeId}{l c:Operand}(ho:o.op=.makeSlice t l c):tJ P im g μ w ok okp base e a o nx:=by
 intro d bs h hf;rw[ho]at h;simp only[cOp]at h;split at h
 ·rename_i el hu;split at h
  ·rename_i z hz;obtain⟨ti,hti,hz⟩:=uX hz;split at h
   ·rename_i hzl;simp only[aW,beq_iff_eq,decide_eq_true_eq]at hzl;obtain⟨hzl,z6W⟩:=hzl;simp only[evA]at h;split at h
    ·rename_i n m hl hc;split at h
     ·rename_i z6o;simp only[aW,decide_eq_true_eq]at z6o;obtain⟨⟨⟨⟨c1,c2⟩,c3⟩,c4⟩,c5⟩:=z6o;simp only[aA,aI]at h;obtain⟨rfl,rfl⟩:=h;have el':=ui R hE (d:=.u) (v:=undef) (n:=0) hl;have ec':=ui R hE (d:=.u) (v:=undef) (n:=0) hc;have h0:g nx=none:=hf 0 fU;have w1:IntKind.i64.wrap n=n:=by
       unfold IntKind.wrap;simp[IntKind.signed,IntKind.bits];omega
      have w2:IntKind.i64.wrap m=m:=by
       unfold IntKind.wrap;simp[IntKind.signed,IntKind.bits];omega
      have hb:(ti.bytes:Int)*m<=281474976710656:=by rw[eM];rw[Jq hti]at c4;omega
      have hn0:¬m<0:=eP;have za7:¬(281474976710656<(ti.bytes:Int)*m):=eP;have hl0:¬n<0:=eP;have hlm:¬m<n:=eP;have z6v:(Instr.makeSlice t (.int .i64 n) (.int .i64 m)).run P w=.ok (.slice (some ⟨w.heap.size,0,none⟩) n.toNat m.toNat)
       (w.alloc (.cells ((Array.range (m.toNat*ti.size)).map (z.cells[· %z.cells.size]!)) el)):=by
       simp[Instr.makeSlice,gI hu,un hti,asInt,asIntOf,w1,w2,hn0,za7,hl0,hlm,jQ hti];by_cases hq:m.toNat*ti.size=0
       ·rw[aF hq,hq];have q1:∀f:Nat->Value,(Array.range 0).map f= #[]:=λf=>by simp
        simp only[vA,q1,Result.andThen_ok]
       ·rw[aG hq];simp only[rG hti hz,vA,Result.andThen_ok]
      refine⟨_,_,.inl (by simp only[execOp,ho,el',ec',Sem.run_bind,z6v,Result.andThen_ok];rfl),
       Okv.new R h0 (fr:=(0,0)) rfl (.alloc _ _ _) (λo _=>by simp) (Cr (by rw[c5,py hti])) (A0 eP (aC _) (λ_=>rfl) (by rw[oR (heap_alloc_new w _)];simp[py hti]))⟩
     ·cases h
    ·cases h
   ·simp[evA]at h
  ·simp[evA]at h
 ·simp[evA]at h
theorem z3D{t:TypeId}{x:Operand}{el:TypeId}(ho:o.op=.call ⟨.builtin .len,#[x],#[t]⟩)(hu:P.underlying t=some (.slice el))(hc:cOp P im o.op=.len (cX im x)):tJ P im g μ w ok okp base e a o nx:=by
 intro d bs h hf;rw[hc]at h;have hx:=ju hE x;simp only[evA]at h;split at h
 ·rename_i n hn;simp only[aA,aI]at h;obtain⟨rfl,rfl⟩:=h;have key:∀q cap,a.eval x=.slice q n cap->zF im g μ w ok okp base (tp g nx []) (.i .i64 n) ((execOp a.eval o).run P w):=by
   intro q cap h1;exact⟨.int .i64 n,w,.inl (by simp[execOp,ho,resolve,invoke,builtin,h1,Builtin.len_,gI hu,goInt]),.same R (by simp[VR])⟩
  cases hd:X.ev e (cX im x)<;>rw[hd]at hn hx<;>simp only[lenOf]at hn<;>try cases hn
  ·simp only[VR,TR]at hx;obtain⟨q,cap,hv,_⟩:=hx;exact key q cap hv
  ·simp only[VR]at hx;obtain⟨b,q,cap,hb,hv,_⟩:=hx;exact key q cap hv
 ·cases h
theorem z1L{t:TypeId}{x:Operand}(ho:o.op=.call ⟨.builtin .len,#[x],#[t]⟩)(hu:P.underlying t=some .string)(hc:cOp P im o.op=.lens (cX im x)):tJ P im g μ w ok okp base e a o nx:=by
 intro d bs h hf;rw[hc]at h;have hx:=ju hE x;simp only[evA]at h;split at h
 ·rename_i l hl;simp only[aA,aI]at h;obtain⟨rfl,rfl⟩:=h;have hv:=wG hl hx;have hsz:(ByteArray.mk l.toArray).size=l.length:=by simp[ByteArray.size]
  refine⟨.int .i64 l.length,w,.inl ?_,.same R (by simp[VR])⟩;simp[execOp,ho,resolve,invoke,builtin,hv,Builtin.len_,gI hu,goInt,hsz]
 ·cases h
theorem z3C{ts:Array TypeId}{x y:Operand}(ho:o.op=.call ⟨.builtin .max,#[x,y],ts⟩)(hc:cOp P im o.op=.max (cX im x) (cX im y)):tJ P im g μ w ok okp base e a o nx:=by
 intro d bs h hf;rw[hc]at h;simp only[evA]at h;split at h
 ·rename_i k p k' q hp hq;split at h
  ·rename_i hk;simp only[aA,aI]at h;obtain⟨rfl,rfl⟩:=h;have e1:=ui R hE (d:=.u) (v:=undef) (n:=0) hp;have e2:=ui R hE (d:=.u) (v:=undef) (n:=0) hq;exact⟨_,w,.inl (by simp[execOp,ho,resolve,invoke,builtin,e1,e2,run_max_int2];rfl),.same R (by simp[VR])⟩
  ·cases h
 ·cases h
theorem z3B{ts:Array TypeId}{x y:Operand}(ho:o.op=.call ⟨.builtin .min,#[x,y],ts⟩)(hc:cOp P im o.op=.min (cX im x) (cX im y)):tJ P im g μ w ok okp base e a o nx:=by
 intro d bs h hf;rw[hc]at h;simp only[evA]at h;split at h
 ·rename_i k p k' q hp hq;split at h
  ·rename_i hk;simp only[aA,aI]at h;obtain⟨rfl,rfl⟩:=h;have e1:=ui R hE (d:=.u) (v:=undef) (n:=0) hp;have e2:=ui R hE (d:=.u) (v:=undef) (n:=0) hq;exact⟨_,w,.inl (by simp[execOp,ho,resolve,invoke,builtin,e1,e2,run_min_int2];rfl),.same R (by simp[VR])⟩
  ·cases h
 ·cases h
omit R hE in
theorem R4:∀(l:List Value)(off j:Nat)(cells:Array Value),off+j+l.length<=cells.size->
 ((l.zipIdx j).foldl (λcs(x:Value×Nat)=>cs.setIfInBounds (off+x.2) x.1) cells).size=cells.size/\
 ∀k,((l.zipIdx j).foldl (λcs(x:Value×Nat)=>cs.setIfInBounds (off+x.2) x.1) cells)[k]?=if off+j<=k/\k<off+j+l.length then l[k-(off+j)]?else cells[k]?:=by
 intro l
 induction l with
 |nil=>intro off j cells h;exact⟨rfl,λk=>by rw[aG (by simp only[dV];omega)];rfl⟩
 |cons v l ih=>
  intro off j cells h;simp only[ah]at h;simp only[List.zipIdx_cons,List.foldl_cons];obtain⟨h1,h2⟩:=ih off (j+1) (cells.setIfInBounds (off+j) v) (by simp;omega);refine⟨by rw[h1];simp,λk=>?_⟩;rw[h2 k];simp only[ah];by_cases hk:k=off+j
  ·subst hk;rw[aG eP,aF eP];rw[zmn eP];simp
  ·by_cases hk2:off+j<=k/\k<off+j+(l.length+1)
   ·rw[aF eP,aF hk2];rw[show k-(off+j)=(k-(off+(j+1)))+1 by omega];simp
   ·rw[aG eP,aG hk2,dR eP]
omit R hE in
theorem E5{off:Nat}{new cs r:List D}(h:lay off new cs=some r):off+new.length<=cs.length/\r.length=cs.length/\∀k,r[k]?=if off<=k/\k<off+new.length then new[k-off]?else cs[k]?:=by
 unfold lay at h;split at h
 ·rename_i hle;simp only[aA]at h;subst h;refine⟨hle,by simp;omega,λk=>?_⟩;have htk:(cs.take off).length=off:=by simp;omega
  by_cases h1:k<off
  ·rw[aG eP,aQ,bF eP,zmv h1]
  ·by_cases h2:k<off+new.length
   ·rw[aF eP,aQ,aM eP,htk,bF eP]
   ·rw[aG eP,aQ,aM eP,htk,aM eP,cA];congr 1;omega
 ·cases h
omit R hE in
theorem LX{ev:X->D}:∀(abs:List (Nat×Nat×X))(cs cs':List D),fill ev abs cs=some cs'->cs'.length=cs.length
 |[],cs,cs',h=>by simp only[fill,aA]at h;rw[h]
 |(off,sz,x)::abs,cs,cs',h=>by
  simp only[fill]at h;split at h
  ·split at h
   ·rename_i cs1 hl;rw[LX abs _ _ h,(E5 hl).2.1]
   ·cases h
  ·cases h
omit R in
theorem LW{place:Nat->Option (Nat×Nat)}:∀(l:List (Nat×Operand))(abs:List (Nat×Nat×X))(cs cs':List D)(arr:Array Value),
 (∀p q,(p,q)∈l.zip abs->place p.1=some (q.1,q.2.1)/\q.2.2=cX im p.2)->l.length=abs.length->
 fill (X.ev e) abs cs=some cs'->VRl im g μ w ok cs arr.toList->
 ∃z6K,Instr.fill place arr (l.map λp=>(p.1,a.eval p.2))=some z6K/\VRl im g μ w ok cs' z6K.toList:=by
 intro l
 induction l with
 |nil=>
  intro abs cs cs' arr hp hl h hv;cases abs with
  |nil=>simp only[fill,aA]at h;subst h;exact⟨arr,rfl,hv⟩
  |cons x xs=>simp at hl
 |cons p l ih=>
  intro abs cs cs' arr hp hl h hv;cases abs with
  |nil=>simp at hl
  |cons q abs=>
   obtain⟨off,sz,x⟩:=q;obtain⟨h1,h2⟩:=hp p (off,sz,x) fU;simp only at h1 h2;subst h2;simp only[fill]at h;split at h
   ·rename_i hc;simp only[aW,decide_eq_true_eq]at hc;obtain⟨hsz,z7t⟩:=hc;split at h
    ·rename_i cs1 z7g;obtain⟨hle,hlen,z6T⟩:=E5 z7g;have z6F:=Cu (ju hE p.2) z7t;have hvl:=j7 z6F;have hal:=j7 hv;simp only[d8]at hvl hal;obtain⟨f1,f2⟩:=R4 (a.eval p.2).cells.toList off 0 arr (by simp;omega);have z6z:Instr.fill place arr ((p::l).map λp=>(p.1,a.eval p.2))=
      Instr.fill place ((a.eval p.2).cells.zipIdx.foldl (λcs(x:Value×Nat)=>cs.setIfInBounds (off+x.2) x.1) arr) (l.map λp=>(p.1,a.eval p.2)):=by
      simp only[cC,Instr.fill,h1];rw[aG];simp only[dA,decide_eq_true_eq,not_or,Decidable.not_not];omega
     rw[z6z];have zcL:(a.eval p.2).cells.zipIdx.foldl (λcs(x:Value×Nat)=>cs.setIfInBounds (off+x.2) x.1) arr=((a.eval p.2).cells.toList.zipIdx 0).foldl (λcs(x:Value×Nat)=>cs.setIfInBounds (off+x.2) x.1) arr:=by
      rw[<-Array.foldl_toList,Array.toList_zipIdx]
     rw[zcL];refine ih abs cs1 cs' _ (λp' q' hm=>hp p' q' (by simp[hm])) (by simpa using hl) h (ky.2 ⟨?_,λj y hj=>?_⟩)
     ·simp only[d8];rw[f1,hlen];exact hal
     ·rw[z6T]at hj;simp only[dh];rw[f2 j];simp only[bO,d8];rw[show(a.eval p.2).cells.size=(lA (X.ev e (cX im p.2))).length from hvl];split at hj
      ·rename_i hr;rw[aF hr];exact(ky.1 z6F).2 _ _ hj
      ·rename_i hr;rw[aG hr];have:=(ky.1 hv).2 _ _ hj;simpa only[dh]using this
    ·cases h
   ·cases h
omit R hE in
theorem Nk{places:List (Nat×Nat)}:∀(l:List (Nat×Operand))(abs:List (Nat×Nat×X)),Gd im places l=some abs->
 l.length=abs.length/\∀p q,(p,q)∈l.zip abs->places.toArray[p.1]?=some (q.1,q.2.1)/\q.2.2=cX im p.2:=by
 intro l
 induction l with
 |nil=>intro abs h;simp only[Gd,aA]at h;subst h;exact⟨rfl,λp q h=>by simp at h⟩
 |cons p l ih=>
  intro abs h;obtain⟨i,x⟩:=p;simp only[Gd]at h;split at h
  ·rename_i f r hf hr;simp only[aA]at h;subst h;obtain⟨h1,h2⟩:=ih r hr;refine⟨by simp[h1],λp' q' hm=>?_⟩;simp only[List.zip_cons_cons,bh,aI]at hm;rcases hm with⟨rfl,rfl⟩|hm
   ·exact⟨by simpa using hf,rfl⟩
   ·exact h2 p' q' hm
  ·cases h
theorem Y7{t:TypeId}{parts:Array (Nat×Operand)}(ho:o.op=.build t parts):tJ P im g μ w ok okp base e a o nx:=by
 intro d bs h hf;rw[ho]at h;simp only[cOp]at h;split at h
 ·rename_i fs z hu hz;obtain⟨ti,hti,hz⟩:=uX hz;split at h
  ·rename_i places hp;split at h
   ·rename_i abs zfD;obtain⟨hlen,zee⟩:=Nk _ _ zfD;simp only[evA]at h;split at h
    ·rename_i cs hcs;simp only[aA,aI]at h;obtain⟨rfl,rfl⟩:=h;obtain⟨z6K,h1,h2⟩:=LW hE (place:=(places.toArray[·]?)) parts.toList abs (zc z) cs z.cells zee hlen hcs (MP z);refine iV R (s:=Instr.build t (parts.map λ(i,x)=>(i,a.eval x))) (v:=.agg z6K) (by simp only[execOp,ho]) (run_build w t _ _ ?_) (by simp only[VR];exact⟨z6K,rfl,h2⟩);simp only[Program.built,hti,hu,hz,hp];rw[Array.toList_map];exact h1
    ·cases h
   ·simp[evA]at h
  ·simp[evA]at h
 ·simp[evA]at h
omit R in
theorem Gh{t:TypeId}{len:Nat}{parts:Array (Nat×Operand)}(ho:o.op=.buildSlice t len parts){n:Nat}{zr:List D}{l:List (Nat×Nat×X)}(h:cOp P im o.op=.bsl n zr l){cs:List D}(hcs:fill (X.ev e) l (mf n zr)=some cs):
 n=len/\∃(z6K:Array Value)(el:TypeId),(execOp a.eval o).run P w=.ok (.value (.slice (some ⟨w.heap.size,0,none⟩) len len)) (w.alloc (.cells z6K el))/\VRl im g μ w ok cs z6K.toList/\z6K.size=len*zr.length:=by
 rw[ho]at h;simp only[cOp]at h;split at h
 ·rename_i el hu;split at h
  ·rename_i z hz;obtain⟨ti,hti,hz⟩:=uX hz;split at h
   ·rename_i hc;simp only[aW,decide_eq_true_eq,beq_iff_eq]at hc;obtain⟨⟨hsz,hzl⟩,z6W⟩:=hc;simp only[O.bsl.injEq]at h;obtain⟨rfl,rfl,rfl⟩:=h;rw[py hti]at hsz hzl z6W hcs;refine⟨rfl,?_⟩;have hz0:VRl im g μ w ok (mf len (zc z)) ((Array.range (len*ti.size)).map (z.cells[· %z.cells.size]!)).toList:=by
     refine ky.2 ⟨by simp[vk,hzl],λj x hj=>?_⟩;obtain⟨v,hv,hr⟩:=Cr (g:=g) (μ:=μ) (w:=w) (ok:=ok) (im:=im) (z:=z) (n:=len) (m:=len*ti.size) (by rw[hzl]) j x hj;exact⟨v,by simpa only[dh]using hv,hr⟩
    obtain⟨z6K,h1,h2⟩:=LW hE (place:=λi=>some (i*ti.size,ti.size)) parts.toList (parts.toList.map λp=>(p.1*ti.size,ti.size,cX im p.2)) (mf len (zc z)) cs _
     (λp q hm=>by
      obtain⟨i,hi⟩:=zmM.1 hm;rw[List.getElem?_zip_eq_some]at hi;obtain⟨i1,i2⟩:=hi;rw[af,i1]at i2;simp only[dT,aA]at i2;subst i2;exact⟨rfl,rfl⟩) fU hcs hz0
    have z6v:(Instr.buildSlice t len (parts.map λ(i,x)=>(i,a.eval x))).run P w=.ok (.slice (some ⟨w.heap.size,0,none⟩) len len) (w.alloc (.cells z6K el)):=by
     have hnb:¬(len*ti.size>2^24):=eP;have h1':Instr.fill (λi=>some (i*ti.size,ti.size)) ((Array.range (len*ti.size)).map (z.cells[· %z.cells.size]!)) (parts.map λ(i,x)=>(i,a.eval x)).toList=some z6K:=by
      rw[Array.toList_map];exact h1
     by_cases hq:len*ti.size=0
     ·have q1:∀f:Nat->Value,(Array.range 0).map f= #[]:=λf=>by simp
      rw[hq,q1]at h1';simp only[Instr.buildSlice,Sem.run_bind,gI hu,Result.andThen_ok,jQ hti,hq,q1,h1'];simp[vA]
     ·simp only[Instr.buildSlice,Sem.run_bind,gI hu,Result.andThen_ok,jQ hti,aG hnb,Sem.run_pure,aG hq,rG hti hz,h1',vA]
    have q1:=j7 h2;have q2:=LX _ _ _ hcs;rw[vk,hzl]at q2;simp only[d8]at q1;exact⟨z6K,el,by simp only[execOp,ho,Sem.run_bind,z6v,Result.andThen_ok];rfl,h2,by rw[hzl];omega⟩
   ·cases h
  ·cases h
 ·cases h
theorem Jw{t:TypeId}{len:Nat}{parts:Array (Nat×Operand)}(ho:o.op=.buildSlice t len parts):tJ P im g μ w ok okp base e a o nx:=by
 intro d bs h hf;cases hc:cOp P im o.op with
 |bsl n zr l=>
  rw[hc]at h;simp only[evA]at h;split at h
  ·rename_i cs hcs;simp only[aA,aI]at h;obtain⟨rfl,rfl⟩:=h;obtain⟨rfl,z6K,el,h1,h2,h3⟩:=Gh (w:=w) (g:=g) (μ:=μ) (ok:=ok) hE ho hc hcs;exact⟨_,_,.inl h1,Okv.new R (hf 0 fU) (fr:=(0,0)) rfl (.alloc _ _ _) (λo _=>by simp) (tk h2) (A0 (aC _) (aC _) (λ_=>rfl) (by rw[oR (heap_alloc_new w _),h3];omega))⟩
  ·cases h
 |bad=>rw[hc]at h;simp[evA]at h
 |_=>
  exfalso;rw[ho]at hc;simp only[cOp]at hc
  (repeat' split at hc)<;>cases hc
end
end
section
variable {P:Program} {im:Nat->Option Nat} {g:Nat->Option Blk} {μ:Nat->Nat×Nat} {w:World} {ok okp:Nat->Nat->Prop} {base:Nat} {e:Env} {a:Act} {o:Oper} {nx:Nat} {d:D} {bs:List Blk}
def N8:∀(k1:List Nat)(c1 d1:List D)(k2:List Nat)(c2 d2:List D),c1.length=k1.length->d1.length=k1.length->
 eqL (k1++k2) (c1++c2) (d1++d2)=match eqL k1 c1 d1 with
  |some true=>eqL k2 c2 d2
  |r=>r:=by
 intro k1
 induction k1 with
 |nil=>
  intro c1 d1 k2 c2 d2 h1 h2;have e1:c1=[]:=by simpa using h1
  have e2:d1=[]:=by simpa using h2
  subst e1 e2;rfl
 |cons k k1 ih=>
  intro c1 d1 k2 c2 d2 h1 h2;cases c1 with
  |nil=>simp at h1
  |cons c c1=>
   cases d1 with
   |nil=>simp at h2
   |cons d d1=>
    simp only[d9,eqL];cases eq1 k c d with
    |none=>rfl
    |some r=>
     cases r with
     |false=>rfl
     |true=>exact ih c1 d1 k2 c2 d2 (by simpa using h1) (by simpa using h2)
def Seg(im:Nat->Option Nat)(g:Nat->Option Blk)(μ:Nat->Nat×Nat)(w:World)(ok:Nat->Nat->Prop)(xs:Array Value)(off:Nat)(cs:List D):Prop:=
 ∀(j:Nat)(d:D),cs[j]?=some d->∃v,xs[off+j]?=some v/\VR im g μ w ok d v
def YM{t:TypeId}{td:TypeDesc}(hu:P.underlying t=some td){k:Nat}(hk:(td=.bool/\k=1)\/(∃i,td=.int i/\k=0)\/(td=.string/\k=2)){c d:D}{u v:Value}{r:Bool}
 (hc:VR im g μ w ok c u) (hd:VR im g μ w ok d v) (h:eq1 k c d=some r) (m:Nat):(Op.equalIn (m+1) t u v).run P w=.ok r w:=by
 rcases hk with⟨rfl,rfl⟩|⟨i,rfl,rfl⟩|⟨rfl,rfl⟩
 ·cases c<;>cases d<;>simp only[eq1]at h<;>try cases h
  simp only[VR]at hc hd;subst hc hd;exact run_equalIn_bool w m t _ _ hu
 ·cases c<;>cases d<;>simp only[eq1]at h<;>try cases h
  simp only[VR]at hc hd;subst hc hd;split at h
  ·rename_i hk;subst hk;simp only[aA]at h;subst h;exact run_equalIn_int w m t _ _ _ _ hu
  ·cases h
 ·have key:∀(x y:List UInt8),(Op.equalIn (m+1) t (.string ⟨x.toArray⟩) (.string ⟨y.toArray⟩)).run P w=.ok (x==y) w:=by
   intro x y;rw[run_equalIn_string w m t _ _ hu,Cw,Cw]
  unfold eq1 at h;split at h
  ·rename_i hh;cases hh
  ·rename_i hh;cases hh
  ·split at h
   ·rename_i x y;have e1:=wG (l:=fy x) rfl hc;have e2:=wG (l:=fy y) rfl hd;subst e1 e2;simp only[aA]at h;subst h;rw[key,yJ]
   ·split at h
    ·rename_i h1 h2;have e1:=wG h1 hc;have e2:=wG h2 hd;subst e1 e2;simp only[aA]at h;subst h;exact key _ _
    ·cases h
  ·cases h
def NL(w:World):∀(n:Nat)(t:TypeId)(ks:List Nat),yO P n t=some ks->ks.length=jS P t/\
 ∀(xs ys:Array Value)(off:Nat)(cs ds:List D)(r:Bool),Seg im g μ w ok xs off cs->Seg im g μ w ok ys off ds->cs.length=ks.length->ds.length=ks.length->eqL ks cs ds=some r->
  (∃u v,(part t xs off).run P w=.ok u w/\(part t ys off).run P w=.ok v w/\∀m,n<=m->(Op.equalIn m t u v).run P w=.ok r w)/\
  (∀m,off=0->(∃fs,P.underlying t=some (.struct fs))->n<=m->(Op.equalIn m t (.agg xs) (.agg ys)).run P w=.ok r w):=by
 intro n
 induction n with
 |zero=>intro t ks h;simp[yO]at h
 |succ n ih=>
  intro t ks h;have leaf:∀(td:TypeDesc)(k:Nat),P.underlying t=some td->((td=.bool/\k=1)\/(∃i,td=.int i/\k=0)\/(td=.string/\k=2))->jS P t=1->ks=[k]->ks.length=jS P t/\
   ∀(xs ys:Array Value)(off:Nat)(cs ds:List D)(r:Bool),Seg im g μ w ok xs off cs->Seg im g μ w ok ys off ds->cs.length=ks.length->ds.length=ks.length->eqL ks cs ds=some r->
    (∃u v,(part t xs off).run P w=.ok u w/\(part t ys off).run P w=.ok v w/\∀m,n+1<=m->(Op.equalIn m t u v).run P w=.ok r w)/\
    (∀m,off=0->(∃fs,P.underlying t=some (.struct fs))->n+1<=m->(Op.equalIn m t (.agg xs) (.agg ys)).run P w=.ok r w):=by
   intro td k hu hk hsz hks;subst hks;refine⟨by simp[hsz],λxs ys off cs ds r h1 h2 l1 l2 he=>?_⟩;obtain⟨c,rfl⟩:∃c,cs=[c]:=by
    match cs,l1 with
    |[c],_=>exact⟨c,rfl⟩
   obtain⟨d,rfl⟩:∃d,ds=[d]:=by
    match ds,l2 with
    |[d],_=>exact⟨d,rfl⟩
   obtain⟨u,hu1,hu2⟩:=h1 0 c rfl;obtain⟨v,hv1,hv2⟩:=h2 0 d rfl;simp only[bO]at hu1 hv1;have hag:Gt P t=false:=by
    simp only[Gt,hu];rcases hk with⟨rfl,_⟩|⟨i,rfl,_⟩|⟨rfl,_⟩<;>rfl
   have he1:eq1 k c d=some r:=by
    simp only[eqL]at he;cases hq:eq1 k c d with
    |none=>rw[hq]at he;cases he
    |some q=>rw[hq]at he;cases q<;>simp_all
   refine⟨⟨u,v,by simp[part,oe hu,hag,hu1],by simp[part,oe hu,hag,hv1],λm hm=>?_⟩,λm _ hs _=>?_⟩
   ·obtain⟨m,rfl⟩:∃q,m=q+1:=⟨m-1,eP⟩
    exact YM hu hk hu2 hv2 he1 m
   ·obtain⟨fs,hs⟩:=hs;rw[hu]at hs;cases hs;rcases hk with⟨h,_⟩|⟨i,h,_⟩|⟨h,_⟩<;>cases h
  simp only[yO]at h;split at h
  ·rename_i hu;split at h
   ·rename_i hs;simp only[aA]at h;exact leaf _ _ hu (.inl ⟨rfl,rfl⟩) hs h.symm
   ·cases h
  ·rename_i i hu;split at h
   ·rename_i hs;simp only[aA]at h;exact leaf _ _ hu (.inr (.inl ⟨i,rfl,rfl⟩)) hs h.symm
   ·cases h
  ·rename_i hu;split at h
   ·rename_i hs;simp only[aA]at h;exact leaf _ _ hu (.inr (.inr ⟨rfl,rfl⟩)) hs h.symm
   ·cases h
  ·rename_i fs hu;split at h
   ·cases h
   ·rename_i hst;split at h
    ·rename_i l hl;split at h
     ·rename_i hlen;simp only[aA]at h;subst h;refine⟨hlen,?_⟩;have hfo:P.fieldsOf t=fs:=by simp[Program.fieldsOf,hu]
      have z6N:P.stoodInHeld t=false:=by simpa using hst
      have fld:∀(fl:List Field)(pos:Nat)(l:List Nat),CX (yO P n) pos fl=some l->∀(xs ys:Array Value)(cs ds:List D)(r:Bool),
       Seg im g μ w ok xs pos cs->Seg im g μ w ok ys pos ds->cs.length=l.length->ds.length=l.length->eqL l cs ds=some r->∀m,n<=m->(Op.eqFields m xs ys fl).run P w=.ok r w:=by
       intro fl
       induction fl with
       |nil=>
        intro pos l hl xs ys cs ds r _ _ l1 l2 he m _;simp only[CX,aA]at hl;subst hl;have e1:cs=[]:=by simpa using l1
        have e2:ds=[]:=by simpa using l2
        subst e1 e2;simp only[eqL,aA]at he;subst he;simp[Op.eqFields]
       |cons f fl ihf=>
        intro pos l hl xs ys cs ds r s1 s2 l1 l2 he m hm;simp only[CX]at hl;split at hl
        ·cases hl
        ·rename_i zcl;split at hl
         ·cases hl
         ·rename_i zcg;simp only[ne_eq,Decidable.not_not]at zcg;split at hl
          ·rename_i k1 hk1;split at hl
           ·rename_i k2 hk2;simp only[aA]at hl;subst hl;simp only[aq]at l1 l2;have ec:cs=cs.take k1.length++cs.drop k1.length:=(bY _ _).symm;have ed:ds=ds.take k1.length++ds.drop k1.length:=(bY _ _).symm;have lc:(cs.take k1.length).length=k1.length:=by simp;omega
            have ld:(ds.take k1.length).length=k1.length:=by simp;omega
            rw[ec,ed,N8 _ _ _ _ _ _ lc ld]at he;have zbL:∀(zs:Array Value)(es:List D),Seg im g μ w ok zs pos es->Seg im g μ w ok zs pos (es.take k1.length):=λzs es hs j y hj=>by
             rw[cN]at hj;split at hj
             ·exact hs j y hj
             ·cases hj
            have zbN:∀(zs:Array Value)(es:List D),Seg im g μ w ok zs pos es->Seg im g μ w ok zs (pos+k1.length) (es.drop k1.length):=λzs es hs j y hj=>by
             rw[cA]at hj;obtain⟨v,h1,h2⟩:=hs _ y hj;exact⟨v,by rw[<-h1];congr 1;omega,h2⟩
            cases hq:eqL k1 (cs.take k1.length) (ds.take k1.length)with
            |none=>rw[hq]at he;cases he
            |some q=>
             obtain⟨⟨u,v,p1,p2,p3⟩,_⟩:=(ih f.type k1 hk1).2 xs ys pos _ _ q (zbL _ _ s1) (zbL _ _ s2) lc ld hq;rw[zcg.symm]at p1 p2;simp only[Op.eqFields];rw[aF zcl];simp only[Sem.run_bind,p1,p2,Result.andThen_ok,p3 m hm];rw[hq]at he;cases q with
             |false=>simp only[aA]at he;subst he;simp
             |true=>
              simp only[cw,bm,cP];exact ihf (pos+k1.length) k2 hk2 xs ys _ _ r (zbN _ _ s1) (zbN _ _ s2) (by simp;omega) (by simp;omega) he m hm
           ·cases hl
          ·cases hl
      intro xs ys off cs ds r s1 s2 l1 l2 he;have whole:∀m,n+1<=m->∀(xs ys:Array Value),Seg im g μ w ok xs 0 cs->Seg im g μ w ok ys 0 ds->(Op.equalIn m t (.agg xs) (.agg ys)).run P w=.ok r w:=by
       intro m hm xs ys s1 s2;obtain⟨m,rfl⟩:∃q,m=q+1:=⟨m-1,eP⟩
       rw[run_equalIn_struct w m t xs ys (by rw[hfo];exact hu) z6N,hfo];exact fld fs.toList 0 l hl xs ys cs ds r s1 s2 l1 l2 he m eP
      have hag:Gt P t=true:=by simp[Gt,hu]
      obtain⟨ti,hti⟩:=qH hu;have zbM:∀(zs:Array Value)(es:List D),es.length=l.length->Seg im g μ w ok zs off es->Seg im g μ w ok (zs.extract off (off+ti.size)) 0 es:=λzs es hel hs j y hj=>by
       obtain⟨v,h1,h2⟩:=hs j y hj;refine⟨v,?_,h2⟩;have hb:off+j<zs.size:=(bu.1 h1).1;have hj2:j<es.length:=(ak.1 hj).1;rw[hel,hlen,py hti]at hj2;rw[aN,Array.getElem?_extract,aF eP];exact h1
      refine⟨⟨_,_,by simp[part,oe hu,hag,jQ hti],by simp[part,oe hu,hag,jQ hti],λm hm=>whole m hm _ _ (zbM _ _ l1 s1) (zbM _ _ l2 s2)⟩,λm h0 _ hm=>?_⟩;subst h0;exact whole m hm xs ys s1 s2
     ·cases h
    ·cases h
  ·cases h
section
variable (R:Rel im g μ w ok okp base) (hE:ry im g μ w ok e a.tmps)
include R hE
theorem ZK{op:BinOp}{t yt:TypeId}{x y:Operand}{neg:Bool}{ks:List Nat}{fs:Array Field}(ho:o.op=.binOp op t x y yt)(hc:cOp P im o.op=.eqs neg ks (cX im x) (cX im y))
 (hu:P.underlying t=some (.struct fs)) (hop:(op=.eql/\neg=false)\/(op=.neq/\neg=true)) (hg:P.eqGuardType P.depth t=false) (hk:yO P 8 t=some ks):tJ P im g μ w ok okp base e a o nx:=by
 intro d bs h hf;rw[hc]at h;simp only[evA]at h;split at h
 ·rename_i cs ds hp hq;split at h
  ·rename_i hl;simp only[aW,decide_eq_true_eq]at hl;split at h
   ·rename_i r hr;simp only[aA,aI]at h;obtain⟨rfl,rfl⟩:=h;have h1:=ju hE x;have h2:=ju hE y;rw[hp]at h1;rw[hq]at h2;simp only[VR]at h1 h2;obtain⟨xs,e1,v1⟩:=h1;obtain⟨ys,e2,v2⟩:=h2;obtain⟨hlen,z7i⟩:=NL (P:=P) (im:=im) (g:=g) (μ:=μ) (ok:=ok) w 8 t ks hk;have seg:∀(zs:Array Value)(es:List D),VRl im g μ w ok es zs.toList->Seg im g μ w ok zs 0 es:=λzs es hv j d hj=>by
     rw[aN];exact tk hv j d hj
    have heq:=(z7i xs ys 0 cs ds r (seg _ _ v1) (seg _ _ v2) hl.1 hl.2 hr).2 10000 rfl ⟨fs,hu⟩ eP;have hgd:(eqGuard op t x y (.agg xs) (.agg ys)).run P w=.ok () w:=run_eqGuard_agg w op t x y xs ys hg;rcases hop with⟨rfl,rfl⟩|⟨rfl,rfl⟩
    ·refine iV (v:=.bool r) R (s:=do eqGuard .eql t x y (a.eval x) (a.eval y);binOp .eql t (a.eval x) (a.eval y)) (by simp only[execOp,ho]) ?_ (by simp[VR]);rw[e1,e2];simp only[Sem.run_bind,hgd,Result.andThen_ok,run_eql_struct,heq]
    ·refine iV (v:=.bool (!r)) R (s:=do eqGuard .neq t x y (a.eval x) (a.eval y);binOp .neq t (a.eval x) (a.eval y)) (by simp only[execOp,ho]) ?_ (by simp[VR]);rw[e1,e2];simp only[Sem.run_bind,hgd,Result.andThen_ok,run_neq_struct,heq]
   ·cases h
  ·cases h
 ·cases h
omit R hE in
theorem YD{fn:Func}(hn:fn.name= "math/bits.Add64")(hor:fn.origin= ""):Extern.findNext fn=none/\Extern.find fn=some add64Entry:=by
 have a1:Extern.allNextRows.lookup "math/bits.Add64" =none:=eX;have a2:Extern.allNextRows.lookup "" =none:=eX;have a3:Extern.allGenericRows.lookup "math/bits.Add64" =none:=eX;have a4:Extern.allTypedRows.lookup "math/bits.Add64" =none:=eX;have a5:Extern.allRows.lookup "math/bits.Add64" =some add64Entry:=eX;simp[Extern.findNext,Extern.find,hn,hor,a1,a2,a3,a4,a5]
def xz:Array Value->Sem Value:=λargs=>do
 let (x,y,b)<-Extern.MathBitsCarry.three "Sub64" args
 pure (Extern.MathBitsCarry.pair ((x+Extern.MathBitsCarry.m64-y-b)%Extern.MathBitsCarry.m64) (if x<y+b then 1 else 0))
omit R hE in
theorem YC{fn:Func}(hn:fn.name= "math/bits.Sub64")(hor:fn.origin= ""):Extern.findNext fn=none/\Extern.find fn=some xz:=by
 have a1:Extern.allNextRows.lookup "math/bits.Sub64" =none:=eX;have a2:Extern.allNextRows.lookup "" =none:=eX;have a3:Extern.allGenericRows.lookup "math/bits.Sub64" =none:=eX;have a4:Extern.allTypedRows.lookup "math/bits.Sub64" =none:=eX;have a5:Extern.allRows.lookup "math/bits.Sub64" =some xz:=eX;simp[Extern.findNext,Extern.find,hn,hor,a1,a2,a3,a4,a5]
omit R hE in
theorem Hd(name:String)(p q c:Int)(hle:c.toNat<=1):(Extern.MathBitsCarry.three name #[.int .u64 p,.int .u64 q,.int .u64 c]).run P w=.ok (p.toNat,q.toNat,c.toNat) w:=by
 have h3:Extern.MathBitsCarry.three name #[.int .u64 p,.int .u64 q,.int .u64 c]=(do
  let c':=(<-asInt (.int .u64 c)).toNat
  if c'>1 then unsupported (.noEntry ("extern/math/bits." ++name++ ": a carry that is neither 0 nor 1"))
  pure ((<-asInt (.int .u64 p)).toNat,(<-asInt (.int .u64 q)).toNat,c')):=rfl
 rw[h3];have:¬(c.toNat>1):=eP;simp only[Sem.run_bind,asInt,asIntOf,Sem.run_pure,Result.andThen_ok,aG this]
theorem Y9{F:FuncId}{ts:Array TypeId}{x y z:Operand}{fn:Func}(ho:o.op=.call ⟨.value (.func F),#[x,y,z],ts⟩)(hF:P.funcs[F]?=some fn)(hb:fn.body.isNone=true)(hor:fn.origin= "")(hn:fn.name= "math/bits.Add64")
 (hc:cOp P im o.op=.add64 (cX im x) (cX im y) (cX im z)):tJ P im g μ w ok okp base e a o nx:=by
 intro d bs h hf;rw[hc]at h;simp only[evA]at h;split at h
 ·rename_i p q c hp hq hcc;split at h
  ·rename_i hle;simp only[aA,aI]at h;obtain⟨rfl,rfl⟩:=h;have e1:=ui R hE (d:=.u) (v:=undef) (n:=0) hp;have e2:=ui R hE (d:=.u) (v:=undef) (n:=0) hq;have e3:=ui R hE (d:=.u) (v:=undef) (n:=0) hcc;obtain⟨f1,f2⟩:=YD (fn:=fn) hn hor;have hne:¬((fn.name== "runtime.NumGoroutine")=true):=by rw[hn];decide
   have z6v:(add64Entry #[.int .u64 p,.int .u64 q,.int .u64 c]).run P w=.ok (Extern.MathBitsCarry.pair ((p.toNat+q.toNat+c.toNat)%Extern.MathBitsCarry.m64) ((p.toNat+q.toNat+c.toNat)/Extern.MathBitsCarry.m64)) w:=by
    simp only[add64Entry,Sem.run_bind,Hd _ _ _ _ hle,Result.andThen_ok,Sem.run_pure]
   have z8o:(callFunc F #[.int .u64 p,.int .u64 q,.int .u64 c]).run P w=.ok (.value (Extern.MathBitsCarry.pair ((p.toNat+q.toNat+c.toNat)%Extern.MathBitsCarry.m64) ((p.toNat+q.toNat+c.toNat)/Extern.MathBitsCarry.m64))) w:=by
    simp only[callFunc,Sem.run_bind,run_program,Result.andThen_ok,hF,aG hne,hb,bf,f1,f2,run_mark,z6v,Sem.run_pure]
   refine⟨_,w,.inl (?_:_=Result.ok (Next.value (Extern.MathBitsCarry.pair ((p.toNat+q.toNat+c.toNat)%Extern.MathBitsCarry.m64) ((p.toNat+q.toNat+c.toNat)/Extern.MathBitsCarry.m64))) w),.same R (d:=.tup _) ?_⟩
   ·simp only[execOp,ho,resolve,Act.eval,Deferred.ofValue,Sem.run_bind,Sem.run_pure,Result.andThen_ok,invoke];have z79:(#[]:Array Value)++(#[x,y,z]:Array Operand).map a.eval++ #[]= #[.int .u64 p,.int .u64 q,.int .u64 c]:=by simp[e1,e2,e3]
    rw[z79];exact z8o
   ·simp only[VR,Extern.MathBitsCarry.pair,Extern.MathBitsCarry.m64];exact⟨_,rfl,by simp[VRl,VR]⟩
  ·cases h
 ·cases h
theorem Y3{F:FuncId}{ts:Array TypeId}{x y z:Operand}{fn:Func}(ho:o.op=.call ⟨.value (.func F),#[x,y,z],ts⟩)(hF:P.funcs[F]?=some fn)(hb:fn.body.isNone=true)(hor:fn.origin= "")(hn:fn.name= "math/bits.Sub64")
 (hc:cOp P im o.op=.sub64 (cX im x) (cX im y) (cX im z)):tJ P im g μ w ok okp base e a o nx:=by
 intro d bs h hf;rw[hc]at h;simp only[evA]at h;split at h
 ·rename_i p q c hp hq hcc;split at h
  ·rename_i hle;simp only[aA,aI]at h;obtain⟨rfl,rfl⟩:=h;have e1:=ui R hE (d:=.u) (v:=undef) (n:=0) hp;have e2:=ui R hE (d:=.u) (v:=undef) (n:=0) hq;have e3:=ui R hE (d:=.u) (v:=undef) (n:=0) hcc;obtain⟨f1,f2⟩:=YC (fn:=fn) hn hor;have hne:¬((fn.name== "runtime.NumGoroutine")=true):=by rw[hn];decide
   have z6v:(xz #[.int .u64 p,.int .u64 q,.int .u64 c]).run P w=.ok (Extern.MathBitsCarry.pair ((p.toNat+Extern.MathBitsCarry.m64-q.toNat-c.toNat)%Extern.MathBitsCarry.m64) (if p.toNat<q.toNat+c.toNat then 1 else 0)) w:=by
    simp only[xz,Sem.run_bind,Hd _ _ _ _ hle,Result.andThen_ok,Sem.run_pure]
   have z8o:(callFunc F #[.int .u64 p,.int .u64 q,.int .u64 c]).run P w=.ok (.value (Extern.MathBitsCarry.pair ((p.toNat+Extern.MathBitsCarry.m64-q.toNat-c.toNat)%Extern.MathBitsCarry.m64) (if p.toNat<q.toNat+c.toNat then 1 else 0))) w:=by
    simp only[callFunc,Sem.run_bind,run_program,Result.andThen_ok,hF,aG hne,hb,bf,f1,f2,run_mark,z6v,Sem.run_pure]
   refine⟨_,w,.inl (?_:_=Result.ok (Next.value (Extern.MathBitsCarry.pair ((p.toNat+Extern.MathBitsCarry.m64-q.toNat-c.toNat)%Extern.MathBitsCarry.m64) (if p.toNat<q.toNat+c.toNat then 1 else 0))) w),.same R (d:=.tup _) ?_⟩
   ·simp only[execOp,ho,resolve,Act.eval,Deferred.ofValue,Sem.run_bind,Sem.run_pure,Result.andThen_ok,invoke];have z79:(#[]:Array Value)++(#[x,y,z]:Array Operand).map a.eval++ #[]= #[.int .u64 p,.int .u64 q,.int .u64 c]:=by simp[e1,e2,e3]
    rw[z79];exact z8o
   ·simp only[VR,Extern.MathBitsCarry.pair,Extern.MathBitsCarry.m64];exact⟨_,rfl,by simp[VRl,VR]⟩
  ·cases h
 ·cases h
theorem QP{op:BinOp}{t yt el:TypeId}{x y:Operand}{neg:Bool}(ho:o.op=.binOp op t x y yt)(hc:cOp P im o.op=.isnil neg (cX im x))
 (hu:P.underlying t=some (.slice el)) (hop:(op=.eql/\neg=false)\/(op=.neq/\neg=true)) (hy:XF y=true):tJ P im g μ w ok okp base e a o nx:=by
 intro d bs h hf;rw[hc]at h;simp only[evA]at h;have hx:=ju hE x;have ey:a.eval y=.slice none 0 0:=by
  cases y with
  |const v=>
   simp only[XF,z2J]at hy;split at hy
   ·rfl
   ·cases hy
  |_=>cases hy
 have key:∀(ad:Addr)(l c:Nat),a.eval x=.slice (some ad) l c->zF im g μ w ok okp base g (.b neg) ((execOp a.eval o).run P w):=by
  intro ad l c hv;have hg:∀op,(eqGuard op t x y (.slice (some ad) l c) (.slice none 0 0)).run P w=.ok () w:=λop=>by cases op<;>simp[eqGuard]
  have h1:=run_equal_slice_nil (P:=P) w t el (some ad) l c hu;rcases hop with⟨rfl,rfl⟩|⟨rfl,rfl⟩
  ·refine iV (nx:=nx) (v:=.bool false) R (s:=do eqGuard .eql t x y (a.eval x) (a.eval y);binOp .eql t (a.eval x) (a.eval y)) (by simp only[execOp,ho]) ?_ (by simp[VR]);rw[hv,ey];simp only[Sem.run_bind,hg,Result.andThen_ok];simp[binOp,h1]
  ·refine iV (nx:=nx) (v:=.bool true) R (s:=do eqGuard .neq t x y (a.eval x) (a.eval y);binOp .neq t (a.eval x) (a.eval y)) (by simp only[execOp,ho]) ?_ (by simp[VR]);rw[hv,ey];simp only[Sem.run_bind,hg,Result.andThen_ok];simp[binOp,h1]
 split at h
 ·rename_i l off len cm z ex hd;split at h
  ·rename_i b hb;split at h
   ·rename_i hl;simp only[aA,aI]at h;obtain⟨rfl,rfl⟩:=h;rw[hd]at hx;simp only[VR]at hx;obtain⟨b',p,cap,hb',hv,hk⟩:=hx;rw[hb]at hb';simp only[aA]at hb';subst hb';obtain⟨_,rfl,_⟩:=hk hl;exact key _ _ _ hv
   ·cases h
  ·cases h
 ·rename_i cs len ex hd;split at h
  ·cases h
  ·rename_i c cs';simp only[aA,aI]at h;obtain⟨rfl,rfl⟩:=h;rw[hd]at hx;simp only[VR,TR]at hx;obtain⟨p,cap,hv,_,_,hk⟩:=hx;obtain⟨ad,rfl,_⟩:=hk fU;exact key _ _ _ hv
 ·cases h
theorem mE(hc:evA nx (X.ev e) g (cOp P im o.op)=none):tJ P im g μ w ok okp base e a o nx:=by
 intro d bs h hf;rw[hc]at h;cases h
theorem IT:tJ P im g μ w ok okp base e a o nx:=by
 cases ho:o.op with
 |move x=>exact z1J R hE ho
 |assign x=>exact WD R hE ho
 |pick c x y=>exact z1I R hE ho
 |alloc t=>exact Y8 R hE ho
 |box t x=>exact z3E R hE ho
 |build t ps=>exact Y7 R hE ho
 |buildSlice t n ps=>exact Jw R hE ho
 |load t x=>exact z1K R hE ho
 |nilCheck x=>exact Nq R hE ho
 |unOp op t x=>exact z1H R hE ho
 |convert s t x=>exact Rv R hE ho
 |makeFunc f x y=>exact Nr R hE ho
 |makeSlice t l c=>exact Lz R hE ho
 |slice t x l h m=>exact Y4 R hE ho
 |fieldAddr s x f=>exact MC R hE ho
 |field s x f=>exact Y6 R hE ho
 |indexAddr t x i=>exact MA R hE ho
 |index t x i=>exact Y5 R hE ho
 |extract x i=>exact Ru R hE ho
 |store t x y=>
  refine mE R hE ?_;rw[ho];simp only[cOp];split<;>rfl
 |binOp op t x y yt=>
  have hc:∀q,cOp P im (.binOp op t x y yt)=q->cOp P im o.op=q:=λq h=>by rw[ho];exact h
  cases hu:P.underlying t with
  |none=>refine mE R hE ?_;rw[ho];simp only[cOp,hu];rfl
  |some td=>
   cases td with
   |bool=>exact z1M R hE ho (hc _ (by simp only[cOp,hu])) hu
   |string=>exact ZL R hE ho (hc _ (by simp only[cOp,hu]))
   |int k=>exact ZL R hE ho (hc _ (by simp only[cOp,hu]))
   |struct fs=>
    by_cases hg:P.eqGuardType P.depth t=true
    ·refine mE R hE ?_;rw[ho];cases op<;>simp[cOp,hu,hg,evA]
    ·cases hk:yO P 8 t with
     |none=>
      refine mE R hE ?_;rw[ho];cases op<;>simp[cOp,hu,hg,hk,evA]
     |some ks=>
      have hg':P.eqGuardType P.depth t=false:=by simpa using hg
      cases op
      case eql=>exact ZK R hE ho (hc _ (by simp only[cOp,hu,hg',hk];rfl)) hu (.inl ⟨rfl,rfl⟩) hg' hk
      case neq=>exact ZK R hE ho (hc _ (by simp only[cOp,hu,hg',hk];rfl)) hu (.inr ⟨rfl,rfl⟩) hg' hk
      all_goals (refine mE R hE ?_;rw[ho];simp[cOp,hu,evA])
   |slice el=>
    by_cases hn:XF y=true
    ·cases op
     case eql=>exact QP R hE ho (hc _ (by simp only[cOp,hu,hn];rfl)) hu (.inl ⟨rfl,rfl⟩) hn
     case neq=>exact QP R hE ho (hc _ (by simp only[cOp,hu,hn];rfl)) hu (.inr ⟨rfl,rfl⟩) hn
     all_goals (refine mE R hE ?_;rw[ho];simp[cOp,hu,hn,evA])
    ·refine mE R hE ?_;rw[ho];simp[cOp,hu,hn,evA]
   |_=>refine mE R hE ?_;rw[ho];simp only[cOp,hu];rfl
 |call c=>
  have bad:evA nx (X.ev e) g .bad=none:=rfl;obtain⟨cal,args,tys⟩:=c;cases cal with
  |invoke r m=>refine mE R hE ?_;rw[ho];rfl
  |value f=>
   cases f with
   |func F=>
    cases hF:P.funcs[F]?with
    |none=>refine mE R hE ?_;rw[ho];simp only[cOp,ij,hF];rfl
    |some fn=>
     by_cases hb:(fn.body.isNone&&fn.origin== "")=true
     ·have hb':=hb;simp only[aW,beq_iff_eq]at hb';obtain⟨hb1,hor⟩:=hb';by_cases h1:(fn.name== "math/bits.Add64")=true
      ·have hc0:cOp P im o.op=match args.toList with
        |[x,y,z]=>.add64 (cX im x) (cX im y) (cX im z)
        |_=>.bad:=by rw[ho];simp only[cOp,ij,hF,aF hb,aF h1]<;>rfl
       match hal:args.toList,hc0 with
       |[x,y,z],hc0=>
        have:args= #[x,y,z]:=by obtain⟨l⟩:=args;simp at hal;subst hal;rfl
        subst this;exact Y9 R hE ho hF hb1 hor (by simpa using h1) hc0
       |[],hc0=>exact mE R hE (by rw[hc0];rfl)
       |[x],hc0=>exact mE R hE (by rw[hc0];rfl)
       |[x,y],hc0=>exact mE R hE (by rw[hc0];rfl)
       |x::y::z::q::r,hc0=>exact mE R hE (by rw[hc0];rfl)
      ·by_cases h2:(fn.name== "math/bits.Sub64")=true
       ·have hc0:cOp P im o.op=match args.toList with
         |[x,y,z]=>.sub64 (cX im x) (cX im y) (cX im z)
         |_=>.bad:=by rw[ho];simp only[cOp,ij,hF,aF hb,aG h1,aF h2]<;>rfl
        match hal:args.toList,hc0 with
        |[x,y,z],hc0=>
         have:args= #[x,y,z]:=by obtain⟨l⟩:=args;simp at hal;subst hal;rfl
         subst this;exact Y3 R hE ho hF hb1 hor (by simpa using h2) hc0
        |[],hc0=>exact mE R hE (by rw[hc0];rfl)
        |[x],hc0=>exact mE R hE (by rw[hc0];rfl)
        |[x,y],hc0=>exact mE R hE (by rw[hc0];rfl)
        |x::y::z::q::r,hc0=>exact mE R hE (by rw[hc0];rfl)
       ·refine mE R hE ?_;rw[ho];simp only[cOp,ij,hF,aF hb,aG h1,aG h2]<;>rfl
     ·refine mE R hE ?_;rw[ho];simp only[cOp,ij,hF,aG hb];split<;>rfl
   |tmp t=>refine mE R hE ?_;rw[ho];rfl
   |const v=>refine mE R hE ?_;rw[ho];rfl
   |global n=>refine mE R hE ?_;rw[ho];rfl
  |builtin b=>
   cases b
   case len=>
    match hal:args.toList,htl:tys.toList with
    |[x],[t]=>
     have e1:args= #[x]:=by obtain⟨l⟩:=args;simp at hal;subst hal;rfl
     have e2:tys= #[t]:=by obtain⟨l⟩:=tys;simp at htl;subst htl;rfl
     subst e1 e2;cases hu:P.underlying t with
     |none=>refine mE R hE ?_;rw[ho];simp[cOp,ij,hu,evA]
     |some td=>
      cases td with
      |string=>exact z1L R hE ho hu (by rw[ho];simp[cOp,ij,hu])
      |slice el=>exact z3D R hE ho hu (by rw[ho];simp[cOp,ij,hu])
      |_=>refine mE R hE ?_;rw[ho];simp[cOp,ij,hu,evA]
    |[],_=>refine mE R hE ?_;rw[ho];simp[cOp,ij,hal,evA]
    |x::y::r,_=>refine mE R hE ?_;rw[ho];simp[cOp,ij,hal,evA]
    |[x],[]=>refine mE R hE ?_;rw[ho];simp[cOp,ij,hal,htl,evA]
    |[x],t::u::r=>refine mE R hE ?_;rw[ho];simp[cOp,ij,hal,htl,evA]
   case max=>
    match hal:args.toList with
    |[x,y]=>
     have e1:args= #[x,y]:=by obtain⟨l⟩:=args;simp at hal;subst hal;rfl
     subst e1;exact z3C R hE ho (by rw[ho];simp[cOp,ij])
    |[]=>refine mE R hE ?_;rw[ho];simp[cOp,ij,hal,evA]
    |[x]=>refine mE R hE ?_;rw[ho];simp[cOp,ij,hal,evA]
    |x::y::z::r=>refine mE R hE ?_;rw[ho];simp[cOp,ij,hal,evA]
   case min=>
    match hal:args.toList with
    |[x,y]=>
     have e1:args= #[x,y]:=by obtain⟨l⟩:=args;simp at hal;subst hal;rfl
     subst e1;exact z3B R hE ho (by rw[ho];simp[cOp,ij])
    |[]=>refine mE R hE ?_;rw[ho];simp[cOp,ij,hal,evA]
    |[x]=>refine mE R hE ?_;rw[ho];simp[cOp,ij,hal,evA]
    |x::y::z::r=>refine mE R hE ?_;rw[ho];simp[cOp,ij,hal,evA]
   all_goals
    refine mE R hE ?_;rw[ho];simp only[cOp,ij]
    (repeat' split)<;>first|rfl|(exfalso;simp_all;done)
 |_=>refine mE R hE ?_;rw[ho];simp only[cOp];rfl
end
end
section
variable {P:Program} {im:Nat->Option Nat} {μ:Nat->Nat×Nat} {w:World} {ok okp:Nat->Nat->Prop} {base:Nat} {e:Env} {a:Act} {o:Oper} {d:D} {σ:Sto}
def EO{w:World}{b o:Nat}{cur:Array Value}{el:TypeId}{fr:Nat×Nat}(v:Value)(hb:w.heap[b]?=some (.cells cur el fr)):
 (w.setCell ⟨b,o,none⟩ v).heap[b]?=some (.cells (cur.setIfInBounds o v) el fr):=by
 simp[World.setCell,Array.getElem?_modify,hb]
def se(b o:Nat)(el:TypeId)(fr:Nat×Nat):∀(vs:List Value)(i:Nat)(cur:Array Value)(w:World),w.heap[b]?=some (.cells cur el fr)->
 (∀k,k<cur.size->¬(fr.1<=k/\k<fr.2))->o+i+vs.length<=cur.size->(∀v∈vs,v.oneCell'=true)->
 ∃w' z7W,(storeCells ⟨b,o,none⟩ vs i).run P w=.ok () w'/\w'.heap[b]?=some (.cells z7W el fr)/\z7W.size=cur.size/\
  (∀k,z7W[k]?=if o+i<=k/\k<o+i+vs.length then vs[k-(o+i)]?else cur[k]?)/\(∀k,k≠b->w'.heap[k]?=w.heap[k]?)/\w'.heap.size=w.heap.size/\Same w w':=by
 intro vs
 induction vs with
 |nil=>
  intro i cur w hb hf hl h1;exact⟨w,cur,by simp[storeCells],hb,rfl,λk=>by rw[aG (by simp only[dV];omega)],λ_ _=>rfl,rfl,.refl _⟩
 |cons v vs ih=>
  intro i cur w hb hf hl h1;simp only[ah]at hl;have z6D:w.cell? ⟨b,o+i,none⟩=some (cur[o+i]' eP):=by
   simp[World.cell?,hb]
  have hfr:w.frozen? ⟨b,o+i,none⟩=false:=by
   have:=hf (o+i) eP;simp only[World.frozen?,hb];cases hq:(decide (fr.1<=o+i)&&decide (o+i<fr.2))with
   |false=>rfl
   |true=>simp only[aW,decide_eq_true_eq]at hq;exact absurd hq this
  have zfB:(⟨b,o,none⟩:Addr).add i=⟨b,o+i,none⟩:=Addr.add_eq rfl i;have hst:(store ⟨b,o+i,none⟩ v).run P w=.ok () (w.setCell ⟨b,o+i,none⟩ v):=by
   rw[run_store P w _ v _ (h1 v fU)];simp[z6D,hfr]
  obtain⟨w',z7W,r1,r2,r3,r4,r5,r6,r7⟩:=ih (i+1) (cur.setIfInBounds (o+i) v) (w.setCell ⟨b,o+i,none⟩ v) (EO v hb) (λk hk=>hf k (by simpa using hk)) (by simp;omega) (λu hu=>h1 u (by simp[hu]));refine⟨w',z7W,?_,r2,by rw[r3];simp,λk=>?_,λk hk=>by rw[r5 k hk,heap_setCell_other _ _ _ _ hk],by rw[r6];simp,(Same.setCell _ _ _).trans r7⟩
  ·simp only[storeCells,Sem.run_bind,zfB,hst,Result.andThen_ok,r1]
  ·rw[r4 k];simp only[ah];by_cases hk:k=o+i
   ·subst hk;rw[aG eP,aF eP,zmn eP];simp
   ·by_cases hk2:o+i<=k/\k<o+i+(vs.length+1)
    ·rw[aF eP,aF hk2,show k-(o+i)=(k-(o+(i+1)))+1 by omega];simp
    ·rw[aG eP,aG hk2,dR eP]
def get_put(σ:Sto)(l:Nat)(b:Blk):(σ.put l b).get=upd σ.get l (some b):=by
 funext m;rw[Sto.get_put];rfl
def get_add1(σ:Sto)(b:Blk):(σ.adds [b]).get=upd σ.get σ.nx (some b):=by
 funext m;rw[Sto.get_add1];rfl
def og{s:Stt}(h:s.wr=true):s.live=true:=by cases s<;>simp_all [Stt.wr,Stt.live]
def z0I{g:Nat->Option Blk}{off:Nat}{new cs r:List D}(h:lay off new cs=some r){o:Nat}{nv:List Value}{arr cur:Array Value}
 (hn:VRl im g μ w ok new nv) (ho:∀(j:Nat)(y:D),cs[j]?=some y->∃v,cur[o+j]?=some v/\VR im g μ w ok y v)
 (ha:∀k,arr[k]?=if o+off<=k/\k<o+off+nv.length then nv[k-(o+off)]?else cur[k]?):
 ∀(j:Nat)(y:D),r[j]?=some y->∃v,arr[o+j]?=some v/\VR im g μ w ok y v:=by
 obtain⟨hle,hlen,z6T⟩:=E5 h;have hnl:=j7 hn;intro j y hj;rw[z6T]at hj;rw[ha];split at hj
 ·rename_i hr;obtain⟨v,h1,h2⟩:=(ky.1 hn).2 _ _ hj;exact⟨v,by rw[aF eP,show o+j-(o+off)=j-off by omega];exact h1,h2⟩
 ·rename_i hr;obtain⟨v,h1,h2⟩:=ho j y hj;exact⟨v,by rw[aG eP];exact h1,h2⟩
def xh{g:Nat->Option Blk}{b:Nat}{o:Nat}{cs:List D}{cur:Array Value}{el:TypeId}{fr:Nat×Nat}(h:VRc im g μ w ok cs b o)(hb:w.heap[b]?=some (.cells cur el fr)):
 ∀(j:Nat)(y:D),cs[j]?=some y->∃v,cur[o+j]?=some v/\VR im g μ w ok y v:=by
 intro j y hj;obtain⟨v,h1,h2⟩:=AZ h hj;exact⟨v,by simpa[World.cell?,hb]using h1,h2⟩
def WF{g:Nat->Option Blk}{b o:Nat}{cs:List D}{cur:Array Value}{el:TypeId}{fr:Nat×Nat}(h:VRc im g μ w ok cs b o)(hb:w.heap[b]?=some (.cells cur el fr)):cs.length=0\/o+cs.length<=cur.size:=by
 rcases bT cs.length with h0|h0
 ·exact .inl h0
 ·right;obtain⟨v,h1,_⟩:=xh h hb (cs.length-1) (cs[cs.length-1]' eP) (aE _);have:=(bu.1 h1).1;omega
def AE{l:Nat}{b:Blk}(R:Rel im σ.get μ w ok okp base)(hl:σ.get l=some b)(hw:b.st.wr=true){off:Nat}{new cs:List D}(z7g:lay off new b.cs=some cs){nv:List Value}
 (hn:VRl im σ.get μ w ok new nv) (h1:∀v∈nv,v.oneCell'=true):
 ∃w',(storeCells ⟨(μ l).1,(μ l).2+off,none⟩ nv).run P w=.ok () w'/\Rel im (σ.put l ⟨cs,.rw⟩).get μ w' ok okp base/\Stp σ.get μ w ok (σ.put l ⟨cs,.rw⟩).get μ w' ok base:=by
 obtain⟨⟨cur,el,fr,hb,hfr⟩,hvc⟩:=R.blk l b hl (og hw);obtain⟨hle,hlen,z6T⟩:=E5 z7g;have hnl:=j7 hn;have hsz:=WF hvc hb;by_cases hz:nv=[]
 ·subst hz;have hz':new.length=0:=by simpa using hnl.symm
  refine⟨w,by simp[storeCells],?_⟩;rw[get_put];refine R.write hl hw hb hfr (λ_ _=>rfl) rfl (oR hb).symm (.refl _) (λj y hj=>?_);rw[z6T,aG eP]at hj;exact xh hvc hb j y hj
 ·have z6W:0<nv.length:=az.2 hz;obtain⟨w',z7W,r1,r2,r3,r4,r5,r6,r7⟩:=se (P:=P) (μ l).1 ((μ l).2+off) el fr nv 0 cur w hb hfr eP h1;refine⟨w',r1,?_⟩;rw[get_put];exact R.write hl hw r2 (λo ho=>hfr o eP) r5 r6 (by rw[r3,oR hb]) r7 (z0I z7g hn (xh hvc hb) (by simpa using r4))
def Ic(P:Program)(im:Nat->Option Nat)(μ:Nat->Nat×Nat)(w:World)(ok okp:Nat->Nat->Prop)(base:Nat)(e:Env)(a:Act)(o:Oper)(σ:Sto):Prop:=
 ∀d σ',evW (X.ev e) σ (cOp P im o.op)=some (d,σ')->zF im σ.get μ w ok okp base σ'.get d ((execOp a.eval o).run P w)
section
variable (R:Rel im σ.get μ w ok okp base) (hE:ry im σ.get μ w ok e a.tmps) (z6b:σ.get σ.nx=none)
include R hE z6b
theorem WX{t:TypeId}{x y:Operand}(ho:o.op=.store t x y):Ic P im μ w ok okp base e a o σ:=by
 intro d σ' h;rw[ho]at h;simp only[cOp]at h;split at h
 ·simp[evW]at h
 ·rename_i ti hti;simp only[evW]at h;split at h
  ·rename_i l off hd;have hx:=ju hE x;rw[hd]at hx;simp only[VR]at hx;obtain⟨b,p,hb,hv,hl⟩:=hx;rw[hb]at h;simp only at h;split at h
   ·rename_i hc;simp only[aW,decide_eq_true_eq]at hc;obtain⟨⟨hw,hlen⟩,z7t⟩:=hc;split at h
    ·rename_i cs z7g;simp only[aA,aI]at h;obtain⟨rfl,rfl⟩:=h;have hp:=hl (og hw);subst hp;have hy:=Cu (ju hE y) z7t;have zce:∀v∈(a.eval y).cells.toList,v.oneCell'=true:=by
      intro v hv;obtain⟨j,hj⟩:=zmM.1 hv;have hjl:j<(lA (X.ev e (cX im y))).length:=by rw[<-j7 hy];exact(ak.1 hj).1
      obtain⟨u,h1,h2⟩:=(ky.1 hy).2 j _ (aE hjl);rw[hj]at h1;simp only[aA]at h1;subst h1;exact T6 h2 (cp.1 z7t _ (cU _))
     obtain⟨w',r1,r2,r3⟩:=AE (P:=P) R hb hw z7g hy zce;refine⟨undef,w',.inr ⟨?_,rfl⟩,μ,ok,r2,r3,by simp[VR]⟩;have hsz:¬((a.eval y).cells.size≠ti.size):=by
      have:=j7 hy;simp only[d8]at this;omega
     simp[execOp,ho,Instr.storeAt,hv,Instr.sureAddr,storeVar,jQ hti,hsz,r1]
    ·cases h
   ·cases h
  ·cases h
omit R hE z6b in
theorem CJ{g:Nat->Option Blk}{cs:List D}{vs:List Value}(h:VRl im g μ w ok cs vs)(h1:cs.all one=true):∀v∈vs,v.oneCell'=true:=by
 intro v hv;obtain⟨j,hj⟩:=zmM.1 hv;have hjl:j<cs.length:=by rw[<-j7 h];exact(ak.1 hj).1
 obtain⟨u,e1,e2⟩:=(ky.1 h).2 j _ (aE hjl);rw[hj]at e1;simp only[aA]at e1;subst e1;exact T6 e2 (cp.1 h1 _ (cU _))
omit hE z6b in
theorem mR{d:D}{v:Value}{cs:List D}{sz n:Nat}(h:kw σ.get sz d=some cs)(hn:lenOf d=some n)(hv:VR im σ.get μ w ok d v):
 ∃ad cap vs,v=.slice ad n cap/\n<=cap/\VRl im σ.get μ w ok cs vs/\cs.length=n*sz/\(Builtin.firstCells sz n v).run P w=.ok vs.toArray w/\
  ∀k,k<=n->(Builtin.firstCells sz k v).run P w=.ok (vs.take (k*sz)).toArray w:=by
 obtain⟨ad,len,cap,e1,e2,e3,e4,e5⟩:=Ga R h hv;rw[hn]at e2;simp only[aA]at e2;subst e2;have key:∃vs:List Value,VRl im σ.get μ w ok cs vs/\∀k,k<=n->(Builtin.firstCells sz k v).run P w=.ok (vs.take (k*sz)).toArray w:=by
  by_cases hc:cs=[]
  ·subst hc;simp only[dV]at e3;refine⟨[],by simp[VRl],λk hk=>?_⟩;have hk0:k*sz=0:=by
    have:=aK sz hk;omega
   rw[e1];cases ad with
   |none=>simp[Builtin.firstCells]
   |some x=>simp[Builtin.firstCells,hk0,loadCells,loadCellsFrom]
  ·obtain⟨x,rfl,hs,hvc⟩:=e5 hc;obtain⟨vs,v1,v2⟩:=Gv hvc;refine⟨vs,v1,λk hk=>?_⟩;have hlen:(vs.take (k*sz)).length=k*sz:=by
    have h1:=j7 v1;have:=aK sz hk;simp;omega
   rw[e1];simp only[Builtin.firstCells];have:=run_loadCells_list (P:=P) w x (vs.take (k*sz)) (λj u hj=>by
    rw[Addr.add_eq hs];refine v2 j u ?_;rw[cN]at hj;split at hj
    ·exact hj
    ·cases hj)
   rw[hlen]at this;exact this
 obtain⟨vs,k1,k2⟩:=key;have zcA:vs.take (n*sz)=vs:=by
  rw[<-e3,<-j7 k1];exact bV
 exact⟨ad,cap,vs,e1,e4,k1,e3,by have:=k2 n (aC _);rwa[zcA]at this,k2⟩
theorem Z2{t u:TypeId}{x y:Operand}{el:TypeId}(ho:o.op=.call ⟨.builtin .copy,#[x,y],#[t,u]⟩)(hu:P.underlying t=some (.slice el))(z6W:0<jS P el)
 (hc:cOp P im o.op=.copy (jS P el) (cX im x) (cX im y)):Ic P im μ w ok okp base e a o σ:=by
 intro d σ' h;rw[hc]at h;simp only[evW]at h;have hq:∃i,P.info? el=some i:=by
  unfold jS at z6W;split at z6W
  ·rename_i i hi;exact⟨i,hi⟩
  ·simp at z6W
 obtain⟨ti,hti⟩:=hq;split at h
 ·rename_i l off len cm z ex n hd hn;split at h
  ·rename_i b src hb zet;split at h
   ·rename_i z6o;simp only[aW,decide_eq_true_eq]at z6o;obtain⟨⟨hw,hz⟩,z7t⟩:=z6o;split at h
    ·rename_i cs z7g;simp only[aA,aI]at h;obtain⟨rfl,rfl⟩:=h;have hx:=ju hE x;rw[hd]at hx;simp only[VR]at hx;obtain⟨b',p,cap,hb',hv,hl⟩:=hx;rw[hb]at hb';simp only[aA]at hb';subst hb';obtain⟨l1,rfl,l2,l3,l5⟩:=hl (og hw);obtain⟨ad,zd6,vs,f1,f2,f3,f4,f5,f6⟩:=mR (P:=P) R zet hn (ju hE y);have hk:Nat.min n len<=n:=Nat.min_le_left _ _;have z6O:VRl im σ.get μ w ok (src.take (Nat.min n len*jS P el)) (vs.take (Nat.min n len*jS P el)):=by
      refine ky.2 ⟨by have:=j7 f3;simp[this],λj q hj=>?_⟩;rw[cN]at hj;split at hj
      ·rename_i hlt;obtain⟨v,e1,e2⟩:=(ky.1 f3).2 j q hj;exact⟨v,by rw[cN,aF hlt];exact e1,e2⟩
      ·cases hj
     obtain⟨w',r1,r2,r3⟩:=AE (P:=P) R hb hw z7g z6O (λv hv=>CJ f3 z7t v (bH hv));refine⟨.int .i64 (Nat.min n len:Nat),w',.inl ?_,μ,ok,r2,r3,by simp[VR]⟩;have zcK:(Builtin.copy_ #[t,u] o.type #[.slice (some ⟨(μ l).1,(μ l).2+off,none⟩) len cap,a.eval y]).run P w=.ok (goInt (Nat.min n len:Nat)) w':=by
      have hlen:(Builtin.lenOf (a.eval y)).run P w=.ok n w:=by rw[f1];simp[Builtin.lenOf]
      have hfc:=f6 _ hk;rw[py hti]at hfc r1;simp[Builtin.copy_,gI hu,hlen,jQ hti,hfc,r1]
     simp only[execOp,ho,resolve,Sem.run_bind,Sem.run_pure,Result.andThen_ok,invoke,builtin];have z79:(#[x,y]:Array Operand).map a.eval= #[.slice (some ⟨(μ l).1,(μ l).2+off,none⟩) len cap,a.eval y]:=by simp[hv]
     rw[z79,zcK];rfl
    ·cases h
   ·cases h
  ·cases h
 ·cases h
theorem WY{t:TypeId}{x:Operand}{el:TypeId}{zv:Value}(ho:o.op=.call ⟨.builtin .clear,#[x],#[t]⟩)(hu:P.underlying t=some (.slice el))(hz:rE P el=some zv)
 (hc:cOp P im o.op=.clr (jS P el) (zc zv) (cX im x)):Ic P im μ w ok okp base e a o σ:=by
 intro d σ' h;rw[hc]at h;simp only[evW]at h;have hx:=ju hE x;obtain⟨ti,hti,hz⟩:=uX hz;split at h
 ·rename_i l off len cm z ex hd;rw[hd]at hx;simp only[VR]at hx;obtain⟨b,p,cap,hb,hv,hl⟩:=hx;rw[hb]at h;simp only at h;split at h
  ·rename_i z6o;simp only[aW,decide_eq_true_eq]at z6o;obtain⟨⟨⟨hw,hzl⟩,hzz⟩,z7t⟩:=z6o;split at h
   ·rename_i cs z7g;simp only[aA,aI]at h;obtain⟨rfl,rfl⟩:=h;obtain⟨l1,rfl,l2,l3,l5⟩:=hl (og hw);have hzs:(zc zv).length=zv.cells.size:=by simp[zc]
    have z6O:VRl im σ.get μ w ok (mf len (zc zv)) (Builtin.zeroCells zv.cells len).toList:=by
     refine ky.2 ⟨by simp[vk,Builtin.zeroCells,hzs],λj x hj=>?_⟩;obtain⟨v,h1,h2⟩:=Cr (g:=σ.get) (μ:=μ) (w:=w) (ok:=ok) (im:=im) (z:=zv) (n:=len) (m:=len*zv.cells.size) (by rw[hzs]) j x hj;exact⟨v,by simpa only[dh,Builtin.zeroCells]using h1,h2⟩
    have z7i:(mf len (zc zv)).all one=true:=by
     have:∀n,(mf n (zc zv)).all one=true:=by
      intro n
      induction n with
      |zero=>rfl
      |succ n ih=>simp only[mf,List.all_append,z7t,ih,dM]
     exact this len
    obtain⟨w',r1,r2,r3⟩:=AE (P:=P) R hb hw z7g z6O (CJ z6O z7i);have z6v:(Builtin.clear_ #[t] o.type #[.slice (some ⟨(μ l).1,(μ l).2+off,none⟩) len cap]).run P w=.ok (.tuple #[]) w':=by
     cases len with
     |zero=>
      have e0:(Builtin.zeroCells zv.cells 0).toList=[]:=by simp[Builtin.zeroCells]
      rw[e0]at r1;simp only[storeCells,Sem.run_pure,Result.ok.injEq,true_and]at r1;subst r1;simp[Builtin.clear_,gI hu]
     |succ n=>simp[Builtin.clear_,gI hu,rG hti hz,r1]
    refine⟨.tuple #[],w',.inl ?_,μ,ok,r2,r3,by simp[VR]⟩;simp only[execOp,ho,resolve,Sem.run_bind,Sem.run_pure,Result.andThen_ok,invoke,builtin];have z79:(#[x]:Array Operand).map a.eval= #[.slice (some ⟨(μ l).1,(μ l).2+off,none⟩) len cap]:=by simp[hv]
    rw[z79,z6v];rfl
   ·cases h
  ·cases h
 ·rename_i cs ex hd;simp only[aA,aI]at h;obtain⟨rfl,rfl⟩:=h;rw[hd]at hx;simp only[VR,TR]at hx;obtain⟨p,cap,hv,_⟩:=hx;have z6v:(Builtin.clear_ #[t] o.type #[.slice p 0 cap]).run P w=.ok (.tuple #[]) w:=by
   cases p<;>simp[Builtin.clear_,gI hu]
  refine⟨.tuple #[],w,.inl ?_,.same R (by simp[VR])⟩;simp only[execOp,ho,resolve,Sem.run_bind,Sem.run_pure,Result.andThen_ok,invoke,builtin];have z79:(#[x]:Array Operand).map a.eval= #[.slice p 0 cap]:=by simp[hv]
  rw[z79,z6v];rfl
 ·cases h
omit R hE z6b in
theorem sV{t u ty el el2:TypeId}{ti:TypeInfo}(hu:P.underlying t=some (.slice el))(hu2:P.underlying u=some (.slice el2))(hti:P.info? el=some ti)
 {p:Option Addr} {z6I z7w n:Nat} {v:Value} {vs:List Value} {w':World} (hl:(Builtin.lenOf v).run P w=.ok n w) (hf:(Builtin.firstCells ti.size n v).run P w=.ok vs.toArray w)
 (z7n:z6I+n<=z7w) (hst:∀x,p=some x->(storeCells (x.add (z6I*ti.size)) vs).run P w=.ok () w') (hn:p=none->w'=w):
 (Builtin.append_ #[t,u] ty #[.slice p z6I z7w,v]).run P w=.ok (.slice p (z6I+n) z7w) w':=by
 cases p with
 |none=>
  have:=hn rfl;subst this;simp[Builtin.append_,gI hu,gI hu2,jQ hti,hl,z7n,hf]
 |some x=>simp[Builtin.append_,gI hu,gI hu2,jQ hti,hl,z7n,hf,hst x rfl]
omit R hE z6b in
theorem xI{t u ty el el2:TypeId}{ti:TypeInfo}{z:Value}(hu:P.underlying t=some (.slice el))(hu2:P.underlying u=some (.slice el2))(hti:P.info? el=some ti)(hz:ti.zero=some z)
 {p:Option Addr} {z6I z7w n:Nat} {v:Value} {vs os:List Value} (hl:(Builtin.lenOf v).run P w=.ok n w) (hf:(Builtin.firstCells ti.size n v).run P w.drew=.ok vs.toArray w.drew)
 (ho:(Builtin.firstCells ti.size z6I (.slice p z6I z7w)).run P w.drew=.ok os.toArray w.drew)
 (z7n:z7w<z6I+n) (zjA:(z6I+n)*ti.bytes<=1099511627776) (h63:z6I+n<=1099511627776):
 (Builtin.append_ #[t,u] ty #[.slice p z6I z7w,v]).run P w=.ok (.slice (some ⟨w.heap.size,0,none⟩) (z6I+n) (grownCap w (z6I+n) z7w el))
  (w.drew.alloc (.cells (os.toArray++vs.toArray++Builtin.zeroCells z.cells (grownCap w (z6I+n) z7w el-(z6I+n))) el)):=by
 have hn:¬(z6I+n<=z7w):=eP;have z86:=nextslicecap_le z7n;have h1:Builtin.nextslicecap (z6I+n) z7w*ti.bytes<=2*(z6I+n)*ti.bytes:=aK _ z86;have h2:2*(z6I+n)*ti.bytes=2*((z6I+n)*ti.bytes):=aa _ _ _;have h48:¬(281474976710656<Builtin.nextslicecap (z6I+n) z7w*ti.bytes):=eP;have zfN:¬(9223372036854775807<((z6I:Int)+(n:Int))):=eP;simp[Builtin.append_,gI hu,gI hu2,jQ hti,un hti,rG hti hz,hl,hn,h48,zfN,Question.forced,hf,ho,newRow,grownCap];congr 2;apply Array.ext';simp[aQ]
omit hE z6b in
theorem Okv.drew{g':Nat->Option Blk}{d:D}{v:Value}{w':World}(h:Okv im σ.get μ w.drew ok okp base g' d v w'):Okv im σ.get μ w ok okp base g' d v w':=by
 obtain⟨μ',ok',h1,h2,h3⟩:=h;exact⟨μ',ok',h1,(R.heap (w':=w.drew) rfl (.drew _)).2.trans h2,h3⟩
omit R hE z6b in
theorem Dz(w:World)(zbR old:Nat)(el:TypeId):zbR<=grownCap w zbR old el:=by
 unfold grownCap;simp[Question.cut]
omit R hE z6b in
theorem Dy{g:Nat->Option Blk}{c1 c2:List D}{v1 v2:List Value}{zs:Array Value}(h1:VRl im g μ w ok c1 v1)(h2:VRl im g μ w ok c2 v2):
 ∀(j:Nat)(y:D),(c1++c2)[j]?=some y->∃v,(v1.toArray++v2.toArray++zs)[j]?=some v/\VR im g μ w ok y v:=by
 intro j y hj;have e1:=j7 h1;have e2:=j7 h2;by_cases hlt:j<c1.length
 ·rw[bF hlt]at hj;obtain⟨v,a1,a2⟩:=(ky.1 h1).2 j y hj;refine⟨v,?_,a2⟩;rw[Array.append_assoc,zmo (by simp;omega)];simpa using a1
 ·rw[aM eP]at hj;obtain⟨v,a1,a2⟩:=(ky.1 h2).2 _ y hj;have hj2:j-c1.length<c2.length:=(ak.1 hj).1;refine⟨v,?_,a2⟩;rw[zmo (by simp;omega),Array.getElem?_append_right (by simp;omega)];simpa[e1]using a1
theorem I9{t u:TypeId}{x y:Operand}{el el2:TypeId}{zv:Value}(ho:o.op=.call ⟨.builtin .append,#[x,y],#[t,u]⟩)(hu:P.underlying t=some (.slice el))(hu2:P.underlying u=some (.slice el2))
 (hz:rE P el=some zv) (z6W:0<jS P el) (hzl:(zc zv).length=jS P el)
 {d:D} {σ':Sto} (h:uU (X.ev e) σ (jS P el) (Gg P el) (cX im x) (cX im y)=some (d,σ')):zF im σ.get μ w ok okp base σ'.get d ((execOp a.eval o).run P w):=by
 unfold uU at h;have hx:=ju hE x;obtain⟨ti,hti,hz⟩:=uX hz;rw[py hti]at h z6W hzl;rw[Jq hti]at h;have exec:∀{v w'},(Builtin.append_ #[t,u] o.type #[a.eval x,a.eval y]).run P w=.ok v w'->(execOp a.eval o).run P w=.ok (.value v) w':=by
  intro v w' hr;simp only[execOp,ho,resolve,Sem.run_bind,Sem.run_pure,Result.andThen_ok,invoke,builtin];have z79:(#[x,y]:Array Operand).map a.eval= #[a.eval x,a.eval y]:=by simp
  rw[z79,hr];rfl
 split at h
 ·rename_i new n z6O hn;obtain⟨ad,zd6,vs,f1,f2,f3,f4,f5,f6⟩:=mR (P:=P) R z6O hn (ju hE y);have hlen:(Builtin.lenOf (a.eval y)).run P w=.ok n w:=by rw[f1];simp[Builtin.lenOf]
  obtain⟨Rd,Sd⟩:=R.heap (w':=w.drew) rfl (.drew _);obtain⟨adD,zd5,vsD,f1D,f2D,f3D,f4D,f5D,f6D⟩:=mR (P:=P) Rd z6O hn (pC Sd _ _ (ju hE y));have zsz:∀m,(Builtin.zeroCells zv.cells m).size=m*ti.size:=λm=>by
   have:zv.cells.size=ti.size:=by rw[<-hzl];simp[zc]
   simp[Builtin.zeroCells,this]
  have grow:∀(g1:Nat->Option Blk)(p:Option Addr)(len cap:Nat)(old:List D)(os:List Value),a.eval x=.slice p len cap->Rel im g1 μ w.drew ok okp base->Stp σ.get μ w.drew ok g1 μ w.drew ok base->g1 σ.nx=none->
   VRl im σ.get μ w.drew ok old os->(Builtin.firstCells ti.size len (.slice p len cap)).run P w.drew=.ok os.toArray w.drew->old.length=len*ti.size->cap<len+n->(len+n)*ti.bytes<=1099511627776->len+n<=1099511627776->
   zF im σ.get μ w ok okp base (upd g1 σ.nx (some ⟨old++new,.rw⟩)) (.sl σ.nx 0 (len+n) (len+n) ti.size false) ((execOp a.eval o).run P w):=by
   intro g1 p len cap old os hv R1 S1 hf1 ho1 ho2 ho3 z7n hb hb2;have z6v:=xI (ty:=o.type) hu hu2 hti hz hlen f5D ho2 z7n hb hb2;have hl1:=j7 ho1;have hl2:=j7 f3D;have hg:=Dz w (len+n) cap el;have hmul:(len+n)*ti.size<=grownCap w (len+n) cap el*ti.size:=aK _ hg;have zco:(grownCap w (len+n) cap el-(len+n))*ti.size=grownCap w (len+n) cap el*ti.size-(len+n)*ti.size:=Nat.sub_mul _ _ _;have zcn:(len+n)*ti.size=len*ti.size+n*ti.size:=aS _ _ _;refine⟨_,_,.inl (exec (by rw[hv];exact z6v)),Okv.drew R ?_⟩;have hk:=Okv.new' (w':=w.drew.alloc (.cells (os.toArray++vsD.toArray++Builtin.zeroCells zv.cells (grownCap w (len+n) cap el-(len+n))) el)) (v:=.slice (some ⟨w.heap.size,0,none⟩) (len+n) (grownCap w (len+n) cap el)) (d:=.sl σ.nx 0 (len+n) (len+n) ti.size false) R1 hf1 (cs:=old++new)
    (λb hb=>heap_alloc_old w.drew _ b hb) (heap_alloc_new w.drew _) fU (.alloc _ _ _) (fr:=(0,0)) (λo _=>by simp)
    (Dy (vO S1 _ _ ho1) (vO S1 _ _ f3D))
    (A0 (aC _) hg (λh=>by cases h) (by
     show _<=sC (w.drew.alloc (.cells (os.toArray++vsD.toArray++Builtin.zeroCells zv.cells (grownCap w (len+n) cap el-(len+n))) el)) w.drew.heap.size;rw[oR (heap_alloc_new w.drew _)];simp only[Array.size_append,zn8,zsz];omega))
   obtain⟨μ',ok',k1,k2,k3⟩:=hk;exact⟨μ',ok',k1,S1.trans k2,k3⟩
  split at h
  ·rename_i cs len ex hd;rw[hd]at hx;have hx0:=hx;simp only[VR,TR]at hx;obtain⟨p,cap,hv,l1,l2,l3⟩:=hx;split at h
   ·rename_i hn0;subst hn0;simp only[aA,aI]at h;obtain⟨rfl,rfl⟩:=h;have hvs:vs=[]:=by
     have:=j7 f3;simp only[bX]at f4;rw[f4]at this;simpa using this
    subst hvs;refine⟨.slice p len cap,w,.inl (exec ?_),.same R (by rw[hv]at hx0;exact hx0)⟩;rw[hv];exact sV hu hu2 hti (n:=0) hlen f5 eP (λx _=>by simp[storeCells]) (λ_=>rfl)
   ·rename_i hn0;split at h
    ·rename_i z6o;simp only[aW,decide_eq_true_eq]at z6o;obtain⟨⟨⟨hex,hcl⟩,hb⟩,hb2⟩:=z6o;simp only[aA,aI]at h;obtain⟨rfl,rfl⟩:=h;have z86:=l2 hex;obtain⟨adO,zd4,os,g1,g2,g3,g4,g5,g6⟩:=mR (P:=P) (d:=.tree cs len ex) (n:=len) (sz:=ti.size) (cs:=cs) Rd (by simp only[kw];rw[aF hcl]) rfl (pC Sd _ _ hx0);rw[get_add1];rw[hv]at g1;simp only[Value.slice.injEq]at g1;obtain⟨rfl,-,rfl⟩:=g1;rw[hv]at g5;exact grow σ.get p len cap cs os hv Rd (.refl ..) z6b g3 g5 g4 eP hb hb2
    ·cases h
  ·rename_i l off len cm z ex hd;rw[hd]at hx;simp only[VR]at hx;obtain⟨b,p,cap,hb,hv,hl⟩:=hx;rw[hb]at h;simp only at h;split at h
   ·rename_i z6o;simp only[aW,decide_eq_true_eq]at z6o;obtain⟨⟨⟨⟨hw,hzz⟩,z7t⟩,hb1⟩,hb2⟩:=z6o;obtain⟨l1,rfl,l2,l3,l5⟩:=hl (og hw);subst hzz;split at h
    ·rename_i z7n;split at h
     ·rename_i cs z7g;simp only[aA,aI]at h;obtain⟨rfl,rfl⟩:=h;obtain⟨w',r1,r2,r3⟩:=AE (P:=P) R hb hw z7g f3 (CJ f3 z7t);refine⟨_,w',.inl (exec (v:=.slice (some ⟨(μ l).1,(μ l).2+off,none⟩) (len+n) cap) ?_),μ,ok,r2,r3,?_⟩
      ·rw[hv];refine sV hu hu2 hti hlen f5 eP (λx hx=>?_) (λh=>by cases h);simp only[aA]at hx;subst hx;rw[Addr.add_eq rfl,dL];exact r1
      ·simp only[VR];refine⟨⟨cs,.rw⟩,_,_,by rw[get_put,fh],rfl,λ_=>⟨z7n,rfl,l2,l3,?_⟩⟩;obtain⟨b2,z8V,k⟩:=r3.locs l b hb;rw[get_put,fh]at z8V;simp only[aA]at z8V;subst z8V;rw[(k rfl).2.2];exact l5
     ·cases h
    ·rename_i z7n;split at h
     ·rename_i old z6f;simp only[aA,aI]at h;obtain⟨rfl,rfl⟩:=h;have hxD:VR im σ.get μ w.drew ok (.sl l off len cm ti.size ex) (a.eval x):=by
       have:=ju hE x;rw[hd]at this;exact pC Sd _ _ this
      have hco:kw σ.get ti.size (.sl l off len cm ti.size ex)=some old:=by
       simp only[kw,hb,og hw];simpa using z6f
      obtain⟨adO,zd4,os,g1,g2,g3,g4,g5,g6⟩:=mR (P:=P) (d:=.sl l off len cm ti.size ex) (n:=len) (sz:=ti.size) (cs:=old) Rd hco rfl hxD;rw[hv]at g1;simp only[Value.slice.injEq]at g1;obtain⟨rfl,-,rfl⟩:=g1;rw[hv]at g5;by_cases hex:ex=true
      ·have z86:=l3 hex;simp only[hex,bf,get_add1];exact grow σ.get _ len cap old os hv Rd (.refl ..) z6b g3 g5 g4 eP hb1 hb2
      ·have zff:ex=false:=by simpa using hex
       subst zff;have hnl:σ.nx≠l:=λe=>by rw[e,hb]at z6b;cases z6b
       have hgk:(σ.put l ⟨[],.gone⟩).get=upd σ.get l (some ⟨[],.gone⟩):=get_put _ _ _;simp only[bm,cP,get_add1,Sto.nx_put,hgk];by_cases z86:len+n<=cap
       ·
        obtain⟨⟨cur,el',fr,hbb,hfr⟩,hvc⟩:=R.blk l b hb (og hw);have hrs:=oR hbb;have hvl:=j7 f3;have hcl:n*ti.size+len*ti.size<=cap*ti.size:=by rw[<-aS];exact aK _ eP
        obtain⟨w',z7W,r1,r2,r3,r4,r5,r6,r7⟩:=se (P:=P) (μ l).1 ((μ l).2+off+len*ti.size) el' fr vs 0 cur w hbb hfr eP (CJ f3 z7t);obtain⟨m1,m2⟩:=R.move (w':=w') (l2:=σ.nx) (cs:=old++new) (arr:=z7W) (o2:=(μ l).2+off) hb hw z6b r2 (λo ho=>hfr o eP) r5 r6 (by rw[r3,hrs]) r7 (λj y hj=>by
         have hol:old.length=len*ti.size:=(yY z6f).2;by_cases hlt:j<old.length
         ·rw[bF hlt]at hj;obtain⟨v,a1,a2⟩:=xh (yZ z6f hvc) hbb j y hj;exact⟨v,by rw[r4,aG eP];exact a1,a2⟩
         ·rw[aM eP]at hj;have hj2:j-old.length<new.length:=(ak.1 hj).1;obtain⟨v,a1,a2⟩:=(ky.1 f3).2 _ y hj;refine⟨v,?_,a2⟩;rw[r4,aF eP,<-a1];congr 1;omega)
        refine⟨_,w',.inl (exec (v:=.slice (some ⟨(μ l).1,(μ l).2+off,none⟩) (len+n) cap) ?_),_,ok,m1,m2,?_⟩
        ·rw[hv];refine sV hu hu2 hti hlen f5 z86 (λx hx=>?_) (λh=>by cases h);simp only[aA]at hx;subst hx;rw[Addr.add_eq rfl];exact r1
        ·simp only[VR];refine⟨_,_,_,fh _ _ _,rfl,λ_=>⟨aC _,by rw[fh];rfl,z86,(λh=>by cases h),?_⟩⟩;rw[fh];show(μ l).2+off+0+cap*ti.size<=sC w' (μ l).1;rw[oR r2,r3,<-hrs];omega
       ·obtain⟨k1,k2⟩:=Rd.kill (cs:=[]) hb;exact grow _ _ len cap old os hv k1 k2 (by rw[gF _ _ hnl];exact z6b) g3 g5 g4 eP hb1 hb2
     ·cases h
   ·cases h
  ·cases h
 ·cases h
theorem SR{t u:TypeId}{x y:Operand}{el el2:TypeId}{zv:Value}(ho:o.op=.call ⟨.builtin .append,#[x,y],#[t,u]⟩)(hu:P.underlying t=some (.slice el))(hu2:P.underlying u=some (.slice el2))
 (hz:rE P el=some zv) (z6W:0<jS P el) (hzl:(zc zv).length=jS P el)
 (hc:cOp P im o.op=.app (jS P el) (Gg P el) (cX im x) (cX im y)):Ic P im μ w ok okp base e a o σ:=by
 intro d σ' h;rw[hc]at h;simp only[evW]at h;exact I9 R hE z6b ho hu hu2 hz z6W hzl h
omit R hE z6b in
theorem OC{α:Type}(f:Nat->α)(l:Nat)(x y:α):upd (upd f l x) l y=upd f l y:=by
 funext m;by_cases e:m=l
 ·subst e;rw[fh,fh]
 ·rw[gF _ _ e,gF _ _ e,gF _ _ e]
theorem Z3{t u:TypeId}{x y:Operand}{el el2:TypeId}{zv:Value}(ho:o.op=.call ⟨.builtin .append,#[x,y],#[t,u]⟩)(hu:P.underlying t=some (.slice el))(hu2:P.underlying u=some (.slice el2))
 (hz:rE P el=some zv) (z6W:0<jS P el) (hzl:(zc zv).length=jS P el)
 {d:D} {σ':Sto} (h:evW (X.ev e) σ (.appk (jS P el) (Gg P el) (cX im x) (cX im y))=some (d,σ')):zF im σ.get μ w ok okp base σ'.get d ((execOp a.eval o).run P w):=by
 simp only[evW]at h;split at h
 ·rename_i l off len cm z hd;have hx:=ju hE x;obtain⟨ti,hti,hz⟩:=uX hz;rw[py hti]at h z6W hzl;rw[Jq hti]at h;have exec:∀{v w'},(Builtin.append_ #[t,u] o.type #[a.eval x,a.eval y]).run P w=.ok v w'->(execOp a.eval o).run P w=.ok (.value v) w':=by
   intro v w' hr;simp only[execOp,ho,resolve,Sem.run_bind,Sem.run_pure,Result.andThen_ok,invoke,builtin];have z79:(#[x,y]:Array Operand).map a.eval= #[a.eval x,a.eval y]:=by simp
   rw[z79,hr];rfl
  split at h
  ·rename_i new n b z6O hn hb;obtain⟨ad,zd6,vs,f1,f2,f3,f4,f5,f6⟩:=mR (P:=P) R z6O hn (ju hE y);have hlen:(Builtin.lenOf (a.eval y)).run P w=.ok n w:=by rw[f1];simp[Builtin.lenOf]
   obtain⟨Rd,Sd⟩:=R.heap (w':=w.drew) rfl (.drew _);obtain⟨adD,zd5,vsD,f1D,f2D,f3D,f4D,f5D,f6D⟩:=mR (P:=P) Rd z6O hn (pC Sd _ _ (ju hE y));have zsz:∀m,(Builtin.zeroCells zv.cells m).size=m*ti.size:=λm=>by
    have:zv.cells.size=ti.size:=by rw[<-hzl];simp[zc]
    simp[Builtin.zeroCells,this]
   split at h
   ·rename_i z6o;simp only[aW,decide_eq_true_eq]at z6o;obtain⟨⟨⟨⟨⟨z6S,hzz⟩,z7t⟩,hb1⟩,hb2⟩,z85⟩:=z6o;subst hzz;have z6g:=gp z6S;rw[hd]at hx;have hx0:=hx;simp only[VR]at hx;obtain⟨b',p,cap,hb',hv,hl⟩:=hx;rw[hb]at hb';simp only[aA]at hb';subst hb';obtain⟨l1,rfl,l2,l3,l5⟩:=hl z6g;split at h
    ·rename_i old z6f;simp only[aA,aI]at h;obtain⟨rfl,rfl⟩:=h;have hol:old.length=len*ti.size:=(yY z6f).2;have hgk:(σ.put l ⟨b.cs,.frz⟩).get=upd σ.get l (some ⟨b.cs,.frz⟩):=get_put _ _ _;have hnl:σ.nx≠l:=λe=>by rw[e,hb]at z6b;cases z6b
     simp only[get_add1,Sto.nx_put,hgk];have hvl:=j7 f3;by_cases z86:len+n<=cap
     ·
      obtain⟨R1,S1⟩:=R.toApd hb z6S;obtain⟨⟨cur,el',fr,hbb,hfr⟩,hvc⟩:=R.blk l b hb z6g;have hrs:=oR hbb;have hcl:n*ti.size+len*ti.size<=cap*ti.size:=by rw[<-aS];exact aK _ eP
      obtain⟨w',z7W,r1,r2,r3,r4,r5,r6,r7⟩:=se (P:=P) (μ l).1 ((μ l).2+off+len*ti.size) el' fr vs 0 cur w hbb hfr eP (CJ f3 z7t);obtain⟨m1,m2⟩:=R1.share (w':=w') (l:=l) (l2:=σ.nx) (b:=⟨b.cs,.apd⟩) (cs:=old++new) (arr:=z7W) (o2:=(μ l).2+off) (fh _ _ _) rfl (by rw[gF _ _ hnl];exact z6b) hbb r2
       (λo ho=>hfr o eP) (λk hk=>by rw[r4,aG (by simp only at hk;omega)]) r5 r6 (by rw[r3,hrs]) r7 (by simp only[aq];omega) (λj y hj=>by
        by_cases hlt:j<old.length
        ·rw[bF hlt]at hj;obtain⟨v,a1,a2⟩:=xh (yZ z6f hvc) hbb j y hj;exact⟨v,by rw[r4,aG eP];exact a1,pC S1 _ _ a2⟩
        ·rw[aM eP]at hj;have hj2:j-old.length<new.length:=(ak.1 hj).1;obtain⟨v,a1,a2⟩:=(ky.1 f3).2 _ y hj;refine⟨v,?_,pC S1 _ _ a2⟩;rw[r4,aF eP,<-a1];congr 1;omega)
      simp only[OC]at m1 m2;refine⟨_,w',.inl (exec (v:=.slice (some ⟨(μ l).1,(μ l).2+off,none⟩) (len+n) cap) ?_),_,_,m1,S1.trans m2,?_⟩
      ·rw[hv];refine sV hu hu2 hti hlen f5 z86 (λx hx=>?_) (λh=>by cases h);simp only[aA]at hx;subst hx;rw[Addr.add_eq rfl];exact r1
      ·simp only[VR];refine⟨_,_,_,fh _ _ _,rfl,λ_=>⟨aC _,by rw[fh];rfl,z86,(λh=>by cases h),?_⟩⟩;rw[fh];show(μ l).2+off+0+cap*ti.size<=sC w' (μ l).1;rw[oR r2,r3,<-hrs];omega
     ·
      have hxD:VR im σ.get μ w.drew ok (.sl l off len cm ti.size false) (a.eval x):=pC Sd _ _ hx0;have hco:kw σ.get ti.size (.sl l off len cm ti.size false)=some old:=by
       simp only[kw,hb,z6g];simpa using z6f
      obtain⟨adO,zd4,os,g1,g2,g3,g4,g5,g6⟩:=mR (P:=P) (d:=.sl l off len cm ti.size false) (n:=len) (sz:=ti.size) (cs:=old) Rd hco rfl hxD;rw[hv]at g1;simp only[Value.slice.injEq]at g1;obtain⟨rfl,-,rfl⟩:=g1;rw[hv]at g5;have z6v:=xI (ty:=o.type) hu hu2 hti hz hlen f5D g5 eP hb1 hb2;have hl1:=j7 g3;have hl2:=j7 f3D;have hg:=Dz w (len+n) cap el;have hmul:(len+n)*ti.size<=grownCap w (len+n) cap el*ti.size:=aK _ hg;have zco:(grownCap w (len+n) cap el-(len+n))*ti.size=grownCap w (len+n) cap el*ti.size-(len+n)*ti.size:=Nat.sub_mul _ _ _;have zcn:(len+n)*ti.size=len*ti.size+n*ti.size:=aS _ _ _;obtain⟨ok1,R1,S1⟩:=Rd.freezeF hb z6S;have hf1:upd σ.get l (some ⟨b.cs,.frz⟩) σ.nx=none:=by rw[gF _ _ hnl];exact z6b
      refine⟨_,_,.inl (exec (by rw[hv];exact z6v)),Okv.drew R ?_⟩;have hk:=Okv.new' (w':=w.drew.alloc (.cells (os.toArray++vsD.toArray++Builtin.zeroCells zv.cells (grownCap w (len+n) cap el-(len+n))) el)) (v:=.slice (some ⟨w.heap.size,0,none⟩) (len+n) (grownCap w (len+n) cap el)) (d:=.sl σ.nx 0 (len+n) (len+n) ti.size false) R1 hf1 (cs:=old++new)
       (λb hb=>heap_alloc_old w.drew _ b hb) (heap_alloc_new w.drew _) fU (.alloc _ _ _) (fr:=(0,0)) (λo _=>by simp)
       (Dy (vO S1 _ _ g3) (vO S1 _ _ f3D))
       (A0 (aC _) hg (λh=>by cases h) (by
        show _<=sC (w.drew.alloc (.cells (os.toArray++vsD.toArray++Builtin.zeroCells zv.cells (grownCap w (len+n) cap el-(len+n))) el)) w.drew.heap.size;rw[oR (heap_alloc_new w.drew _)];simp only[Array.size_append,zn8,zsz];omega))
      obtain⟨μ',ok',k1,k2,k3⟩:=hk;obtain⟨k4,k5⟩:=k1.toApd (fh _ _ _) rfl;simp only[OC]at k4 k5;exact⟨μ',_,k4,(S1.trans k2).trans k5,pC k5 _ _ k3⟩
    ·cases h
   ·cases h
  ·cases h
 ·cases hq:uU (X.ev e) σ (jS P el) (Gg P el) (cX im x) (cX im y)with
  |none=>rw[hq]at h;cases h
  |some r=>
   obtain⟨d1,σ1⟩:=r;have hd:=I9 R hE z6b ho hu hu2 hz z6W hzl hq;rw[hq]at h;split at h
   ·rename_i l off len cm z ex σ2 he;simp only[aA,aI]at he;obtain⟨rfl,rfl⟩:=he;split at h
    ·split at h
     ·rename_i b hb;split at h
      ·rename_i z6S;simp only[aA,aI]at h;obtain⟨rfl,rfl⟩:=h;obtain⟨v,w',h1,μ',ok',k1,k2,k3⟩:=hd;obtain⟨r1,r2⟩:=k1.toApd hb z6S;have hg:(σ1.put l ⟨b.cs,.apd⟩).get=upd σ1.get l (some ⟨b.cs,.apd⟩):=get_put _ _ _;exact⟨v,w',h1,μ',_,by rw[hg];exact r1,by rw[hg];exact k2.trans r2,by rw[hg];exact pC r2 _ _ k3⟩
      ·cases h
     ·cases h
    ·simp only[aA,aI]at h;obtain⟨rfl,rfl⟩:=h;exact hd
   ·rw[h]at hq;simp only[aA,aI]at h;obtain⟨rfl,rfl⟩:=h;exact hd
theorem pM(hc:evW (X.ev e) σ (cOp P im o.op)=none):Ic P im μ w ok okp base e a o σ:=by
 intro d σ' h;rw[hc]at h;cases h
theorem Rc:Ic P im μ w ok okp base e a o σ:=by
 cases ho:o.op with
 |store t x y=>exact WX R hE z6b ho
 |call c=>
  obtain⟨cal,args,tys⟩:=c;cases cal with
  |invoke r m=>refine pM R hE z6b ?_;rw[ho];rfl
  |value f=>
   refine pM R hE z6b ?_;rw[ho];simp only[cOp,ij]
   (repeat' split)<;>rfl
  |builtin b=>
   cases b
   case append=>
    match hal:args.toList,htl:tys.toList with
    |[x,y],[t,u]=>
     have e1:args= #[x,y]:=by obtain⟨l⟩:=args;simp at hal;subst hal;rfl
     have e2:tys= #[t,u]:=by obtain⟨l⟩:=tys;simp at htl;subst htl;rfl
     subst e1 e2;have hcc:cOp P im o.op=match P.underlying t,P.underlying u with
      |some (.slice el),some (.slice _)=>match rE P el with
       |some z=>if 0<jS P el&&(zc z).length==jS P el then .app (jS P el) (Gg P el) (cX im x) (cX im y)else .bad
       |none=>.bad
      |_,_=>.bad:=by rw[ho];rfl
     split at hcc
     ·rename_i el el2 hu hu2;split at hcc
      ·rename_i z hz;split at hcc
       ·rename_i hq;simp only[aW,decide_eq_true_eq,beq_iff_eq]at hq;exact SR R hE z6b ho hu hu2 hz hq.1 hq.2 hcc
       ·exact pM R hE z6b (by rw[hcc];rfl)
      ·exact pM R hE z6b (by rw[hcc];rfl)
     ·exact pM R hE z6b (by rw[hcc];rfl)
    |[],_=>refine pM R hE z6b ?_;rw[ho];simp[cOp,ij,hal,evW]
    |[x],_=>refine pM R hE z6b ?_;rw[ho];simp[cOp,ij,hal,evW]
    |x::y::z::r,_=>refine pM R hE z6b ?_;rw[ho];simp[cOp,ij,hal,evW]
    |[x,y],[]=>refine pM R hE z6b ?_;rw[ho];simp[cOp,ij,hal,htl,evW]
    |[x,y],[t]=>refine pM R hE z6b ?_;rw[ho];simp[cOp,ij,hal,htl,evW]
    |[x,y],t::u::v::r=>refine pM R hE z6b ?_;rw[ho];simp[cOp,ij,hal,htl,evW]
   case copy=>
    match hal:args.toList,htl:tys.toList with
    |[x,y],[t,u]=>
     have e1:args= #[x,y]:=by obtain⟨l⟩:=args;simp at hal;subst hal;rfl
     have e2:tys= #[t,u]:=by obtain⟨l⟩:=tys;simp at htl;subst htl;rfl
     subst e1 e2;have hcc:cOp P im o.op=match P.underlying t,P.underlying u with
      |some (.slice el),some (.slice _)=>if 0<jS P el then .copy (jS P el) (cX im x) (cX im y)else .bad
      |_,_=>.bad:=by rw[ho];rfl
     split at hcc
     ·rename_i el el2 hu hu2;split at hcc
      ·rename_i hq;exact Z2 R hE z6b ho hu hq hcc
      ·exact pM R hE z6b (by rw[hcc];rfl)
     ·exact pM R hE z6b (by rw[hcc];rfl)
    |[],_=>refine pM R hE z6b ?_;rw[ho];simp[cOp,ij,hal,evW]
    |[x],_=>refine pM R hE z6b ?_;rw[ho];simp[cOp,ij,hal,evW]
    |x::y::z::r,_=>refine pM R hE z6b ?_;rw[ho];simp[cOp,ij,hal,evW]
    |[x,y],[]=>refine pM R hE z6b ?_;rw[ho];simp[cOp,ij,hal,htl,evW]
    |[x,y],[t]=>refine pM R hE z6b ?_;rw[ho];simp[cOp,ij,hal,htl,evW]
    |[x,y],t::u::v::r=>refine pM R hE z6b ?_;rw[ho];simp[cOp,ij,hal,htl,evW]
   case clear=>
    match hal:args.toList,htl:tys.toList with
    |[x],[t]=>
     have e1:args= #[x]:=by obtain⟨l⟩:=args;simp at hal;subst hal;rfl
     have e2:tys= #[t]:=by obtain⟨l⟩:=tys;simp at htl;subst htl;rfl
     subst e1 e2;have hcc:cOp P im o.op=match P.underlying t with
      |some (.slice el)=>match rE P el with
       |some z=>.clr (jS P el) (zc z) (cX im x)
       |none=>.bad
      |_=>.bad:=by rw[ho];rfl
     split at hcc
     ·rename_i el hu;split at hcc
      ·rename_i z hz;exact WY R hE z6b ho hu hz hcc
      ·exact pM R hE z6b (by rw[hcc];rfl)
     ·exact pM R hE z6b (by rw[hcc];rfl)
    |[],_=>refine pM R hE z6b ?_;rw[ho];simp[cOp,ij,hal,evW]
    |x::y::r,_=>refine pM R hE z6b ?_;rw[ho];simp[cOp,ij,hal,evW]
    |[x],[]=>refine pM R hE z6b ?_;rw[ho];simp[cOp,ij,hal,htl,evW]
    |[x],t::u::r=>refine pM R hE z6b ?_;rw[ho];simp[cOp,ij,hal,htl,evW]
   all_goals
    refine pM R hE z6b ?_;rw[ho];simp only[cOp,ij]
    (repeat' split)<;>first|rfl|(exfalso;simp_all;done)
 |_=>refine pM R hE z6b ?_;rw[ho];simp only[cOp];(repeat' split)<;>first|rfl|contradiction
omit R hE z6b in
theorem YV{op:Op}{sz bs:Nat}{X1 Y1:X}(h:cOp P im op=.app sz bs X1 Y1):∃x y t u el el2 zv,op=.call ⟨.builtin .append,#[x,y],#[t,u]⟩/\P.underlying t=some (.slice el)/\P.underlying u=some (.slice el2)/\
 rE P el=some zv/\0<jS P el/\(zc zv).length=jS P el/\sz=jS P el/\bs=Gg P el/\X1=cX im x/\Y1=cX im y:=by
 cases op with
 |call c=>
  obtain⟨cal,args,tys⟩:=c;cases cal with
  |invoke r m=>cases h
  |value f=>
   exfalso;simp only[cOp,ij]at h
   (repeat' split at h)<;>cases h
  |builtin b=>
   cases b
   case append=>
    match hal:args.toList,htl:tys.toList with
    |[x,y],[t,u]=>
     have e1:args= #[x,y]:=by obtain⟨l⟩:=args;simp at hal;subst hal;rfl
     have e2:tys= #[t,u]:=by obtain⟨l⟩:=tys;simp at htl;subst htl;rfl
     subst e1 e2;have hcc:(match P.underlying t,P.underlying u with
      |some (.slice el),some (.slice _)=>match rE P el with
       |some z=>if 0<jS P el&&(zc z).length==jS P el then .app (jS P el) (Gg P el) (cX im x) (cX im y)else .bad
       |none=>.bad
      |_,_=>.bad)=O.app sz bs X1 Y1:=h
     split at hcc
     ·rename_i el el2 hu hu2;split at hcc
      ·rename_i z hz;split at hcc
       ·rename_i hq;simp only[aW,decide_eq_true_eq,beq_iff_eq]at hq;simp only[O.app.injEq]at hcc;exact⟨x,y,t,u,el,el2,z,rfl,hu,hu2,hz,hq.1,hq.2,hcc.1.symm,hcc.2.1.symm,hcc.2.2.1.symm,hcc.2.2.2.symm⟩
       ·cases hcc
      ·cases hcc
     ·cases hcc
    |[],_=>simp[cOp,ij,hal]at h
    |[x],_=>simp[cOp,ij,hal]at h
    |x::y::z::r,_=>simp[cOp,ij,hal]at h
    |[x,y],[]=>simp[cOp,ij,hal,htl]at h
    |[x,y],[t]=>simp[cOp,ij,hal,htl]at h
    |[x,y],t::u::v::r=>simp[cOp,ij,hal,htl]at h
   all_goals
    exfalso;simp only[cOp,ij]at h
    (repeat' split at h)<;>first|(cases h;done)|(simp_all;done)
 |makeFunc fn fi ca=>
  exfalso;cases fn<;>first|(cases h;done)|(simp only[cOp]at h;(repeat' split at h)<;>cases h)
 |_=>
  exfalso;simp only[cOp]at h
  (repeat' split at h)<;>cases h
omit R hE z6b in
theorem DR(nt:Nat)(q:O):kpO nt q=q\/∃sz bs x y,q=.app sz bs x y/\kpO nt q=.appk sz bs x y:=by
 unfold kpO;split
 ·split
  ·exact .inr ⟨_,_,_,_,rfl,rfl⟩
  ·exact .inl rfl
 ·exact .inl rfl
theorem GW{nt:Nat}{d:D}{σ':Sto}(h:evW (X.ev e) σ (kpO nt (cOp P im o.op))=some (d,σ')):zF im σ.get μ w ok okp base σ'.get d ((execOp a.eval o).run P w):=by
 rcases DR nt (cOp P im o.op)with hq|⟨sz,bs,x,y,h1,h2⟩
 ·rw[hq]at h;exact Rc R hE z6b d σ' h
 ·rw[h2]at h;obtain⟨x,y,t,u,el,el2,zv,k1,k2,k3,k4,k5,k6,rfl,rfl,rfl,rfl⟩:=YV h1;exact Z3 R hE z6b k1 k2 k3 k4 k5 k6 h
end
end
def wD{α β:Type}{f:α->Option (β×List Nat)}:∀{xs:List α}{ys:List β}{ls:List Nat},i8 f xs=some (ys,ls)->
 ys.length=xs.length/\∀(j:Nat)(y:β),ys[j]?=some y->∃x lj,xs[j]?=some x/\f x=some (y,lj)/\∀l∈lj,l∈ls:=by
 intro xs
 induction xs with
 |nil=>intro ys ls h;simp only[i8,aA,aI]at h;obtain⟨rfl,rfl⟩:=h;exact⟨rfl,λj y h=>by simp at h⟩
 |cons x xs ih=>
  intro ys ls h;simp only[i8]at h;split at h
  ·rename_i y a hx;split at h
   ·rename_i ys' b hr;simp only[aA,aI]at h;obtain⟨rfl,rfl⟩:=h;obtain⟨h1,h2⟩:=ih hr;refine⟨by simp[h1],λj z hj=>?_⟩;cases j with
    |zero=>
     simp only[ax,aA]at hj;subst hj;exact⟨x,a,rfl,hx,λl hl=>zml _ hl⟩
    |succ j=>
     obtain⟨x',lj,e1,e2,e3⟩:=h2 j z (by simpa using hj);exact⟨x',lj,by simpa using e1,e2,λl hl=>eN _ (e3 l hl)⟩
   ·cases h
  ·cases h
def Kt{α β:Type}{f:α->Option (β×List Nat)}:∀{xs:List α}{ys:List β}{ls:List Nat},i8 f xs=some (ys,ls)->∀l∈ls,∃x y lj,x∈xs/\f x=some (y,lj)/\l∈lj:=by
 intro xs
 induction xs with
 |nil=>intro ys ls h;simp only[i8,aA,aI]at h;obtain⟨rfl,rfl⟩:=h;intro l hl;cases hl
 |cons x xs ih=>
  intro ys ls h;simp only[i8]at h;split at h
  ·rename_i y a hx;split at h
   ·rename_i ys' b hr;simp only[aA,aI]at h;obtain⟨rfl,rfl⟩:=h;intro l hl;rcases bM.1 hl with hl|hl
    ·exact⟨x,y,a,by simp,hx,hl⟩
    ·obtain⟨x',y',lj,e1,e2,e3⟩:=ih hr l hl;exact⟨x',y',lj,by simp[e1],e2,e3⟩
   ·cases h
  ·cases h
section
variable {im:Nat->Option Nat} {g:Nat->Option Blk} {μ:Nat->Nat×Nat} {w:World} {ok okp:Nat->Nat->Prop} {base:Nat}
def FV:∀(k:Nat)(d d':D)(ls:List Nat),res g k d=some (d',ls)->∀l∈ls,∃b,g l=some b/\b.st.live=true:=by
 intro k
 induction k with
 |zero=>intro d d' ls h;simp[res]at h
 |succ k ih=>
  intro d d' ls h;have list:∀(cs cs':List D)(l2:List Nat),i8 (res g k) cs=some (cs',l2)->∀l∈l2,∃b,g l=some b/\b.st.live=true:=by
   intro cs cs' l2 hm l hl;obtain⟨x,y,lj,e1,e2,e3⟩:=Kt hm l hl;exact ih x y lj e2 l e3
  cases d<;>simp only[res]at h<;>try (simp only[aA,aI]at h;obtain⟨rfl,rfl⟩:=h;intro l hl;cases hl;done)
  case u=>cases h
  case own=>cases h
  case sl l off len cm z ex=>
   cases hb:g l with
   |none=>rw[hb]at h;cases h
   |some b=>
    rw[hb]at h;simp only at h;split at h
    ·cases h
    ·rename_i z6g;split at h
     ·split at h
      ·rename_i cs l2 hm;simp only[aA,aI]at h;obtain⟨rfl,rfl⟩:=h;intro l' hl';rcases bh.1 hl' with rfl|hl'
       ·exact⟨b,hb,by simpa using z6g⟩
       ·exact list _ _ _ hm l' hl'
      ·cases h
     ·cases h
  case ptr l off=>
   cases hb:g l with
   |none=>rw[hb]at h;cases h
   |some b=>
    rw[hb]at h;simp only at h;split at h
    ·cases h
    ·rename_i z6g;split at h
     ·rename_i cs l2 hm;simp only[aA,aI]at h;obtain⟨rfl,rfl⟩:=h;intro l' hl';rcases bh.1 hl' with rfl|hl'
      ·exact⟨b,hb,by simpa using z6g⟩
      ·exact list _ _ _ hm l' hl'
     ·cases h
  all_goals
   split at h
   ·rename_i cs l2 hm;simp only[aA,aI]at h;obtain⟨rfl,rfl⟩:=h;exact list _ _ _ hm
   ·cases h
def JB(R:Rel im g μ w ok okp base){okx:Nat->Nat->Prop}(hok:∀b o,ok b o->okx b o):∀(k:Nat)(d d':D)(ls:List Nat)(v:Value),res g k d=some (d',ls)->VR im g μ w ok d v->
 (∀l,l∈ls->∀b,g l=some b->okN okx (μ l).1 (μ l).2 b.cs.length)->TR im w okx d' v:=by
 intro k
 induction k with
 |zero=>intro d d' ls v h;simp[res]at h
 |succ k ih=>
  intro d d' ls v h hv hx;have list:∀(cs cs':List D)(l2:List Nat)(vs:List Value),i8 (res g k) cs=some (cs',l2)->VRl im g μ w ok cs vs->(∀l∈l2,l∈ls)->TRl im w okx cs' vs:=by
   intro cs cs' l2 vs hm hv z7S;obtain⟨m1,m2⟩:=wD hm;refine QS.2 ⟨by rw[j7 hv,m1],λj y hj=>?_⟩;obtain⟨x,lj,e1,e2,e3⟩:=m2 j y hj;obtain⟨u,u1,u2⟩:=(ky.1 hv).2 j x e1;exact⟨u,u1,ih x y lj u e2 u2 (λl hl=>hx l (z7S l (e3 l hl)))⟩
  have cells:∀(cs cs':List D)(l2:List Nat)(b o:Nat),i8 (res g k) cs=some (cs',l2)->VRc im g μ w ok cs b o->(∀l∈l2,l∈ls)->TRc im w okx cs' b o:=by
   intro cs cs' l2 b o hm hv z7S;obtain⟨m1,m2⟩:=wD hm;refine Jy λj y hj=>?_;obtain⟨x,lj,e1,e2,e3⟩:=m2 j y hj;obtain⟨u,u1,u2⟩:=AZ hv e1;exact⟨u,u1,ih x y lj u e2 u2 (λl hl=>hx l (z7S l (e3 l hl)))⟩
  cases d<;>simp only[res]at h<;>simp only[VR]at hv
  case u=>cases h
  case sl l off len cm z ex=>
   obtain⟨b,p,cap,hb,rfl,hl⟩:=hv;rw[hb]at h;simp only at h;split at h
   ·cases h
   ·rename_i z6g;have z7L:b.st.live=true:=by simpa using z6g
    obtain⟨l1,rfl,l2',l3,l5⟩:=hl z7L;split at h
    ·rename_i r z6f;split at h
     ·rename_i cs l2 hm;simp only[aA,aI]at h;obtain⟨rfl,rfl⟩:=h;simp only[TR];have hN:=((hx l fU b hb).drop off).take (len*z);rw[<-(yY z6f).1,<-(wD hm).1]at hN;refine⟨_,_,rfl,eP,λhe=>?_,λ_=>⟨_,rfl,rfl,hN,?_⟩⟩
      ·simp only[aW,beq_iff_eq]at he;rw[l3 he.1];exact he.2
      ·exact cells _ _ _ _ _ hm (yZ z6f (R.blk l b hb z7L).2) (λl' hl'=>by simp[hl'])
     ·cases h
    ·cases h
  case ptr l off=>
   obtain⟨b,p,hb,rfl,hl⟩:=hv;rw[hb]at h;simp only at h;split at h
   ·cases h
   ·rename_i z6g;have z7L:b.st.live=true:=by simpa using z6g
    have hp:=hl z7L;subst hp;split at h
    ·rename_i cs l2 hm;simp only[aA,aI]at h;obtain⟨rfl,rfl⟩:=h;simp only[TR];have hN:=(hx l fU b hb).drop off;rw[<-(wD hm).1]at hN;exact⟨_,rfl,rfl,hN,cells _ _ _ _ _ hm (Gw (R.blk l b hb z7L).2 off) (λl' hl'=>by simp[hl'])⟩
    ·cases h
  case agg cs=>
   obtain⟨arr,rfl,hv⟩:=hv;split at h
   ·rename_i cs' l2 hm;simp only[aA,aI]at h;obtain⟨rfl,rfl⟩:=h;simp only[TR];exact⟨arr,rfl,list _ _ _ _ hm hv (λ_ h=>h)⟩
   ·cases h
  case tup cs=>
   obtain⟨arr,rfl,hv⟩:=hv;split at h
   ·rename_i cs' l2 hm;simp only[aA,aI]at h;obtain⟨rfl,rfl⟩:=h;simp only[TR];exact⟨arr,rfl,list _ _ _ _ hm hv (λ_ h=>h)⟩
   ·cases h
  case fn f cs=>
   obtain⟨F,arr,hF,rfl,hv⟩:=hv;split at h
   ·rename_i cs' l2 hm;simp only[aA,aI]at h;obtain⟨rfl,rfl⟩:=h;simp only[TR];exact⟨F,arr,hF,rfl,list _ _ _ _ hm hv (λ_ h=>h)⟩
   ·cases h
  case tree cs len ex=>
   simp only[aA,aI]at h;obtain⟨rfl,rfl⟩:=h;exact A3 hok (λ_ _ _=>rfl) _ _ hv
  case fp cs=>
   simp only[aA,aI]at h;obtain⟨rfl,rfl⟩:=h;exact A3 hok (λ_ _ _=>rfl) _ _ hv
  all_goals
   simp only[aA,aI]at h;obtain⟨rfl,rfl⟩:=h;subst hv;simp only[TR]
end
section
variable {im:Nat->Option Nat} {μ:Nat->Nat×Nat} {w:World} {ok okp:Nat->Nat->Prop} {base:Nat}
def jx(σ:Sto):Prop:=∀l,σ.nx<=l->σ.get l=none
def jx.put{σ:Sto}(h:jx σ){l:Nat}{b b':Blk}(hl:σ.get l=some b):jx (σ.put l b'):=by
 intro m hm;rw[Sto.get_put];by_cases e:m=l
 ·subst e;rw[h m hm]at hl;cases hl
 ·rw[aG e];exact h m hm
def jx.add1{σ:Sto}(h:jx σ)(b:Blk):jx (σ.adds [b]):=by
 intro m hm;have hn:(σ.adds [b]).nx=σ.nx+1:=rfl;rw[hn]at hm;rw[Sto.get_add1,aG eP];exact h m eP
def J6:∀(ls:List Nat)(σ:Sto),(σ.frz ls).nx=σ.nx
 |[],σ=>rfl
 |l::ls,σ=>by
  simp only[Sto.frz];split
  ·rw[J6 ls];rfl
  ·exact J6 ls σ
def D1:∀(ls:List Nat)(σ:Sto),jx σ->jx (σ.frz ls)
 |[],σ,h=>h
 |l::ls,σ,h=>by
  simp only[Sto.frz];split
  ·rename_i b hb;exact D1 ls _ (h.put hb)
  ·exact D1 ls σ h
def vZ(g:Nat->Option Blk):List Nat->Nat->Option Blk
 |[]=>g
 |l::ls=>match g l with
  |some b=>vZ (upd g l (some ⟨b.cs,b.st.fz⟩)) ls
  |none=>vZ g ls
def J7:∀(ls:List Nat)(σ:Sto),(σ.frz ls).get=vZ σ.get ls
 |[],σ=>rfl
 |l::ls,σ=>by
  simp only[Sto.frz,vZ];cases h:σ.get l with
  |none=>exact J7 ls σ
  |some b=>
   have hg:(σ.put l ⟨b.cs,b.st.fz⟩).get=upd σ.get l (some ⟨b.cs,b.st.fz⟩):=get_put _ _ _;show((σ.put l ⟨b.cs,b.st.fz⟩).frz ls).get=vZ (upd σ.get l (some ⟨b.cs,b.st.fz⟩)) ls;rw[J7 ls,hg]
def D2{m:Nat}:∀(ls:List Nat)(g:Nat->Option Blk),g m=none->vZ g ls m=none
 |[],g,h=>h
 |l::ls,g,h=>by
  simp only[vZ];cases hb:g l with
  |none=>exact D2 ls g h
  |some b=>
   refine D2 ls _ ?_;by_cases e:m=l
   ·subst e;rw[h]at hb;cases hb
   ·rw[gF _ _ e];exact h
def LV:∀(ls:List Nat)(g:Nat->Option Blk)(ok:Nat->Nat->Prop),Rel im g μ w ok okp base->(∀l∈ls,∃b,g l=some b/\b.st.live=true)->
 ∃ok',Rel im (vZ g ls) μ w ok' okp base/\Stp g μ w ok (vZ g ls) μ w ok' base/\∀l∈ls,∀b,g l=some b->okN ok' (μ l).1 (μ l).2 b.cs.length
 |[],g,ok,R,_=>⟨ok,R,.refl ..,λl hl=>by cases hl⟩
 |l::ls,g,ok,R,h=>by
  obtain⟨b,hb,z6g⟩:=h l fU;obtain⟨ok1,r1,r2,r3⟩:=R.freeze hb z6g;obtain⟨ok',k1,k2,k3⟩:=LV ls (upd g l (some ⟨b.cs,b.st.fz⟩)) _ r1 (λm hm=>by
   obtain⟨b',hb',hl'⟩:=h m (by simp[hm]);by_cases e:m=l
   ·subst e;exact⟨_,fh _ _ _,(Ee _).trans z6g⟩
   ·exact⟨b',by rw[gF _ _ e];exact hb',hl'⟩)
  simp only[vZ,hb];refine⟨ok',k1,r2.trans k2,λm hm b0 hb0=>?_⟩;by_cases e:m=l
  ·subst e;rw[hb]at hb0;simp only[aA]at hb0;subst hb0;exact r3.mono k2.okk
  ·rcases bh.1 hm with rfl|hm
   ·exact absurd rfl e
   ·exact k3 m hm b0 (by rw[gF _ _ e];exact hb0)
end
section
variable {P:Program} {im:Nat->Option Nat}
def Yc(im:Nat->Option Nat)(w:World)(ok:Nat->Nat->Prop)(base:Nat)(ob:Option Nat)(cs:List D)(len z:Nat)(v:Value):Prop:=
 ∃bb bo cap,ob=some bb/\base<=bb/\v=.slice (some ⟨bb,bo,none⟩) len cap/\len<=cap/\bo+cap*z<=sC w bb/\
  (∃arr el fr,w.heap[bb]?=some (.cells arr el fr)/\∀o,o<arr.size->¬(fr.1<=o/\o<fr.2))/\TRc im w ok cs bb bo
def WL(im:Nat->Option Nat)(w:World)(ok:Nat->Nat->Prop)(base:Nat)(ob:Option Nat):D->Value->Prop
 |.own cs len z,v=>Yc im w ok base ob cs len z v
 |.tup (.own cs len z::ds),v=>∃v0 vs,v=.tuple (v0::vs).toArray/\Yc im w ok base ob cs len z v0/\TRl im w ok ds vs
 |d,v=>TR im w ok d v
def RR(im:Nat->Option Nat)(okp:Nat->Nat->Prop)(w w':World)(r:D)(v:Value):Prop:=
 w.heap.size<=w'.heap.size/\(∀b,b<w.heap.size->w'.heap[b]?=w.heap[b]?)/\Same w w'/\
 ∃ob:Option Nat,WL im w' (λb o=>okp b o\/(w.heap.size<=b/\b<w'.heap.size/\some b≠ob)) w.heap.size ob r v
def rj(P:Program)(im:Nat->Option Nat)(F:FuncId)(as:List D)(r:D):Prop:=
 ∀(vs:List Value)(w:World)(okp:Nat->Nat->Prop),TRl im w okp as vs->(∀b o,okp b o->b<w.heap.size)->
  Calls P F vs.toArray w (λe w'=>match e with
   |.returned v=>RR im okp w w' r v
   |.outgrown=>False
   |.panicked _=>False)
def Snd(P:Program)(im:Nat->Option Nat)(F:FuncId)(M:List D->Option D):Prop:=
 ∀(as:List D)(r:D),M as=some r->rj P im F as r
variable {g:Nat->Option Blk} {μ:Nat->Nat×Nat} {w w':World} {ok okp:Nat->Nat->Prop} {base:Nat}
def Rel.grow(R:Rel im g μ w ok okp base)(hs:w.heap.size<=w'.heap.size)(hk:∀b,b<w.heap.size->w'.heap[b]?=w.heap[b]?)(sm:Same w w')(ob:Option Nat):
 Rel im g μ w' (λb o=>ok b o\/(w.heap.size<=b/\b<w'.heap.size/\some b≠ob)) okp base/\Stp g μ w ok g μ w' (λb o=>ok b o\/(w.heap.size<=b/\b<w'.heap.size/\some b≠ob)) base:=by
 have blt:∀m b,g m=some b->b.st.live=true->(μ m).1<w.heap.size:=λm b h hb=>by
  obtain⟨⟨arr,el,fr,hh,_⟩,_⟩:=R.blk m b h hb;exact(bu.1 hh).1
 have st:Stp g μ w ok g μ w' (λb o=>ok b o\/(w.heap.size<=b/\b<w'.heap.size/\some b≠ob)) base:=
  ⟨λ_ _ h=>.inl h,λb o h=>oK (hk b (R.okl b o h).1),λb h=>hk b (bw h R.bas),λl b h=>⟨b,h,λhl=>⟨hl,rfl,uY (hk _ (blt l b h hl))⟩⟩,hs,sm⟩
 refine⟨⟨λl b h hl=>?_,λl b h hb=>⟨(R.wrb l b h hb).1,λo ho=>?_⟩,λl b h hb=>⟨(R.apd l b h hb).1,λo hle ho=>?_⟩,λl b h hl hb=>(R.frz l b h hl hb).mono λ_ _ h=>.inl h,R.inj,λb o h=>?_,λb o h=>.inl (R.okp b o h),by have:=R.bas;omega⟩,st⟩
 ·obtain⟨⟨arr,el,fr,hh,hf⟩,hv⟩:=R.blk l b h hl;have hlt:=blt l b h hl;exact⟨⟨arr,el,fr,by rw[hk _ hlt];exact hh,hf⟩,nI st _ _ _ (λj _=>oK (hk _ hlt)) hv⟩
 ·rcases ho with ho|ho
  ·exact(R.wrb l b h hb).2 o ho
  ·have:=blt l b h (og hb);omega
 ·rcases ho with ho|ho
  ·exact(R.apd l b h hb).2 o hle ho
  ·have:=blt l b h (gp hb);omega
 ·rcases h with h|h
  ·have:=R.okl b o h;exact⟨eP,this.2⟩
  ·exact⟨h.2.1,.inr (by have:=R.bas;omega)⟩
def Rel.adopt(R:Rel im g μ w ok okp base){l:Nat}(hl:g l=none){cs:List D}{bb bo:Nat}(hb:base<=bb)(hno:∀o,¬ok bb o)(z9U:∀m b,g m=some b->b.st.live=true->(μ m).1≠bb)
 (z79:∃arr el fr,w.heap[bb]?=some (.cells arr el fr)/\∀o,o<arr.size->¬(fr.1<=o/\o<fr.2)) (hc:TRc im w ok cs bb bo):
 Rel im (upd g l (some ⟨cs,.rw⟩)) (upd μ l (bb,bo)) w ok okp base/\Stp g μ w ok (upd g l (some ⟨cs,.rw⟩)) (upd μ l (bb,bo)) w ok base:=by
 have gl:∀m b,g m=some b->m≠l:=λm b h e=>by subst e;rw[hl]at h;cases h
 have st:Stp g μ w ok (upd g l (some ⟨cs,.rw⟩)) (upd μ l (bb,bo)) w ok base:=
  ⟨λ_ _ h=>h,λ_ _ _=>rfl,λ_ _=>rfl,λm b h=>⟨b,by rw[gF _ _ (gl m b h)];exact h,λhl=>⟨hl,gF _ _ (gl m b h),rfl⟩⟩,aC _,.refl _⟩
 refine⟨⟨λm b h hb'=>?_,λm b h hb'=>?_,λm b h hb'=>?_,λm b h hb' hb2=>?_,λm b m' b' h h' hb1 hb2 he=>?_,R.okl,R.okp,R.bas⟩,st⟩
 ·by_cases e:m=l
  ·subst e;rw[fh]at h ⊢;simp only[aA]at h;subst h;exact⟨z79,B9 hc⟩
  ·rw[gF _ _ e]at h ⊢;obtain⟨h1,h2⟩:=R.blk m b h hb';exact⟨h1,nI st _ _ _ (λ_ _=>rfl) h2⟩
 ·by_cases e:m=l
  ·subst e;rw[fh];exact⟨hb,hno⟩
  ·rw[gF _ _ e]at h ⊢;exact R.wrb m b h hb'
 ·by_cases e:m=l
  ·subst e;rw[fh];exact⟨hb,λo _=>hno o⟩
  ·rw[gF _ _ e]at h ⊢;exact R.apd m b h hb'
 ·by_cases e:m=l
  ·subst e;rw[fh]at h;simp only[aA]at h;subst h;simp[Stt.wr]at hb2
  ·rw[gF _ _ e]at h ⊢;exact R.frz m b h hb' hb2
 ·by_cases e:m=l
  ·by_cases e':m'=l
   ·omega
   ·rw[gF _ _ e']at h' he;subst e;rw[fh]at he;exact absurd he.symm (z9U m' b' h' (gp hb2))
  ·rw[gF _ _ e]at h he;by_cases e':m'=l
   ·subst e';rw[fh]at he;exact absurd he (z9U m b h (gp hb1))
   ·rw[gF _ _ e']at h' he;exact R.inj m b m' b' h h' hb1 hb2 he
def YG{nx:Nat}{r:D}(hn:(mat nx r).2≠[]->g nx=none){v:Value}(R:Rel im g μ w ok okp base)(hr:RR im ok w w' r v):
 ∃μ' ok',Rel im (tp g nx (mat nx r).2) μ' w' ok' okp base/\Stp g μ w ok (tp g nx (mat nx r).2) μ' w' ok' base/\VR im (tp g nx (mat nx r).2) μ' w' ok' (mat nx r).1 v:=by
 obtain⟨hs,hk,hsm,ob,ho⟩:=hr;obtain⟨r1,r2⟩:=R.grow hs hk hsm ob;have own:g nx=none->∀cs len z v0,Yc im w' (λb o=>ok b o\/(w.heap.size<=b/\b<w'.heap.size/\some b≠ob)) w.heap.size ob cs len z v0->
  ∃μ',Rel im (upd g nx (some ⟨cs,.rw⟩)) μ' w' (λb o=>ok b o\/(w.heap.size<=b/\b<w'.heap.size/\some b≠ob)) okp base/\
   Stp g μ w ok (upd g nx (some ⟨cs,.rw⟩)) μ' w' (λb o=>ok b o\/(w.heap.size<=b/\b<w'.heap.size/\some b≠ob)) base/\
   VR im (upd g nx (some ⟨cs,.rw⟩)) μ' w' (λb o=>ok b o\/(w.heap.size<=b/\b<w'.heap.size/\some b≠ob)) (.sl nx 0 len len z false) v0:=by
  intro hn cs len z v0 h;obtain⟨bb,bo,cap,h1,h2,h3,h4,h5,h6,h7⟩:=h;obtain⟨a1,a2⟩:=r1.adopt (l:=nx) (bo:=bo) hn (by have:=R.bas;omega) (λo hq=>by
   rcases hq with hq|hq
   ·have:=(R.okl bb o hq).1;omega
   ·exact hq.2.2 h1.symm) (λm b hm hl he=>by
   obtain⟨⟨arr,el,fr,hh,_⟩,_⟩:=R.blk m b hm hl;have:=(bu.1 hh).1;omega) h6 h7
  refine⟨_,a1,r2.trans a2,?_⟩;subst h3;simp only[VR];exact⟨_,_,_,fh _ _ _,rfl,λ_=>⟨aC _,by rw[fh];rfl,h4,(λh=>by cases h),by rw[fh];show bo+0+cap*z<=_;omega⟩⟩
 by_cases z6S:∃cs len z,r=.own cs len z
 ·obtain⟨cs,len,z,rfl⟩:=z6S;obtain⟨μ',k1,k2,k3⟩:=own (hn (by simp[mat])) cs len z v ho;exact⟨μ',_,by simp only[mat,tp];exact k1,by simp only[mat,tp];exact k2,by simp only[mat,tp];exact k3⟩
 ·by_cases zaN:∃cs len z ds,r=.tup (.own cs len z::ds)
  ·obtain⟨cs,len,z,ds,rfl⟩:=zaN;obtain⟨v0,vs,rfl,h1,h2⟩:=ho;obtain⟨μ',k1,k2,k3⟩:=own (hn (by simp[mat])) cs len z v0 h1;refine⟨μ',_,by simp only[mat,tp];exact k1,by simp only[mat,tp];exact k2,?_⟩;simp only[mat,tp,VR];refine⟨_,rfl,?_⟩;simp only[VRl];exact⟨v0,vs,rfl,k3,tB _ _ h2⟩
  ·have hm:mat nx r=(r,[]):=by
    cases r<;>try rfl
    case own cs len z=>exact absurd ⟨cs,len,z,rfl⟩ z6S
    case tup vs=>
     cases vs with
     |nil=>rfl
     |cons d ds=>
      cases d<;>try rfl
      case own cs len z=>exact absurd ⟨cs,len,z,ds,rfl⟩ zaN
   have ht:TR im w' (λb o=>ok b o\/(w.heap.size<=b/\b<w'.heap.size/\some b≠ob)) r v:=by
    cases r<;>try exact ho
    case own cs len z=>exact absurd ⟨cs,len,z,rfl⟩ z6S
    case tup vs=>
     cases vs with
     |nil=>exact ho
     |cons d ds=>
      cases d<;>try exact ho
      case own cs len z=>exact absurd ⟨cs,len,z,ds,rfl⟩ zaN
   rw[hm];exact⟨μ,_,r1,r2,Gx _ _ ht⟩
def Tp(R:Rel im g μ w ok okp base){okx:Nat->Nat->Prop}(hok:∀b o,ok b o->okx b o){k:Nat}{cs cs':List D}{l2:List Nat}{b o:Nat}(hm:i8 (res g k) cs=some (cs',l2))(hv:VRc im g μ w ok cs b o)
 (hx:∀l,l∈l2->∀b,g l=some b->okN okx (μ l).1 (μ l).2 b.cs.length):TRc im w okx cs' b o:=by
 obtain⟨m1,m2⟩:=wD hm;refine Jy λj y hj=>?_;obtain⟨x,lj,e1,e2,e3⟩:=m2 j y hj;obtain⟨u,u1,u2⟩:=AZ hv e1;exact⟨u,u1,JB R hok k x y lj u e2 u2 (λl hl=>hx l (e3 l hl))⟩
def Fp(R:Rel im g μ w ok okp base){okx:Nat->Nat->Prop}(hok:∀b o,ok b o->okx b o){k:Nat}{cs cs':List D}{l2:List Nat}{vs:List Value}(hm:i8 (res g k) cs=some (cs',l2))(hv:VRl im g μ w ok cs vs)
 (hx:∀l,l∈l2->∀b,g l=some b->okN okx (μ l).1 (μ l).2 b.cs.length):TRl im w okx cs' vs:=by
 obtain⟨m1,m2⟩:=wD hm;refine QS.2 ⟨by rw[j7 hv,m1],λj y hj=>?_⟩;obtain⟨x,lj,e1,e2,e3⟩:=m2 j y hj;obtain⟨u,u1,u2⟩:=(ky.1 hv).2 j x e1;exact⟨u,u1,JB R hok k x y lj u e2 u2 (λl hl=>hx l (e3 l hl))⟩
def tM{k:Nat}{cs cs':List D}{l2:List Nat}(hm:i8 (res g k) cs=some (cs',l2)):∀l∈l2,∃b,g l=some b/\b.st.live=true:=by
 intro l hl;obtain⟨x,y,lj,e1,e2,e3⟩:=Kt hm l hl;exact FV k x y lj e2 l e3
def FX{r:Option (D×List Nat)}{x:D×List Nat×List Nat}(h:yF r=some x):∃d' ls,r=some (d',ls)/\x=(d',[],ls):=by
 cases r with
 |none=>cases h
 |some q=>
  obtain⟨d',ls⟩:=q;simp only[yF,aA]at h;exact⟨d',ls,rfl,h.symm⟩
def Lh{own:Bool}{k:Nat}{d:D}{x:D×List Nat×List Nat}(hx:vL own g k d=some x):
 (∃l off len cm z ex b rr cs ls,d=.sl l off len cm z ex/\g l=some b/\b.st.wr=true/\cut off (len*z) b.cs=some rr/\i8 (res g k) rr=some (cs,ls)/\x=(.own cs len z,[l],ls))\/
 (∃d' ls,res g k d=some (d',ls)/\x=(d',[],ls)):=by
 unfold vL at hx;split at hx
 ·rename_i l off len cm z ex;cases hb:g l with
  |none=>rw[hb]at hx;cases hx
  |some b=>
   rw[hb]at hx;simp only at hx;split at hx
   ·rename_i hw;split at hx
    ·rename_i rr z6f;split at hx
     ·rename_i cs ls hm;simp only[aA]at hx;exact .inl ⟨l,off,len,cm,z,ex,b,rr,cs,ls,rfl,hb,hw,z6f,hm,hx.symm⟩
     ·cases hx
    ·cases hx
   ·obtain⟨d',ls,h1,h2⟩:=FX hx;exact .inr ⟨d',ls,h1,h2⟩
 ·obtain⟨d',ls,h1,h2⟩:=FX hx;exact .inr ⟨d',ls,h1,h2⟩
def F4{ob:Option Nat}{d:D}{v:Value}(h:TR im w ok d v):WL im w ok base ob d v:=by
 cases d with
 |own cs len z=>simp[TR]at h
 |tup vs=>
  cases vs with
  |nil=>exact h
  |cons y ys=>
   cases y with
   |own cs len z=>
    simp only[TR,TRl]at h;obtain⟨_,_,_,_,_,h,_⟩:=h;exact h.elim
   |_=>exact h
 |_=>exact h
def Pg{w0:World}(R:Rel im g μ w ok okp w0.heap.size)(z8k:∀b,b<w0.heap.size->w.heap[b]?=w0.heap[b]?)(hsm:Same w0 w){own:Bool}{k:Nat}{d r:D}{v:Value}(h:lf own g k d=some r)(hv:VR im g μ w ok d v):
 RR im okp w0 w r v:=by
 refine⟨R.bas,z8k,hsm,?_⟩;have wg:∀(ls:List Nat),(∀l∈ls,∃b,g l=some b/\b.st.live=true)->∀l∈ls,∀b,g l=some b->okN (λb o=>okp b o\/(w0.heap.size<=b/\b<w.heap.size/\some b≠none)) (μ l).1 (μ l).2 b.cs.length:=by
  intro ls hl l hm b0 hb0 j hj;obtain⟨b,hb,z6g⟩:=hl l hm;rw[hb]at hb0;simp only[aA]at hb0;subst hb0;obtain⟨⟨arr,el,fr,hh,_⟩,_⟩:=R.blk l b hb z6g;have hlt:=(bu.1 hh).1;by_cases hw:b.st.wr=true
  ·exact .inr ⟨(R.wrb l b hb hw).1,hlt,by simp⟩
  ·rcases(R.okl _ _ (R.frz l b hb z6g (by simpa using hw) j hj)).2 with h|h
   ·exact .inl h
   ·exact .inr ⟨h,hlt,by simp⟩
 have zaW:∀b o,ok b o->okp b o\/(w0.heap.size<=b/\b<w.heap.size/\some b≠none):=λb o h=>by
  obtain⟨h1,h2⟩:=R.okl b o h;rcases h2 with h2|h2
  ·exact .inl h2
  ·exact .inr ⟨h2,h1,by simp⟩
 have owned:∀(l:Nat)(b:Blk),g l=some b->b.st.wr=true->∀(ls:List Nat),l∉ls->(∀l∈ls,∃b,g l=some b/\b.st.live=true)->
  (∀m∈ls,∀b,g m=some b->okN (λb o=>okp b o\/(w0.heap.size<=b/\b<w.heap.size/\some b≠some (μ l).1)) (μ m).1 (μ m).2 b.cs.length)/\(∀c o,ok c o->okp c o\/(w0.heap.size<=c/\c<w.heap.size/\some c≠some (μ l).1)):=by
  intro l b hb hw ls hnl hls;have nok:∀c o,ok c o->c≠(μ l).1:=λc o h e=>(R.wrb l b hb hw).2 o (e▸h);have q:∀c o,ok c o->okp c o\/(w0.heap.size<=c/\c<w.heap.size/\some c≠some (μ l).1):=λc o h=>by
   obtain⟨h1,h2⟩:=R.okl c o h;rcases h2 with h2|h2
   ·exact .inl h2
   ·exact .inr ⟨h2,h1,λe=>nok c o h (by simpa using e)⟩
  refine⟨λm hm b0 hb0 j hj=>?_,q⟩;obtain⟨b',hb',z6g⟩:=hls m hm;rw[hb']at hb0;simp only[aA]at hb0;subst hb0;obtain⟨⟨arr,el,fr,hh,_⟩,_⟩:=R.blk m b' hb' z6g;have hlt:=(bu.1 hh).1;by_cases hw':b'.st.wr=true
  ·refine .inr ⟨(R.wrb m b' hb' hw').1,hlt,λe=>?_⟩;have:m=l:=R.inj m b' l b hb' hb (l9 hw') (l9 hw) (by simpa using e);subst this;exact hnl hm
  ·exact q _ _ (R.frz m b' hb' z6g (by simpa using hw') j hj)
 have zbO:∀(l off len cm z:Nat)(ex:Bool)(b:Blk)(rr cs:List D)(ls:List Nat)(v0:Value)(okx:Nat->Nat->Prop),g l=some b->b.st.wr=true->cut off (len*z) b.cs=some rr->i8 (res g k) rr=some (cs,ls)->
  VR im g μ w ok (.sl l off len cm z ex) v0->(∀c o,ok c o->okx c o)->(∀m,m∈ls->∀b,g m=some b->okN okx (μ m).1 (μ m).2 b.cs.length)->Yc im w okx w0.heap.size (some (μ l).1) cs len z v0:=by
  intro l off len cm z ex b rr cs ls v0 okx hb hw z6f hm hv0 h1 h2;simp only[VR]at hv0;obtain⟨b',p,cap,hb',rfl,hl⟩:=hv0;rw[hb]at hb';simp only[aA]at hb';subst hb';obtain⟨l1,rfl,l2,l3,l5⟩:=hl (og hw);obtain⟨ha,hvc⟩:=R.blk l b hb (og hw);exact⟨(μ l).1,(μ l).2+off,cap,rfl,(R.wrb l b hb hw).1,rfl,eP,l5,ha,Tp R h1 hm (yZ z6f hvc) h2⟩
 have first:=λ(d:D)(x:D×List Nat×List Nat)(h:vL own g k d=some x)=>Lh h
 unfold lf at h;split at h
 ·rename_i dd ds;split at h
  ·rename_i d1 o ls ds' ls' h1 h2;split at h
   ·rename_i z7i;simp only[aA]at h;subst h;simp only[VR]at hv;obtain⟨arr,rfl,hv⟩:=hv;simp only[VRl]at hv;obtain⟨v0,vs,e,hv0,hvs⟩:=hv;have zfU:arr=(v0::vs).toArray:=by rw[<-e]
    subst zfU;rcases first _ _ h1 with⟨l,off,len,cm,z,ex,b,rr,cs,ls1,rfl,hb,hw,z6f,hm,he⟩|⟨d'',ls1,hr,he⟩
    ·simp only[aI]at he;obtain⟨rfl,rfl,rfl⟩:=he;have hnl:l∉ls++ls':=by simpa using z7i
     obtain⟨q1,q2⟩:=owned l b hb hw (ls++ls') hnl (λm hmm=>by
      rcases bM.1 hmm with hmm|hmm
      ·exact tM hm m hmm
      ·exact tM h2 m hmm)
     exact⟨some (μ l).1,v0,vs,rfl,zbO l off len cm z ex b rr cs ls v0 _ hb hw z6f hm hv0 q2 (λm hmm=>q1 m (zml _ hmm)),
      Fp R q2 h2 hvs (λm hmm=>q1 m (eN _ hmm))⟩
    ·simp only[aI]at he;obtain⟨rfl,rfl,rfl⟩:=he;have t1:=JB R zaW k _ _ _ _ hr hv0 (wg ls (FV k _ _ _ hr));have t2:=Fp R zaW h2 hvs (wg ls' (tM h2));refine⟨none,F4 ?_⟩;simp only[TR,TRl];exact⟨_,rfl,v0,vs,rfl,t1,t2⟩
   ·cases h
  ·cases h
 ·split at h
  ·rename_i d1 o ls h1;split at h
   ·rename_i z7i;simp only[aA]at h;subst h;rcases first _ _ h1 with⟨l,off,len,cm,z,ex,b,rr,cs,ls1,rfl,hb,hw,z6f,hm,he⟩|⟨d'',ls1,hr,he⟩
    ·simp only[aI]at he;obtain⟨rfl,rfl,rfl⟩:=he;have hnl:l∉ls:=by simpa using z7i
     obtain⟨q1,q2⟩:=owned l b hb hw ls hnl (tM hm);exact⟨some (μ l).1,zbO l off len cm z ex b rr cs ls v _ hb hw z6f hm hv q2 q1⟩
    ·simp only[aI]at he;obtain⟨rfl,rfl,rfl⟩:=he;exact⟨none,F4 (JB R zaW k _ _ _ _ hr hv (wg ls (FV k _ _ _ hr)))⟩
   ·cases h
  ·cases h
def EP(r:D)(ls:List Nat):List Nat:=if wT r then[]else ls
def Cb{d:D}{v:Value}{g2:Nat->Option Blk}{μ2:Nat->Nat×Nat}{w2:World}{ok2:Nat->Nat->Prop}(hf:oH d=true)(h:TR im w ok d v):VR im g2 μ2 w2 ok2 d v:=by
 cases d<;>first|(simp only[oH]at hf;cases hf;done)|(simp only[TR]at h;simp only[VR];exact h)
def Ca{f:D->Bool}{g2:Nat->Option Blk}{μ2:Nat->Nat×Nat}{w2:World}{ok2:Nat->Nat->Prop}(hf:∀d v,f d=true->TR im w ok d v->VR im g2 μ2 w2 ok2 d v):
 ∀(cs:List D)(vs:List Value),cs.all f=true->TRl im w ok cs vs->VRl im g2 μ2 w2 ok2 cs vs
 |[],_,_,h=>by simpa only[TRl,VRl]using h
 |d::ds,vs,ha,h=>by
  simp only[TRl]at h;obtain⟨v,r,e,h1,h2⟩:=h;simp only[cH,aW]at ha;simp only[VRl];exact⟨v,r,e,hf d v ha.1 h1,Ca hf ds r ha.2 h2⟩
def Uf{d:D}{v:Value}{g2:Nat->Option Blk}{μ2:Nat->Nat×Nat}{w2:World}{ok2:Nat->Nat->Prop}(hf:uT d=true)(h:TR im w ok d v):VR im g2 μ2 w2 ok2 d v:=by
 cases d with
 |agg cs=>
  simp only[TR]at h;obtain⟨arr,e,hl⟩:=h;simp only[VR];exact⟨arr,e,Ca (λ_ _=>Cb) cs _ hf hl⟩
 |_=>exact Cb hf h
def Xz{d:D}{v:Value}{g2:Nat->Option Blk}{μ2:Nat->Nat×Nat}{w2:World}{ok2:Nat->Nat->Prop}(hf:wT d=true)(h:TR im w ok d v):VR im g2 μ2 w2 ok2 d v:=by
 cases d with
 |agg cs=>
  simp only[TR]at h;obtain⟨arr,e,hl⟩:=h;simp only[VR];exact⟨arr,e,Ca (λ_ _=>Cb) cs _ hf hl⟩
 |tup cs=>
  simp only[TR]at h;obtain⟨arr,e,hl⟩:=h;simp only[VR];exact⟨arr,e,Ca (λ_ _=>Uf) cs _ hf hl⟩
 |_=>exact Cb hf h
def C9{r:D}(hf:wT r=true)(nx:Nat):mat nx r=(r,[]):=by
 cases r with
 |own _ _ _=>cases hf
 |tup vs=>
  cases vs with
  |nil=>rfl
  |cons d ds=>
   cases d with
   |own _ _ _=>simp[wT,uT,oH]at hf
   |_=>rfl
 |_=>rfl
def YA{ob:Option Nat}{r:D}{v:Value}(hf:wT r=true)(h:WL im w ok base ob r v):TR im w ok r v:=by
 cases r with
 |own _ _ _=>cases hf
 |tup vs=>
  cases vs with
  |nil=>exact h
  |cons d ds=>
   cases d with
   |own _ _ _=>simp[wT,uT,oH]at hf
   |_=>exact h
 |_=>exact h
def QT(im:Nat->Option Nat)(g:Nat->Option Blk)(μ:Nat->Nat×Nat)(w:World)(ok okp:Nat->Nat->Prop)(base:Nat)(nx:Nat)(ls:List Nat)(r:D)(v:Value)(w':World):Prop:=
 ∃μ' ok',Rel im (tp (vZ g (EP r ls)) nx (mat nx r).2) μ' w' ok' okp base/\Stp g μ w ok (tp (vZ g (EP r ls)) nx (mat nx r).2) μ' w' ok' base/\
  VR im (tp (vZ g (EP r ls)) nx (mat nx r).2) μ' w' ok' (mat nx r).1 v
def JI(R:Rel im g μ w ok okp base){nx k:Nat}{r:D}(hn:(mat nx r).2≠[]->g nx=none){ds as:List D}{ls:List Nat}{vs:List Value}(hm:i8 (res g k) ds=some (as,ls))(hv:VRl im g μ w ok ds vs)
 {F:FuncId} (hS:rj P im F as r):
 Calls P F vs.toArray w (λe w'=>match e with
  |.returned v=>QT im g μ w ok okp base nx ls r v w'
  |.outgrown=>False
  |.panicked _=>False):=by
 have z6g:=tM hm;obtain⟨ok1,R1,S1,hls⟩:=LV ls g ok R z6g;have hT:TRl im w ok1 as vs:=Fp R S1.okk hm hv hls;refine Calls.mono (hS vs w ok1 hT (λb o hb=>(R1.okl b o hb).1)) (λe w' he=>?_);cases e with
 |outgrown=>exact he
 |panicked c=>exact he
 |returned v=>
  simp only at he ⊢;by_cases hf:wT r=true
  ·have h1:EP r ls=[]:=aF hf;unfold QT;rw[h1,C9 hf];obtain⟨hs,hk,hsm,ob,ho⟩:=he;obtain⟨r1,r2⟩:=R.grow hs hk hsm none;exact⟨μ,_,r1,r2,Xz hf (YA hf ho)⟩
  ·have h1:EP r ls=ls:=aG hf;unfold QT;rw[h1];obtain⟨μ',ok',k1,k2,k3⟩:=YG (λh=>D2 ls g (hn h)) R1 he;exact⟨μ',ok',k1,S1.trans k2,k3⟩
def Pc(σ:Sto)(ls:List Nat)(r:D):(fin σ ls r).1=(mat σ.nx r).1:=by
 unfold fin;split
 ·rename_i h;rw[C9 h]
 ·rfl
def pT:∀(bs:List Blk)(σ:Sto),(σ.adds bs).get=tp σ.get σ.nx bs/\(σ.adds bs).nx=σ.nx+bs.length
 |[],σ=>⟨rfl,rfl⟩
 |b::bs,σ=>by
  obtain⟨h1,h2⟩:=pT bs ⟨σ.m.set σ.nx b,Nat.succ σ.nx⟩;have hg:(Sto.mk (σ.m.set σ.nx b) (Nat.succ σ.nx)).get=upd σ.get σ.nx (some b):=funext λm=>Tr.get_set _ _ _ _;simp only[Sto.adds,tp];refine⟨?_,?_⟩
  ·rw[h1,hg]
  ·rw[h2];simp only[ah];omega
def jx.adds:∀(bs:List Blk){σ:Sto},jx σ->jx (σ.adds bs)
 |[],_,h=>h
 |b::bs,σ,h=>by
  have:=h.add1 b;exact jx.adds bs (σ:=⟨σ.m.set σ.nx b,Nat.succ σ.nx⟩) this
def Cc(σ:Sto)(ls:List Nat)(r:D):(fin σ ls r).2.get=tp (vZ σ.get (EP r ls)) σ.nx (mat σ.nx r).2:=by
 unfold fin EP;split
 ·rename_i h;rw[aF h,C9 h];rfl
 ·rename_i h;rw[aG (by rw[h];simp)];show((σ.frz ls).adds (mat σ.nx r).2).get=_;rw[(pT _ _).1,J7,J6]
def IP{σ:Sto}(hf:jx σ)(ls:List Nat)(r:D):jx (fin σ ls r).2:=by
 unfold fin;split
 ·exact hf
 ·exact jx.adds _ (D1 ls σ hf)
def N3(σ:Sto)(ls:List Nat)(r:D):(fin σ ls r).2.nx=σ.nx+(mat σ.nx r).2.length:=by
 unfold fin;split
 ·rename_i h;rw[C9 h];rfl
 ·show((σ.frz ls).adds (mat σ.nx r).2).nx=_;rw[(pT _ _).2,J6]
end
end Go.Proofs.Ev
namespace Go.Proofs.Ev
section
variable {P:Program} {im:Nat->Option Nat} {g:Nat->Option Blk} {μ:Nat->Nat×Nat} {w:World} {ok okp:Nat->Nat->Prop} {base:Nat} {e:Env} {a:Act} {o:Oper} {nx:Nat}
variable (R:Rel im g μ w ok okp base) (hE:ry im g μ w ok e a.tmps)
include R hE
theorem GY{nt:Nat}{d:D}{bs:List Blk}(h:evA nx (X.ev e) g (kpO nt (cOp P im o.op))=some (d,bs))(hf:∀j,j<bs.length->g (nx+j)=none):zF im g μ w ok okp base (tp g nx bs) d ((execOp a.eval o).run P w):=by
 rcases DR nt (cOp P im o.op)with hq|⟨sz,bs,x,y,h1,h2⟩
 ·rw[hq]at h;exact IT R hE d bs h hf
 ·rw[h2]at h;cases h
end
end Go.Proofs.Ev
