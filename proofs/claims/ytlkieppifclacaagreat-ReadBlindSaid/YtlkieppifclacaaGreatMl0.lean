/-
  The library of the decompiler, as far as it is needed here. Conditions: none.
-/
import Derived.WalkKit
import Derived.StillTail
import Derived.OwnWalkIn
import Derived.RangeFuncNested
import Derived.RangeFuncLeaves
import Derived.RangeFuncCalls
import Derived.ChangeSame
import Derived.OpenShut
import Derived.Carry
import Derived.DataReads
import Derived.Lib.AppendZerosOnto
import Derived.Lib.Overlaps
set_option linter.defProp false
set_option linter.unusedVariables false
set_option linter.unusedSimpArgs false
namespace Gv
open Go
def I{α:Sort _}{a:α}:a=a:=rfl
def cZ:True:=trivial
abbrev aa:=@List
abbrev aA:=@Option
abbrev bq:=@Go.World
abbrev bt:=@Go.Value
abbrev bF:=@Go.TypeId
abbrev ca:=@Go.Operand
def UQ:=@Array.getD_eq_getD_getElem?
def vD:=@Array.getElem?_append_left
def KF:=@Array.getElem?_eq_getElem
def U3:=@Array.getElem?_eq_none
def s5:=@Array.getElem?_eq_some_iff
def OZ:=@Array.getElem?_modify
def OO:=@Array.getElem?_setIfInBounds_ne
def zg:=@Array.getElem?_toList
def OU:=@Array.size_setIfInBounds
def Vm:=@Array.toList_filter
def CJ:=@BitVec.eq_of_getLsbD_eq
def CO:=@BitVec.eq_of_toNat_eq
def CS:=@BitVec.getLsbD_and
def zi:=@BitVec.getLsbD_of_ge
def OQ:=@BitVec.getLsbD_ushiftRight
def FU:=@BitVec.getLsbD_zero
def GL:=@BitVec.le_def
def GM:=@BitVec.lt_def
def Pj:=@BitVec.toNat_ofNat
def U4:=@BitVec.toNat_shiftLeft
def UZ:=@BitVec.toNat_ushiftRight
def gq:=@Bool.and_eq_true
def PG:=@Bool.and_true
def zp:=@Bool.eq_false_iff
def oG:=@Bool.eq_iff_iff
def sb:=@Bool.false_eq_true
def vN:=@Bool.false_or
def Vx:=@Bool.not_eq_false'
def lX:=@Bool.not_eq_true
def zq:=@Bool.not_eq_true'
def Vh:=@Bool.or_eq_false_iff
def nW:=@Bool.or_eq_true
def vO:=@Bool.true_and
def PU:=@Bool.true_or
def OS:=@Classical.byContradiction
def LI:=@Eq.trans
def qE:=@Int.eq_ofNat_of_zero_le
def P0:=@Int.le_refl
def C9:=@Int.lt_irrefl
def Vy:=@Int.natCast_nonneg
def FZ:=@Int.tmod_lt_of_pos
def Pz:=@Int.tmod_nonneg
def Lg:=@List.Perm.refl
def zr:=@List.Sublist.refl
def ns:=@List.all_eq_true
def xp:=@List.any_eq_false
def pc:=@List.any_eq_true
def jE:=@List.append_assoc
def KI:=@List.append_cancel_left
def O0:=@List.append_inj_left'
def mM:=@List.append_nil
def Vz:=@List.contains_cons
def O1:=@List.contains_iff_mem
def Va:=@List.contains_toArray
def O2:=@List.countP_le_length
def Pn:=@List.count_append
def VA:=@List.count_eq_zero
def KM:=@List.count_le_length
def Pq:=@List.drop_append
def UP:=@List.drop_append_of_le_length
def GA:=@List.drop_drop
def vE:=@List.drop_eq_getElem_cons
def Vi:=@List.drop_eq_nil_iff
def CL:=@List.drop_eq_nil_of_le
def xq:=@List.drop_length
def FK:=@List.drop_of_length_le
def Vn:=@List.drop_succ_cons
def vL:=@List.drop_take
def vM:=@List.drop_zero
def OP:=@List.eq_nil_of_length_eq_zero
def O7:=@List.eraseIdx_set_eq
def zt:=@List.ext_getElem
def mL:=@List.ext_getElem?
def Vb:=@List.filterMap_append
def uv:=@List.filter_append
def zf:=@List.filter_cons_of_neg
def CK:=@List.filter_cons_of_pos
def U5:=@List.filter_eq_nil_iff
def xm:=@List.filter_eq_self
def Vo:=@List.filter_sublist
def zm:=@List.find?_eq_none
def UO:=@List.find?_eq_some_iff_getElem
def KP:=@List.flatMap_append
def OW:=@List.flatMap_eq_nil_iff
def La:=@List.forIn_cons
def O8:=@List.getElem?_append
def KG:=@List.getElem?_append_left
def US:=@List.getElem?_append_right
def mo:=@List.getElem?_drop
def pa:=@List.getElem?_eq_getElem
def FN:=@List.getElem?_eq_none
def hh:=@List.getElem?_eq_some_iff
def U6:=@List.getElem?_eraseIdx
def Po:=@List.getElem?_map
def pR:=@List.getElem?_set
def vG:=@List.getElem?_set_ne
def CM:=@List.getElem?_set_self
def k3:=@List.getElem?_take
def OY:=@List.getElem_cons_drop
def CY:=@List.getElem_map
def gI:=@List.getElem_mem
def Vp:=@List.getElem_of_mem
def Pk:=@List.getElem_range
def gj:=@List.length_append
def ku:=@List.length_drop
def U7:=@List.length_eq_one_iff
def KJ:=@List.length_eq_zero_iff
def U0:=@List.length_erase_of_mem
def FO:=@List.length_filter_le
def kf:=@List.length_map
def U8:=@List.length_pos_of_mem
def CV:=@List.length_range
def CN:=@List.length_replicate
def pe:=@List.length_set
def fT:=@List.length_take
def pT:=@List.map_append
def KQ:=@List.map_congr_left
def oH:=@List.map_cons
def uy:=@List.map_map
def GS:=@List.map_nil
def cz:=@List.mem_append
def O9:=@List.mem_append_left
def FP:=@List.mem_append_right
def dW:=@List.mem_cons
def fM:=@List.mem_cons_of_mem
def kt:=@List.mem_cons_self
def Vj:=@List.mem_erase_of_ne
def uw:=@List.mem_filter
def Pl:=@List.mem_filterMap
def rn:=@List.mem_iff_getElem
def oE:=@List.mem_iff_getElem?
def gJ:=@List.mem_map
def UU:=@List.mem_of_find?_eq_some
def e6:=@List.mem_of_getElem?
def CQ:=@List.mem_of_mem_drop
def UW:=@List.mem_or_eq_of_mem_set
def nX:=@List.mem_range
def hi:=@List.mem_singleton
def Vq:=@List.mergeSort_perm
def rq:=@List.nil_sublist
def pS:=@List.nodup_append
def pf:=@List.nodup_cons
def PD:=@List.nodup_nil
def rr:=@List.not_mem_nil
def KN:=@List.pairwise_append
def mK:=@List.pairwise_cons
def UX:=@List.pairwise_iff_getElem
def F4:=@List.pairwise_map
def oF:=@List.perm_append_comm
def UT:=@List.perm_ext_iff_of_nodup
def sc:=@List.perm_middle
def CZ:=@List.range_succ
def Vc:=@List.set_getElem_self
def VB:=@List.singleton_inj
def F5:=@List.size_toArray
def PH:=@List.take_add
def Pp:=@List.take_add_one
def K3:=@List.take_append
def gp:=@List.take_append_drop
def CI:=@List.take_append_of_le_length
def Lh:=@List.take_left
def k4:=@List.take_length
def s6:=@List.take_of_length_le
def sd:=@List.take_take
def Lq:=@Nat.add_assoc
def PV:=@Nat.add_comm
def nu:=@Nat.add_mul
def nZ:=@Nat.beq_refl
def Vd:=@Nat.ble_eq_true_of_le
def Gm:=@Nat.div_add_mod
def U9:=@Nat.div_div_eq_div_mul
def Pu:=@Nat.div_eq_of_lt
def Ve:=@Nat.div_lt_iff_lt_mul
def Vk:=@Nat.div_lt_of_lt_mul
def P1:=@Nat.div_one
def Vf:=@Nat.eq_of_beq_eq_true
def VC:=@Nat.eq_zero_or_pos
def pb:=@Nat.le_of_ble_eq_true
def jF:=@Nat.le_refl
def qH:=@Nat.le_trans
def Lt:=@Nat.lt_irrefl
def rp:=@Nat.lt_of_lt_of_le
def uz:=@Nat.lt_or_ge
def pd:=@Nat.min_eq_left
def Pr:=@Nat.min_eq_right
def Gd:=@Nat.mod_eq_of_lt
def G3:=@Nat.mod_lt
def se:=@Nat.mul_comm
def KR:=@Nat.mul_le_mul_left
def hC:=@Nat.mul_le_mul_right
def PW:=@Nat.ne_of_lt
def Lz:=@Nat.one_mul
def F0:=@Nat.pos_of_ne_zero
def Vl:=@Nat.pow_lt_pow_right
def UY:=@Nat.shiftRight_eq_div_pow
def sf:=@Nat.succ_mul
def U1:=@Nat.testBit_div_two_pow
def jQ:=@Nat.zero_add
def vS:=@Nat.zero_le
def zG:=@Nat.zero_mul
def zQ:=@Ne.symm
def PI:=@Go.Oper.semAt_eq
def vP:=@Go.Oper.wp_mono
def U2:=@Option.bind_eq_some_iff
def OT:=@Option.isNone_iff_eq_none
def OV:=@Option.isSome_iff_exists
def xr:=@Option.some.inj
def gy:=@Option.some.injEq
def zy:=@Prod.mk.injEq
def Pa:=@Go.Region.waitsFor_spec
def dU:=@Go.Sem.run_bind
def ON:=@Std.Legacy.Range.forIn_eq_forIn_range'
def PJ:=@Go.StepsIn.trans
def OX:=@Go.World.putObj_heap_other
def K4:=@Go.World.size_alloc
def LJ:=@and_true
def Pb:=@beq_eq_false_iff_ne
def nv:=@beq_iff_eq
def Ge:=@beq_self_eq_true
def LA:=@Go.calls_of_wp
def zI:=@Go.cell_of_row
def ev:=@congrArg
def zu:=@decide_eq_decide
def ru:=@decide_eq_false
def nr:=@decide_eq_false_iff_not
def pV:=@decide_eq_true
def fk:=@decide_eq_true_eq
def vQ:=@decide_false
def LB:=@decide_true
def Dm:=@Go.fenced_calm
def n0:=@if_false
def bf:=@if_neg
def bk:=@if_pos
def lY:=@if_true
def xz:=@Go.mem_ready
def xG:=@not_or
def Pm:=@of_decide_eq_false
def vI:=@of_decide_eq_true
def rz:=@or_false
def LC:=@Go.run_endLoop
def PA:=@Go.run_eqGuard_agg
def CT:=@Go.run_loadCells_list
def F6:=@Go.run_storeCells_at
def ee:=@Go.run_underlying
def RJ(w:bq)(o:Obj)(i:Nat)(h:i<w.heap.size):(w.alloc o).heap[i]? =w.heap[i]? :=by
 show(w.heap.push o)[i]? =w.heap[i]?;rw[Array.getElem?_push,bf (PW h)]
def Zh(w:bq)(o:Obj):(w.alloc o).heap[w.heap.size]? =some o:=by
 show(w.heap.push o)[w.heap.size]? =some o;simp
structure Fr(X:List Nat)(W W':World):Prop where
 os:W'.os=W.os
 tape:W'.tape=W.tape
 output:W'.output=W.output
 drawn:W.drawn<=W'.drawn
 size:W.heap.size<=W'.heap.size
 block:∀k,k<W.heap.size->k∉X->W'.heap[k]? =W.heap[k]?
def Fr.refl(X:aa Nat)(W:bq):Fr X W W:=⟨rfl,rfl,rfl,jF _,jF _,λ_ _ _=>rfl⟩
def Fr.trans{X:aa Nat}{A B C:bq}(h:Fr X A B)(k:Fr X B C):Fr X A C:=
 ⟨k.os.trans h.os,k.tape.trans h.tape,k.output.trans h.output,qH h.drawn k.drawn,qH h.size k.size,
   λi au an=>(k.block i (rp au h.size) an).trans (h.block i au an)⟩
def Fr.weaken{X Y:aa Nat}{A B:bq}(h:Fr X A B)(s:∀k∈X,k∈Y):Fr Y A B:=
 ⟨h.os,h.tape,h.output,h.drawn,h.size,λi au an=>h.block i au λhm=>an (s _ hm)⟩
def Fr.nil{X:aa Nat}{A B:bq}(h:Fr [] A B):Fr X A B:=h.weaken (by simp)
def Fr.alloc{X:aa Nat}(W:bq)(o:Obj):Fr X W (W.alloc o):=
 ⟨rfl,rfl,rfl,jF _,by simp,λk hk _=>RJ W o k hk⟩
def Fr.drew{X:aa Nat}(W:bq):Fr X W W.drew:=⟨rfl,rfl,rfl,Nat.le_succ _,jF _,λ_ _ _=>rfl⟩
def Fr.setRow{X:aa Nat}(W:bq)(g:Nat)(cs:Array bt)(h:g∈X):Fr X W (W.setRow g cs):=
 ⟨rfl,rfl,rfl,jF _,by simp,λk _ an=>setRow_other W g k cs (λe=>an (e▸h))⟩
structure Ext(A:List Nat)(W:World)(cR:List Nat)(W':World):Prop where
 size:W.heap.size<=W'.heap.size
 block:∀k,k<W.heap.size->k∉A->W'.heap[k]? =W.heap[k]?
 new:∀k∈cR,k<W.heap.size->k∈A
def Ext.refl(A:aa Nat)(W:bq):Ext A W A W:=⟨jF _,λ_ _ _=>rfl,λ_ h _=>h⟩
def Ext.trans{A B C:aa Nat}{U V W:bq}(h:Ext A U B V)(k:Ext B V C W):Ext A U C W:=
 ⟨qH h.size k.size,
  λi au aY=>(k.block i (rp au h.size) (λhb=>aY (h.new i hb au))).trans (h.block i au aY),
  λi ak au=>h.new i (k.new i ak (rp au h.size)) au⟩
def Ext.aaE{A X:aa Nat}{W W':bq}(h:Fr X W W')(s:∀k∈X,k∈A):Ext A W A W':=
 ⟨h.size,λk hk aY=>h.block k hk λan=>aY (s k an),λ_ h _=>h⟩
def Ext.dI{A:aa Nat}{W W':bq}(h:Fr [] W W'):Ext A W A W':=.aaE h (by simp)
def Ext.drop{A cR:aa Nat}{W:bq}(s:∀k∈cR,k∈A):Ext A W cR W:=⟨jF _,λ_ _ _=>rfl,λk h _=>s k h⟩
structure J where
 holds:List Nat->World->Value->Prop
 mono:∀{A W cR W' v},Ext A W cR W'->holds A W v->holds cR W' v
class aj (α:Type)where
 size:Nat
 agg:Bool
 rep:aa Nat->bq->aa bt->α->Prop
 len:∀{A W cs x},rep A W cs x->cs.length=size
 one:∀{A W cs x},rep A W cs x->∀v∈cs,v.oneCell'=true
 flat:agg=false->size=1
 mono:∀{A W cR W' cs x},Ext A W cR W'->rep A W cs x->rep cR W' cs x
def shaped(b:Bool)(v:bt):Prop:=if b=true then ∃cs,v=.agg cs else v.oneCell'=true
def cells_one{v:bt}(h:v.oneCell'=true):v.cells= #[v]:=by cases v <;> first|rfl|simp[Value.oneCell']at h
def J.of{α:Type}[aj α](x:α):J where
 holds A W v:=shaped (aj.agg α) v∧aj.rep A W v.cells.toList x
 mono e h:=⟨h.1,aj.mono e h.2⟩
def J.eq(u:bt):J where
 holds _ _ v:=v=u
 mono _ h:=h
def J.cond(c:Prop)(τ:J):J where
 holds A W v:=(c->τ.holds A W v)∧(¬c->v=undef)
 mono e h:=⟨λak=>τ.mono e (h.1 ak),h.2⟩
def J.any:J where
 holds _ _ _:=True
 mono _ h:=h
inductive gL(A:List Nat)(W:World):List J->List Value->Prop
 |nil:gL A W [] []
 |cons {τ v τs vs}:τ.holds A W v->gL A W τs vs->gL A W (τ::τs) (v::vs)
def gL.mono{A W cR W'}(e:Ext A W cR W'):∀{τs vs},gL A W τs vs->gL cR W' τs vs
 |_,_,.nil=>.nil
 |_,_,.cons h r=>.cons (J.mono _ e h) (r.mono e)
def gL.length{A W}:∀{τs vs},gL A W τs vs->vs.length=τs.length
 |_,_,.nil=>rfl
 |_,_,.cons _ r=>by simp[r.length]
def J.b7(τs:aa J):J where
 holds A W v:=∃vs:Array bt,v=.tuple vs∧gL A W τs vs.toList
 mono e h:=let⟨vs,ba,cB⟩:=h; ⟨vs,ba,cB.mono e⟩
def J.ptr{α:Type}[aj α](x:α):J where
 holds A W v:=∃b off cur T jl,v=.pointer (some ⟨b,off,none⟩)∧b∉A∧W.heap[b]? =some (.cells cur T jl)∧off+aj.size α<=cur.size∧aj.rep A W ((cur.toList.drop off).take (aj.size α)) x
 mono e h:=by
  obtain⟨b,off,cur,T,jl,rfl,hb,cB,hs,aE⟩:=h;have ch:b<_:=(s5.1 cB).1;exact⟨b,off,cur,T,jl,rfl,λhm=>hb (e.new b hm ch),by rw[e.block b ch hb];exact cB,hs,aj.mono e aE⟩
structure eL where
 holds:List Nat->World->Obj->Prop
 pC:Prop
 mono:∀{A W cR W' o},Ext A W cR W'->holds A W o->holds cR W' o
def eL.var{α:Type}[aj α](x:α):eL where
 holds A W o:=∃cs T,o=.cells cs T (0,0)∧aj.rep A W cs.toList x
 pC:=False
 mono e h:=let⟨cs,T,a8,aE⟩:=h; ⟨cs,T,a8,aj.mono e aE⟩
def hx{α:Type}[aj α](A:aa Nat)(W:bq)(cs:aa bt)(xs:aa α):Prop:=
 cs.length=xs.length*aj.size α∧∀i (h:i<xs.length),aj.rep A W ((cs.drop (i*aj.size α)).take (aj.size α)) xs[i]
def hx.mono{α:Type}[aj α]{A W cR W'}{cs:aa bt}{xs:aa α}(e:Ext A W cR W')(h:hx A W cs xs):hx cR W' cs xs:=
 ⟨h.1,λi au=>aj.mono e (h.2 i au)⟩
def eL.row{α:Type}[aj α](T:bF)(xs:aa α)(cap:Nat):eL where
 holds A W o:=∃cs,o=.cells cs T (0,0)∧cs.size=cap*aj.size α∧xs.length<=cap∧cap<=maxLen∧hx A W (cs.toList.take (xs.length*aj.size α)) xs
 pC:=xs=[]∧cap=0
 mono e h:=let⟨cs,h1,ae,az,aQ,a7⟩:=h; ⟨cs,h1,ae,az,aQ,a7.mono e⟩
def eL.dead:eL where
 holds _ _ _:=True
 pC:=True
 mono _ h:=h
structure aI where
 key:Option Nat
 cp:eL
def aI.ok(A:aa Nat)(W:bq)(e:aI):Prop:=
 match e.key with
 |some p=> ∃o,W.heap[p]? =some o∧e.cp.holds A W o
 |none=>e.cp.pC
def ks:aa aI->aa Nat
 |[]=>[]
 | e::r=>match e.key with
   |some p=>p::ks r
   |none=>ks r
def sq{L:aa aI}{k:Nat}:k∈ks L↔∃e∈L,e.key=some k:=by
 induction L with
 |nil=>simp[ks]
 | cons e r b6=>
   cases hk:e.key with
   |none=>simp[ks,hk,b6]
   |some p=>simp[ks,hk,b6,eq_comm]
structure cC where
 P:Program
 n:Nat
 j1:World
 X:List Nat
 b3:List Nat
 rd:Option Nat
 ds:List Deferred
def tt(D:Nat):Deferred:= {target:=.collected D,args:= #[]}
abbrev cC.F(c:cC):Fence:= {fn:=λ_=>True,depth:=none,alive:=false,round:=c.rd}
abbrev cC.wp(c:cC)(y:Code)(Q:Exit->Act->bq->Prop):Act->bq->Prop:=y.wpIn c.F 9 c.P Q
abbrev cC.tG(c:cC)(ops:Array Oper)(Q:Exit->Act->bq->Prop):aa Oper->Act->bq->Prop:=wpListIn c.F 9 c.P ops Q
def look:aa (Nat×J)->Nat->aA J
 |[],_=>none
 |(s,τ)::r,t=>bif Nat.beq s t then some τ else look r t
structure bP(c:cC)(E:List (Nat×J))(L:List aI)(a:Act)(W:World):Prop where
 defers:a.defers=c.ds
 size:a.tmps.size=c.n
 env:∀t τ,look E t=some τ->∃v,a.tmps[t]? =some v∧τ.holds (ks L++c.b3) W v
 dI:Fr c.X c.j1 W
 own:∀e∈L,e.ok (ks L++c.b3) W
 nodup:(ks L).Nodup
 lt:∀k∈ks L,k<W.heap.size
 fO:∀k∈ks L,k<c.j1.heap.size->k∈c.X
 eG:∀k∈c.b3,k<W.heap.size∧k∉ks L
def fx{s t:Nat}:Nat.beq s t=true↔s=t:=by
 constructor
 ·exact Vf
 rintro rfl;exact nZ s
def bP.HY{c E L a W}(h:bP c E L a W):∀k∈ks L++c.b3,k<W.heap.size:=by
 intro k hk;rcases cz.1 hk with hk|hk
 ·exact h.lt k hk
 exact(h.eG k hk).1
def bP.world{c E L a W W'}(h:bP c E L a W)(f:Fr [] W W'):bP c E L a W' where
 defers:=h.defers
 size:=h.size
 env t τ ao:=let⟨v,h1,ae⟩:=h.env t τ ao; ⟨v,h1,τ.mono (.dI f) ae⟩
 dI:=h.dI.trans f.nil
 own e he:=by
  have h1:=h.own e he;unfold aI.ok at *;split at h1
  ·rename_i p hp;obtain⟨o,a8,cB⟩:=h1;have ch:=h.lt p (sq.2 ⟨e,he,hp⟩);exact⟨o,by rw[f.block p ch (by simp)];exact a8,eL.mono _ (.dI f) cB⟩
  exact h1
 nodup:=h.nodup
 lt k hk:=rp (h.lt k hk) f.size
 fO:=h.fO
 eG k hk:=⟨rp (h.eG k hk).1 f.size,(h.eG k hk).2⟩
def bP.put{c E L a W}(h:bP c E L a W){d:Nat}(hd:d<c.n){v:bt}{τ:J}(ba:τ.holds (ks L++c.b3) W v):
 bP c ((d,τ)::E) L (a.put (some d) v) W where
 defers:=h.defers
 size:=by simp[Act.put,h.size]
 env t tH ao:=by
  simp only[look]at ao;simp only[Act.put];by_cases e:Nat.beq d t=true
  ·rw[e]at ao;simp only[cond_true,gy]at ao;subst ao;have:=fx.1 e;subst this;exact⟨v,by simp[h.size,hd],ba⟩
  simp only[lX]at e;rw[e]at ao;simp only[cond_false]at ao;obtain⟨u,h1,ae⟩:=h.env t tH ao;have dm:d≠t:=λh=>by rw[fx.2 h]at e;cases e
  exact⟨u,by rw[OO dm];exact h1,ae⟩
 dI:=h.dI
 own:=h.own
 nodup:=h.nodup
 lt:=h.lt
 fO:=h.fO
 eG:=h.eG
def bP.Ae{c E L a W}(s:bP c E L a W)(h:c.ds=[]):a.defers=[]:=by rw[s.defers,h]
def bP.less{c E E' L a W}(h:bP c E L a W)(aJ:∀t τ,look E' t=some τ->∃σ,look E t=some σ∧∀A W v,σ.holds A W v->τ.holds A W v):bP c E' L a W:=
 {h with env:=λt τ ao=>let⟨_,h1,ae⟩:=aJ t τ ao;let⟨v,az,aQ⟩:=h.env t _ h1; ⟨v,az,ae _ _ _ aQ⟩}
def bP.alloc{c E L a W}(h:bP c E L a W){o:Obj}{cp:eL}(ak:cp.holds (ks L++c.b3) W o):
 bP c E (⟨some W.heap.size,cp⟩::L) a (W.alloc o):=by
 have rN:W.heap.size∉ks L:=λhm=>Lt _ (h.lt _ hm)
 have iG:Ext (ks L++c.b3) W (ks (⟨some W.heap.size,cp⟩::L)++c.b3) (W.alloc o):=
  ⟨by simp,λk hk _=>RJ W o k hk,λk hk ch=>by
   simp only[ks,List.cons_append,dW]at hk;rcases hk with rfl|hk
   ·exact absurd ch (Lt _)
   exact hk⟩
 exact
 {defers:=h.defers
  size:=h.size
  env:=λt τ ao=>let⟨v,h1,ae⟩:=h.env t τ ao; ⟨v,h1,τ.mono iG ae⟩
  dI:=h.dI.trans (Fr.alloc W o)
  own:=λe he=>by
   rcases dW.1 he with rfl|he
   ·exact⟨o,Zh W o,cp.mono iG ak⟩
   have h1:=h.own e he;unfold aI.ok at *;split at h1
   ·rename_i p hp;obtain⟨o',a8,cB⟩:=h1;exact⟨o',by rw[RJ W o p (h.lt p (sq.2 ⟨e,he,hp⟩))];exact a8,eL.mono _ iG cB⟩
   exact h1
  nodup:=by simp only[ks];exact pf.2 ⟨rN,h.nodup⟩
  lt:=λk hk=>by
   simp only[ks,dW]at hk;rw[K4];rcases hk with rfl|hk
   ·omega
   have:=h.lt k hk;omega
  fO:=λk hk ch=>by
   simp only[ks,dW]at hk;rcases hk with rfl|hk
   ·have:=h.dI.size;omega
   exact h.fO k hk ch
  eG:=λk hk=>by
   obtain⟨h1,ae⟩:=h.eG k hk;refine⟨by rw[K4];omega,λhm=>?_⟩;simp only[ks,dW]at hm;rcases hm with rfl|hm
   ·omega
   exact ae hm}
def bP.sub{c E L L' a W}(h:bP c E L a W)(ax:∀e∈L',e∈L)(aM:(ks L').Nodup):bP c E L' a W:=by
 have hk:∀k∈ks L',k∈ks L:=λk hk=>by
  obtain⟨e,he,ae⟩:=sq.1 hk;exact sq.2 ⟨e,ax e he,ae⟩
 have iG:Ext (ks L++c.b3) W (ks L'++c.b3) W:=.drop λk hm=>by
  rcases cz.1 hm with hm|hm
  ·exact cz.2 (.inl (hk k hm))
  exact cz.2 (.inr hm)
 exact
 {defers:=h.defers
  size:=h.size
  env:=λt τ ao=>let⟨v,h1,ae⟩:=h.env t τ ao; ⟨v,h1,τ.mono iG ae⟩
  dI:=h.dI
  own:=λe he=>by
   have h1:=h.own e (ax e he);unfold aI.ok at *;split at h1
   ·obtain⟨o',a8,cB⟩:=h1;exact⟨o',a8,eL.mono _ iG cB⟩
   exact h1
  nodup:=aM
  lt:=λk hm=>h.lt k (hk k hm)
  fO:=λk hm=>h.fO k (hk k hm)
  eG:=λk hm=>⟨(h.eG k hm).1,λae=>(h.eG k hm).2 (hk k ae)⟩}
def e1(L R:aa aI):ks (L++R)=ks L++ks R:=by
 induction L with
 |nil=>rfl
 |cons e r b6=>cases hk:e.key <;> simp[ks,hk,b6]
def MH{L:aa aI}{i:Nat}{e:aI}{cp:eL}(au:L[i]? =some e):ks (L.set i ⟨e.key,cp⟩)=ks L:=by
 induction L generalizing i with
 |nil=>simp at au
 | cons x r b6=>
   cases i with
   |zero=>simp only[List.getElem?_cons_zero,gy]at au;subst au;simp[ks]
   |succ i=>simp only[List.getElem?_cons_succ]at au;simp[ks,b6 au]
def RK{L:aa aI}(aM:(ks L).Nodup){i j:Nat}{e f:aI}{p:Nat}(au:L[i]? =some e)(aC:L[j]? =some f)(he:e.key=some p)(aW:f.key=some p):i=j:=by
 induction L generalizing i j with
 |nil=>simp at au
 | cons x r b6=>
   have aE:(ks r).Nodup:=by
    cases an:x.key with
    |none=>simpa[ks,an]using aM
    |some q=>simp only[ks,an]at aM;exact(pf.1 aM).2
   have I0:∀q,x.key=some q->q∉ks r:=λq an=>by simp only[ks,an]at aM;exact(pf.1 aM).1
   cases i with
   | zero=>
     simp only[List.getElem?_cons_zero,gy]at au
     subst au
     cases j with
     |zero=>rfl
     | succ j=>
       simp only[List.getElem?_cons_succ]at aC
       exact absurd (sq.2 ⟨f,e6 aC,aW⟩) (I0 p he)
   | succ i=>
     simp only[List.getElem?_cons_succ]at au
     cases j with
     | zero=>
       simp only[List.getElem?_cons_zero,gy]at aC
       subst aC
       exact absurd (sq.2 ⟨e,e6 au,he⟩) (I0 p aW)
     | succ j=>
       simp only[List.getElem?_cons_succ]at aC
       rw[b6 aE au aC]
def bP.store{c E L a W}(h:bP c E L a W){i p:Nat}{cp cp':eL}(au:L[i]? =some ⟨some p,cp⟩){cs eW:Array bt}{T:bF}
 (a8:W.heap[p]? =some (.cells cs T (0,0))) (ak:cp'.holds (ks L++c.b3) W (.cells eW T (0,0))):
 bP c E (L.set i ⟨some p,cp'⟩) a (W.setRow p eW):=by
 have fP:ks (L.set i ⟨some p,cp'⟩)=ks L:=MH (cp:=cp') au
 have hp:p∈ks L:=sq.2 ⟨_,e6 au,rfl⟩
 have iG:Ext (ks L++c.b3) W (ks L++c.b3) (W.setRow p eW):=
  ⟨by simp,λk _ aY=>setRow_other W p k eW (λe=>aY (e▸cz.2 (.inl hp))),λ_ h _=>h⟩
 exact
 {defers:=h.defers
  size:=h.size
  env:=λt τ ao=>by rw[fP];exact let⟨v,h1,ae⟩:=h.env t τ ao; ⟨v,h1,τ.mono iG ae⟩
  dI:=⟨h.dI.os,h.dI.tape,h.dI.output,h.dI.drawn,by simpa using h.dI.size,λk hk an=>by
   rw[setRow_other W p k eW (λe=>an (e▸h.fO p hp (e▸hk)))];exact h.dI.block k hk an⟩
  own:=λe he=>by
   rw[fP];obtain⟨j,aC⟩:=oE.1 he;rw[pR]at aC;split at aC
   ·rename_i gP;subst gP;split at aC
    ·simp only[gy]at aC;subst aC;exact⟨_,setRow_heap W p cs eW T (0,0) a8,cp'.mono iG ak⟩
    cases aC
   rename_i gP;have h1:=h.own e (e6 aC);unfold aI.ok at *;split at h1
   ·rename_i q hq;obtain⟨o',qo,cB⟩:=h1;have dm:q≠p:=λe'=>gP (RK h.nodup au aC I (e'▸hq));exact⟨o',by rw[setRow_other W p q eW dm];exact qo,eL.mono _ iG cB⟩
   exact h1
  nodup:=by rw[fP];exact h.nodup
  lt:=by rw[fP];simpa using h.lt
  fO:=by rw[fP];exact h.fO
  eG:=by rw[fP];simpa using h.eG}
abbrev aj.scalar{α:Type}(val:α->bt)(h:∀x,(val x).oneCell'=true):aj α where
 size:=1
 agg:=false
 rep _ _ cs x:=cs=[val x]
 len h:=by rw[h];rfl
 one aE:=by subst aE;intro v ba;rw[hi.1 ba];exact h _
 flat _:=rfl
 mono _ h:=h
instance:aj Bool:=.scalar Value.bool λ_=>rfl
instance:aj Int:=.scalar (Value.int .i64) λ_=>rfl
instance:aj (BitVec 64):=.scalar (λx=>Value.int .u64 (x.toNat:Int)) λ_=>rfl
instance:aj (BitVec 32):=.scalar (λx=>Value.int .u32 (x.toNat:Int)) λ_=>rfl
instance:aj (BitVec 16):=.scalar (λx=>Value.int .u16 (x.toNat:Int)) λ_=>rfl
instance:aj (BitVec 8):=.scalar (λx=>Value.int .u8 (x.toNat:Int)) λ_=>rfl
instance:aj ByteArray:=.scalar Value.string λ_=>rfl
def oJ{v u:bt}(h:v.oneCell'=true)(e:v.cells.toList=[u]):v=u:=by
 rw[cells_one h]at e;simpa using e
def of_bool{A W v}{b:Bool}:(J.of b).holds A W v↔v=.bool b:=
 ⟨λh=>oJ h.1 h.2,λh=>by subst h;exact⟨rfl,rfl⟩⟩
def of_int{A W v}{x:Int}:(J.of x).holds A W v↔v=.int .i64 x:=
 ⟨λh=>oJ h.1 h.2,λh=>by subst h;exact⟨rfl,rfl⟩⟩
def hJ{A W v}{x:BitVec 64}:(J.of x).holds A W v↔v=.int .u64 (x.toNat:Int):=
 ⟨λh=>oJ h.1 h.2,λh=>by subst h;exact⟨rfl,rfl⟩⟩
def Nn{A W v}{x:BitVec 8}:(J.of x).holds A W v↔v=.int .u8 (x.toNat:Int):=
 ⟨λh=>oJ h.1 h.2,λh=>by subst h;exact⟨rfl,rfl⟩⟩
def MI{A W v}{x:ByteArray}:(J.of x).holds A W v↔v=.string x:=
 ⟨λh=>oJ h.1 h.2,λh=>by subst h;exact⟨rfl,rfl⟩⟩
def aU(c:cC)(E:aa (Nat×J))(L:aa aI)(x:ca)(τ:J):Prop:=∀a W,bP c E L a W->τ.holds (ks L++c.b3) W (a.eval x)
section
variable{c:cC}{E:aa (Nat×J)}{L:aa aI}
def ag{t:Nat}{τ:J}(h:look E t=some τ):aU c E L (.tmp t) τ:=λa W s=>by
 obtain⟨v,h1,ae⟩:=s.env t τ h;have:a.eval (.tmp t)=v:=by simp[Act.eval,h1]
 rw[this];exact ae
def cW{t:Nat}{τ:J}{p:Prop}(h:look E t=some (.cond p τ))(hp:p):aU c E L (.tmp t) τ:=λa W s=>(ag h a W s).1 hp
def MB(v:bt):aU c E L (.const v) (.eq v):=λ_ _ _=>rfl
def dd(k:Int):aU c E L (.const (.int .i64 k)) (.of k):=λ_ _ _=>of_int.2 I
def h7(b:Bool):aU c E L (.const (.bool b)) (.of b):=λ_ _ _=>of_bool.2 I
def Ab(x:BitVec 64){k:Int}(h:(x.toNat:Int)=k):aU c E L (.const (.int .u64 k)) (.of x):=λ_ _ _=>hJ.2 (by rw[h];rfl)
def fX(s:ByteArray):aU c E L (.const (.string s)) (.of s):=λ_ _ _=>MI.2 I
def h0(P:Program)(o:Oper)(a:Act)(W:bq)(R:bt->bq->Prop):Prop:=
 o.wp P a W (λiw W'=> ∃v,iw=a.put o.dst v∧R v W') (λ_ _ _=>False)
def CallsIn.Q6{rd:aA Nat}{n:Nat}{P:Program}{f:FuncId}{args:Array bt}{w:bq}{R:Ending->bq->Prop}
 (h:Calls P f args w R):CallsIn {fn:=λ_=>True,depth:=none,alive:=false,round:=rd} n P f args w R:=
 (callsIn_wide (n:=n)).2 h
def RowsIn.alm{rd:aA Nat}{n:Nat}{P:Program}{row:String}{args:Array bt}{w:bq}{R:bt->bq->Prop}
 (h:Rows P row args w R):RowsIn {fn:=λ_=>True,depth:=none,alive:=false,round:=rd} n P row args w R:=
 λc cs _=>let⟨v,rf,r,s⟩:=h c cs; ⟨v,rf,r,stepsIn_wide.2 s⟩
def h0.wp{P:Program}{o:Oper}{a:Act}{W:bq}{R:bt->bq->Prop}{next:Act->bq->Prop}{Q:Exit->Act->bq->Prop}
 (h:h0 P o a W R) (hk:∀v W',R v W'->next (a.put o.dst v) W'):o.wp P a W next Q:=by
 unfold h0 Oper.wp at *
 generalize (execOp a.eval o).run P W=r at *
 cases r with
 | ok n W'=>
   cases n <;> simp only[Oper.upon]at h⊢
   case value v=>obtain⟨u,h1,ae⟩:=h;rw[h1];exact hk _ _ ae
   case skip=>obtain⟨u,h1,ae⟩:=h;rw[h1];exact hk _ _ ae
   case defer d=>obtain⟨u,h1,ae⟩:=h;rw[h1];exact hk _ _ ae
   case enter f args=>
    refine h.mono λe vo he=>?_
    cases e with
    |returned v=>obtain⟨u,h1,ae⟩:=he;simp only at h1⊢;rw[h1];exact hk _ _ ae
    |panicked ou=>exact he.elim
    |outgrown=>obtain⟨_,_,h1⟩:=he;exact h1.elim
   case row row args=>exact h.mono λv vo ⟨u,h1,ae⟩=>by rw[h1];exact hk _ _ ae
 |halt x W'=>cases x <;> simp only[Oper.upon]at h
def h0.aiN{P:Program}{o:Oper}{a:Act}{W:bq}{R:bt->bq->Prop}(h:h0 P o a W R):∀c,o.op≠ .defer c:=by
 intro c a8;unfold h0 Oper.wp execOp at h;rw[a8]at h;simp only[dU]at h;generalize (resolve a.eval c o.type).run P W=r at h;cases r with
 | ok d W'=>
   simp only[Result.andThen,Sem.run_pure,Oper.upon]at h
   obtain⟨v,h1,_⟩:=h
   have:=ev Act.defers h1
   cases hd:o.dst <;> simp[Act.put,hd]at this
 |halt x W'=>cases x <;> simp only[Result.andThen,Oper.upon]at h
def h0.wpIn{c:cC}{n:Nat}{o:Oper}{a:Act}{W:bq}{R:bt->bq->Prop}{next:Act->bq->Prop}{Q:Exit->Act->bq->Prop}
 (h:h0 c.P o a W R) (hk:∀v W',R v W'->next (a.put o.dst v) W'):o.wpIn c.F n c.P a W next Q:=by
 refine⟨λ_ _=>trivial,?_⟩
 rw[PI _ _ _ h.aiN]
 unfold h0 Oper.wp at h
 generalize (execOp a.eval o).run c.P W=r at *
 cases r with
 | ok m W'=>
   cases m <;> simp only[Oper.upon,Oper.uponIn]at h⊢
   case value v=>obtain⟨u,h1,ae⟩:=h;rw[h1];exact hk _ _ ae
   case skip=>obtain⟨u,h1,ae⟩:=h;rw[h1];exact hk _ _ ae
   case defer d=>obtain⟨u,h1,ae⟩:=h;rw[h1];exact hk _ _ ae
   case enter f args=>
    refine⟨λh=>by simp at h,CallsIn.Q6 ?_⟩
    refine h.mono λe vo he=>?_
    cases e with
    |returned v=>obtain⟨u,h1,ae⟩:=he;simp only at h1⊢;rw[h1];exact hk _ _ ae
    |panicked ou=>exact he.elim
    |outgrown=>obtain⟨_,_,h1⟩:=he;exact h1.elim
   case row row args=>
    refine⟨λh=>by simp at h,RowsIn.alm ?_⟩
    exact h.mono λv vo ⟨u,h1,ae⟩=>by rw[h1];exact hk _ _ ae
 |halt x W'=>cases x <;> simp only[Oper.upon]at h
def P6{F:Fence}{n:Nat}{P:Program}{md:Region.Mode}{ops:Array Oper}{ua:Exit->Act->bq->Prop}:∀(l:aa Oper) (k:Nat) (cb:Array Bool) (a:Act) (w:bq),(∀j,l[j]? =ops[k+j]?)->
 Region.seqB md ops l.length k cb=true->wpListIn F n P ops ua l a w->wpAnyIn F n P md ops ua l.length cb a w
 |[],_,_,_,_,_,cI,h=>⟨by simpa[Region.seqB]using cI,h⟩
 | o::l,k,cb,a,w,ao,cI,h=>by
   have bJ:ops[k]? =some o:=by simpa using (ao 0).symm
   simp only[List.length_cons,Region.seqB,gq,fk]at cI;refine⟨λh1=>(by rw[cI.1]at h1;cases h1),λi au=>?_⟩;rw[cI.1]at au;have oY:i=k:=by simpa using au
   subst oY;have hw:wpOpIn F n P ops ua i (wpListIn F n P ops ua l) a w:=by unfold wpOpIn;simp only[bJ];exact h
   exact wpOpIn_mono (λiw rf c8=>P6 l (i+1) _ iw rf (λj=>by have:=ao (j+1);simpa[Lq,PV 1 j]using this) cI.2 c8) hw
def h0.mV{P:Program}{o:Oper}{a:Act}{W W':bq}{R:bt->bq->Prop}{v:bt}
 (h:(execOp a.eval o).run P W=.ok (.value v) W') (aE:R v W'):h0 P o a W R:=by
 unfold h0 Oper.wp
 rw[h]
 exact⟨v,rfl,aE⟩
def h0.DV{P:Program}{o:Oper}{a:Act}{W W':bq}{R:bt->bq->Prop}
 (h:(execOp a.eval o).run P W=.ok .skip W') (aE:R undef W'):h0 P o a W R:=by
 unfold h0 Oper.wp
 rw[h]
 exact⟨undef,rfl,aE⟩
def h0.wa{P:Program}{o:Oper}{a:Act}{W W':bq}{R:bt->bq->Prop}{f:FuncId}{args:Array bt}
 (h:(execOp a.eval o).run P W=.ok (.enter f args) W') (aE:Calls P f args W' λe vo=> ∃v,e=.returned v∧R v vo):h0 P o a W R:=by
 unfold h0 Oper.wp
 rw[h]
 exact aE.mono λe vo ⟨v,he,ae⟩=>by subst he;exact⟨v,rfl,ae⟩
def bj(c:cC)(E:aa (Nat×J))(L:aa aI)(o:Oper)(τ:J):Prop:=
 ∀a W,bP c E L a W->h0 c.P o a W λv W'=>Fr [] W W'∧τ.holds (ks L++c.b3) W' v
def bj.pure{o:Oper}{τ:J}(h:∀a W,bP c E L a W->∃v,(execOp a.eval o).run c.P W=.ok (.value v) W∧τ.holds (ks L++c.b3) W v):bj c E L o τ:=
 λa W s=>let⟨_,h1,ae⟩:=h a W s; .mV h1 ⟨.refl _ _,ae⟩
variable{ops:Array Oper}{Q:Exit->Act->bq->Prop}
def ad(c:cC)(ops:Array Oper)(Q:Exit->Act->bq->Prop)(l:aa Oper)(E:aa (Nat×J))(L:aa aI):Prop:=
 ∀a W,bP c E L a W->c.tG ops Q l a W
def aq(c:cC)(Q:Exit->Act->bq->Prop)(x:Exit)(E:aa (Nat×J))(L:aa aI):Prop:=∀a W,bP c E L a W->Q x a W
def ad.nil(h:aq c Q .normal E L):ad c ops Q [] E L:=λa W s=>wpListIn_nil (h a W s)
def iO{c:cC}{o:Oper}{rest:aa Oper}{a:Act}{W:bq}(bH:o.guard=none){R:bt->bq->Prop}(h:h0 c.P o a W R)
 (hk:∀v W',R v W'->c.tG ops Q rest (a.put o.dst v) W'):c.tG ops Q (o::rest) a W:=
 wpListIn_plain bH λ_ ov=>h.wpIn λv W' aE=>ov _ _ (hk v W' aE)
def ad.v{o:Oper}{rest:aa Oper}{d:Nat}{τ:J}(h:bj c E L o τ)(bH:o.guard=none)(hd:o.dst=some d)(aM:Nat.blt d c.n=true)
 (k:ad c ops Q rest ((d,τ)::E) L):ad c ops Q (o::rest) E L:=λa W s=>
 iO bH (h a W s) λv W' ⟨f,ba⟩=>by
  rw[hd];exact k _ _ ((s.world f).put (by simpa using aM) ba)
def LZ{j g:Nat}{b:Bool}(aC:(ops[j]?).bind (·.dst)=some g)(ao:look E g=some (.of b)){a:Act}{W:bq}(s:bP c E L a W):
 yielded ops a.tmps j=some b:=by
 obtain⟨v,h1,ae⟩:=s.env g _ ao
 unfold yielded
 rw[aC]
 simp only[Option.bind_some,h1,of_bool.1 ae]
def ad.g{o:Oper}{rest:aa Oper}{d j g:Nat}{b want:Bool}{τ:J}(h:b=want->bj c E L o τ)(bH:o.guard=some (j,want))(aC:(ops[j]?).bind (·.dst)=some g)
 (ao:look E g=some (.of b)) (hd:o.dst=some d) (aM:Nat.blt d c.n=true)
 (k:ad c ops Q rest ((d,.cond (b=want) τ)::E) L):ad c ops Q (o::rest) E L:=λa W s=>by
 have hy:=LZ aC ao s
 unfold cC.tG wpListIn
 by_cases hb:b=want
 ·rw[bk (by simp[Region.wanted,bH,hy,hb])]
  refine((h hb a W s).wpIn λv W' ⟨f,ba⟩=>?_)
  rw[hd]
  exact k _ _ ((s.world f).put (by simpa using aM) ⟨λ_=>ba,λh=>absurd hb h⟩)
 rw[bf (by simp[Region.wanted,bH,hy,hb])]
 rw[hd]
 exact⟨λ_ _=>trivial,k _ _ (s.put (by simpa using aM) ⟨λh=>absurd h hb,λ_=>rfl⟩)⟩
def agv{j g:Nat}{p:Prop}{b:Bool}(aC:(ops[j]?).bind (·.dst)=some g)(ao:look E g=some (.cond p (.of b))){a:Act}{W:bq}(s:bP c E L a W):
 (p->yielded ops a.tmps j=some b)∧(¬p->yielded ops a.tmps j=none):=by
 obtain⟨v,h1,ae,az⟩:=s.env g _ ao
 unfold yielded
 rw[aC]
 simp only[Option.bind_some,h1]
 exact⟨λhp=>by simp only[of_bool.1 (ae hp)],λhp=>by simp only[az hp];rfl⟩
def ad.gg{o:Oper}{rest:aa Oper}{d j g:Nat}{p:Prop}{b want:Bool}{τ:J}(h:p∧b=want->bj c E L o τ)(bH:o.guard=some (j,want))(aC:(ops[j]?).bind (·.dst)=some g)
 (ao:look E g=some (.cond p (.of b))) (hd:o.dst=some d) (aM:Nat.blt d c.n=true)
 (k:ad c ops Q rest ((d,.cond (p∧b=want) τ)::E) L):ad c ops Q (o::rest) E L:=λa W s=>by
 have hy:=agv aC ao s
 unfold cC.tG wpListIn
 by_cases hb:p∧b=want
 ·rw[bk (by simp[Region.wanted,bH,hy.1 hb.1,hb.2])]
  refine((h hb a W s).wpIn λv W' ⟨f,ba⟩=>?_)
  rw[hd]
  exact k _ _ ((s.world f).put (by simpa using aM) ⟨λ_=>ba,λh=>absurd hb h⟩)
 have hw:Region.wanted o (yielded ops a.tmps)=false:=by
  by_cases hp:p
  ·have: ¬(b=want):=λh=>hb ⟨hp,h⟩;simp[Region.wanted,bH,hy.1 hp,this]
  simp[Region.wanted,bH,hy.2 hp]
 rw[bf (by simp[hw])]
 refine⟨λ_ _=>trivial,?_⟩
 rw[hd]
 exact k _ _ (s.put (by simpa using aM) ⟨λh=>absurd h hb,λ_=>rfl⟩)
inductive eZ(E:List (Nat×J)):List (Nat×J)->Prop
 |nil:eZ E []
 |cons {t τ σ r}:look E t=some σ->(∀A W v,σ.holds A W v->τ.holds A W v)->eZ E r->eZ E ((t,τ)::r)
def eZ.same{t:Nat}{τ:J}{r:aa (Nat×J)}(h:look E t=some τ)(k:eZ E r):eZ E ((t,τ)::r):=.cons h (λ_ _ _ h=>h) k
def eZ.all{r:aa (Nat×J)}(h:eZ E r:=by repeat (first|exact eZ.nil|refine eZ.same I ?_)):eZ E r:=h
def eZ.look:∀{E':aa (Nat×J)},eZ E E'->∀t τ,Gv.look E' t=some τ->∃σ,Gv.look E t=some σ∧∀A W v,σ.holds A W v->τ.holds A W v
 |_,.nil,t,τ,h=>by simp[Gv.look]at h
 | _,.cons (t:=s) (σ:=σ) h1 ae r,t,τ,h=>by
   simp only[Gv.look]at h;by_cases e:Nat.beq s t=true
   ·rw[e]at h;simp only[cond_true,gy]at h;subst h;rw[fx.1 e]at h1;exact⟨σ,h1,ae⟩
   simp only[lX]at e;rw[e]at h;exact r.look t τ h
def aq.le{x:Exit}{E':aa (Nat×J)}(h:eZ E E')(k:aq c Q x E' L):aq c Q x E L:=λa W s=>k a W (s.less h.look)
def ad.le{l:aa Oper}{E':aa (Nat×J)}(h:eZ E E')(k:ad c ops Q l E' L):ad c ops Q l E L:=λa W s=>k a W (s.less h.look)
def ay(c:cC)(Q:Exit->Act->bq->Prop)(code:Code)(E:aa (Nat×J))(L:aa aI):Prop:=∀a W,bP c E L a W->c.wp code Q a W
def ay.le{code:Code}{E':aa (Nat×J)}(h:eZ E E')(k:ay c Q code E' L):ay c Q code E L:=λa W s=>k a W (s.less h.look)
def ay.eQ{id:Nat}{l:aa Oper}(h:ad c l.toArray Q l E L):ay c Q (.region id l.toArray false) E L:=λa W s=>wpIn_region_lit (h a W s)
def ay.seq{x y:Code}(h:ay c (Exit.then (c.wp y Q) Q) x E L):ay c Q (.seq x y) E L:=λa W s=>wpIn_seq (h a W s)
def aq.next{y:Code}(h:ay c Q y E L):aq c (Exit.then (c.wp y Q) Q) .normal E L:=λa W s=>h a W s
def aq.exit{y:Act->bq->Prop}{id:Nat}(h:aq c Q (.exit id) E L):aq c (Exit.then y Q) (.exit id) E L:=λa W s=>h a W s
def aq.ret{y:Act->bq->Prop}(h:aq c Q .ret E L):aq c (Exit.then y Q) .ret E L:=λa W s=>h a W s
def ay.block{id:Nat}{x:Code}(h:ay c (Exit.inBlock id Q) x E L):ay c Q (.block id x) E L:=λa W s=>wpIn_block (h a W s)
def aq.mW{id:Nat}(h:aq c Q .normal E L):aq c (Exit.inBlock id Q) .normal E L:=λa W s=>h a W s
def aq.lz{id:Nat}(h:aq c Q .normal E L):aq c (Exit.inBlock id Q) (.exit id) E L:=λa W s=>by
 show(if id=id then Q .normal a W else Q (.exit id) a W);rw[bk I];exact h a W s
def aq.aln{id Jn:Nat}(dm:Nat.beq Jn id=false)(h:aq c Q (.exit Jn) E L):aq c (Exit.inBlock id Q) (.exit Jn) E L:=λa W s=>by
 show(if Jn=id then Q .normal a W else Q (.exit Jn) a W);rw[bf (λe=>by rw[e,nZ]at dm;cases dm)];exact h a W s
def aq.rL{id:Nat}(h:aq c Q .ret E L):aq c (Exit.inBlock id Q) .ret E L:=λa W s=>h a W s
def ay.skip(h:aq c Q .normal E L):ay c Q .skip E L:=λa W s=>wpIn_skip (h a W s)
def ay.exit{id:Nat}(h:aq c Q (.exit id) E L):ay c Q (.exit id) E L:=λa W s=>wpIn_exit (h a W s)
def ay.ret(h:aq c Q .ret E L):ay c Q .ret E L:=λa W s=>wpIn_ret (h a W s)
def ay.cond{x:ca}{b:Bool}{y z:Code}(ao:aU c E L x (.of b))(bE:b=true->ay c Q y E L)(aW:b=false->ay c Q z E L):ay c Q (.cond x y z) E L:=
 λa W s=>wpIn_cond_split (of_bool.1 (ao a W s)) (λh=>bE h a W s) (λh=>aW h a W s)
def dy{σ ε:Type}:Nat->(σ->aA (σ⊕ε))->σ->aA ε
 |0,_,_=>none
 | n+1,b,s=>match b s with
   |none=>none
   |some (.inl cH)=>dy n b cH
   |some (.inr e)=>some e
def atM{σ ε:Type}(c:cC)(E:σ->aa (Nat×J))(L:σ->aa aI)(xs:ε->Exit)(eJ:ε->aa (Nat×J))(Lx:ε->aa aI):σ⊕ε->Exit->Act->bq->Prop
 | .inl s,x,a,W=>x=.normal∧bP c (E s) (L s) a W
 | .inr e,x,a,W=>x≠ .normal∧x=xs e∧bP c (eJ e) (Lx e) a W
def aq.round{σ ε:Type}{E':σ->aa (Nat×J)}{L':σ->aa aI}{xs:ε->Exit}{eJ:ε->aa (Nat×J)}{Lx:ε->aa aI}{s:σ}
 (h:∀a W,bP c E L a W->bP c (E' s) (L' s) a W):aq c (atM c E' L' xs eJ Lx (.inl s)) .normal E L:=λa W st=>⟨rfl,h a W st⟩
def ah3{F:Fence}{n:Nat}{P:Program}{body:Code}{σ ε:Type}(b:σ->aA (σ⊕ε))(fC:σ->Act->bq->Prop)(X:ε->Exit->Act->bq->Prop)
 (uV:∀s r,b s=some r->∀a W,fC s a W->body.wpIn F n P (λx a W=>match r with | .inl cH=>x=.normal∧fC cH a W| .inr e=>x≠ .normal∧X e x a W) a W)
 (Q:Exit->Act->bq->Prop) (e:ε) (p8:∀x a W,X e x a W->Q x a W) {s0:σ} {N:Nat} (ao:dy N b s0=some e) {a0:Act} {j1:bq} (bJ:fC s0 a0 j1):
 (Code.loop body).wpIn F n P Q a0 j1:=by
 intro dI k cs oZ hb aE
 have key:∀N s,dy N b s=some e->∀a W,fC s a W->
  ∃x iw W',Q x iw W'∧ArrivesIn (Machine.fenced P F) P (lone (dI.atR a (.code body::.inLoop body::k)) cs W) dI k cs x iw W':=by
  intro N
  induction N with
  |zero=>intro s h;simp[dy]at h
  | succ N b6=>
    intro s h a W pN
    simp only[dy]at h
    split at h
    ·cases h
    ·rename_i cH hs
     obtain⟨x,sF,Eu,hq,oU⟩:=uV s _ hs a W pN dI (.inLoop body::k) cs oZ hb aE
     obtain⟨an,To⟩:=hq
     subst an
     obtain⟨S3,S4,S5,St,Q7⟩:=b6 cH h sF Eu To
     exact⟨S3,S4,S5,St,.of_steps (PJ oU (.one (Dm hb aE I) stepR_inLoop)) Q7⟩
    rename_i e' hs
    simp only[gy]at h
    subst h
    obtain⟨x,sF,Eu,hq,oU⟩:=uV s _ hs a W pN dI (.inLoop body::k) cs oZ hb aE
    obtain⟨an,nQ⟩:=hq
    exact⟨x,sF,Eu,p8 _ _ _ nQ,.pass (x:=.inLoop body) I (λ_ _=>.inl an) oU⟩
 obtain⟨x,iw,W',hq,oU⟩:=key N s0 ao a0 j1 bJ
 exact⟨x,iw,W',hq,.of_steps (.one (Dm hb aE I) stepR_loop) oU⟩
def cE(P:Program)(f:FuncId)(τs:aa J)(ρ:J):Prop:=
 ∀ (A:aa Nat) (W:bq) (vs:aa bt),(∀k∈A,k<W.heap.size)->gL A W τs vs->
   Calls P f vs.toArray W λe W'=> ∃v,e=.returned v∧Fr [] W W'∧ρ.holds A W' v
def params:Nat->aa J->aa (Nat×J)
 |_,[]=>[]
 |k,τ::r=>(k,τ)::params (k+1) r
def zW{A:aa Nat}{W:bq}{τs:aa J}{vs:aa bt}(h:gL A W τs vs):∀(k t:Nat) (τ:J),look (params k τs) t=some τ->k<=t∧∃v,vs[t-k]? =some v∧τ.holds A W v:=by
 induction h with
 |nil=>intro k t τ h;simp[params,look]at h
 | cons h1 r b6=>
   intro k t τ ao
   simp only[params,look]at ao
   by_cases e:Nat.beq k t=true
   ·rw[e]at ao
    simp only[cond_true,gy]at ao
    subst ao
    rw[fx.1 e]
    exact⟨jF _,_,by simp,h1⟩
   simp only[lX]at e
   rw[e]at ao
   have dm:k≠t:=λh=>by rw[fx.2 h]at e;cases e
   obtain⟨ae,v,az,aQ⟩:=b6 (k+1) t τ ao
   refine⟨by omega,v,?_,aQ⟩
   rw[show t-k=(t-(k+1))+1 by omega,List.getElem?_cons_succ]
   exact az
def cE.enter{P:Program}{f:FuncId}{fn:Func}{code:Code}{n:Nat}{τs:aa J}{ρ:J}(aW:P.funcs[f]? =some fn)(hb:fn.body=some code)(aM:fn.ntmps=n)(hlen:Nat.ble τs.length n=true)
 (h:∀W A,ay ⟨P,n,W,[],A,none,[]⟩ (bodyPost P fn λe W'=> ∃v,e=.returned v∧Fr [] W W'∧ρ.holds A W' v) code (params 0 τs) []):cE P f τs ρ:=by
 intro A W vs eB ba
 refine LA aW hb (wpIn_wide.1 (h W A _ _ ?_))
 have ao:=ba.length
 have hle:τs.length<=n:=pb hlen
 exact
 {defers:=rfl
  size:=by simp[aM,ao];omega
  env:=λt τ kX=>by
   obtain⟨_,v,ae,az⟩:=zW ba 0 t τ kX;refine⟨v,?_,az⟩;have ch:t<vs.length:=(hh.1 ae).1;rw[vD (by simpa using ch)];simpa using ae
  dI:=.refl _ _
  own:=by simp
  nodup:=by simp[ks]
  lt:=by simp[ks]
  fO:=by simp[ks]
  eG:=λk hk=>⟨eB k hk,by simp[ks]⟩}
def WS{ρ:J}{A B:aa Nat}{W:bq}{v:bt}(h:ρ.holds (B++A) W v):ρ.holds A W v:=ρ.mono (.drop λ_ h=>cz.2 (.inr h)) h
end
section
variable{c:cC}{E:aa (Nat×J)}{L:aa aI}{ops:Array Oper}{Q:Exit->Act->bq->Prop}
def k0(c:cC)(ops:Array Oper)(E:aa (Nat×J))(L:aa aI)(o:Oper)(τ:J):Prop:=
 ∀ a W,bP c E L a W->
   (Region.wanted o (yielded ops a.tmps)=true->h0 c.P o a W λv W'=>Fr [] W W'∧τ.holds (ks L++c.b3) W' v)∧
   (Region.wanted o (yielded ops a.tmps)=false->τ.holds (ks L++c.b3) W undef)
def k0.v{o:Oper}{τ:J}(h:bj c E L o τ)(bH:o.guard=none):k0 c ops E L o τ:=λa W s=>
 ⟨λ_=>h a W s,λhw=>by simp[Region.wanted,bH]at hw⟩
def k0.g{o:Oper}{j g:Nat}{b want:Bool}{τ:J}(h:b=want->bj c E L o τ)(bH:o.guard=some (j,want))(aC:(ops[j]?).bind (·.dst)=some g)(ao:look E g=some (.of b)):
 k0 c ops E L o (.cond (b=want) τ):=λa W s=>by
 have hy:=LZ aC ao s
 constructor
 ·intro hw
  have hb:b=want:=by simpa[Region.wanted,bH,hy]using hw
  refine h0.wp (h hb a W s) λv W' ⟨f,ba⟩=>⟨v,rfl,f,λ_=>ba,λh=>absurd hb h⟩
 intro hw
 exact⟨λhb=>by simp[Region.wanted,bH,hy,hb]at hw,λ_=>rfl⟩
inductive ub
 |val (τ:J)
 |new (cp:eL)
 |nI (i:Nat) (cp:eL)
 |Tp (j:Nat) (cp:eL)
def ub.aon:ub->Bool
 | .nI _ _| .Tp _ _=>true
 |_=>false
def ub.adl(p:Nat):ub->aA J
 | .val τ=>some τ
 | .new _=>some (.eq (.pointer (some ⟨p,0,none⟩)))
 |_=>none
def he(ec:Nat->Nat)(oQ:aa (aA Nat))(hs:aa ub)(E:aa (Nat×J)):aa Nat->aa (Nat×J)
 |[]=>E
 | j::r=>match oQ[j]?,hs[j]? with
   | some (some s),some h=>match h.adl (ec j)with
     |some τ=>(s,τ)::he ec oQ hs E r
     |none=>he ec oQ hs E r
   |_,_=>he ec oQ hs E r
def aaF:aa aI->Nat->eL->aa aI
 |[],_,_=>[]
 |e::r,0,cp=>⟨e.key,cp⟩::r
 |e::r,i+1,cp=>e::aaF r i cp
def N7(L:aa aI):aa ub->aa aI
 |[]=>L
 | .nI i cp::r=>N7 (aaF L i cp) r
 |_::r=>N7 L r
def S6(j:Nat)(cp:eL):aa ub->eL
 |[]=>cp
 | .Tp i cp'::r=>S6 j (bif Nat.beq i j then cp' else cp) r
 |_::r=>S6 j cp r
def u5(w:Nat->Bool)(i:Nat):Nat->aa ub->Bool
 |_,[]=>true
 |k,.nI j _::r=>(!(Nat.beq j i)||w k)&&u5 w i (k+1) r
 |k,.val _::r=>u5 w i (k+1) r
 |k,.new _::r=>u5 w i (k+1) r
 |k,.Tp _ _::r=>u5 w i (k+1) r
def Zi(f g:Nat->Bool)(i:Nat)(aW:f i=true)(bH:g i=false)(h:∀j,g j=true->f j=true):∀n,i<n->((List.range n).filter g).length<((List.range n).filter f).length:=by
 have le:∀n,((List.range n).filter g).length<=((List.range n).filter f).length:=by
  intro n;induction n with
  |zero=>simp
  | succ n b6=>
    rw[CZ,uv,uv,gj,gj]
    have:([n].filter g).length<=([n].filter f).length:=by
     cases B8:g n with
     |false=>simp[B8]
     |true=>simp[B8,h n B8]
    omega
 intro n;induction n with
 |zero=>omega
 | succ n b6=>
   intro ch
   rw[CZ,uv,uv,gj,gj]
   by_cases e:i=n
   ·subst e
    have:=le i
    simp[aW,bH]
    omega
   have h1:=b6 (by omega)
   have:([n].filter g).length<=([n].filter f).length:=by
    cases B8:g n with
    |false=>simp[B8]
    |true=>simp[B8,h n B8]
   omega
def ahj{n:Nat}{cb:Array Bool}(inv:HeadInv .any ops n cb)(aM:n<=ops.size)(qi:∀i,i<n->cb.getD i true=true):
 cb=(List.range n).foldl (λl i=>l.setIfInBounds i true) (Array.replicate ops.size false):=by
 have key:∀m,m<=ops.size->((List.range m).foldl (λl i=>l.setIfInBounds i true) (Array.replicate ops.size false)).size=ops.size∧
  ∀j (d:Bool),j<ops.size->((List.range m).foldl (λl i=>l.setIfInBounds i true) (Array.replicate ops.size false)).getD j d=decide (j<m):=by
  intro m
  induction m with
  |zero=>intro _;exact⟨by simp,λj d aC=>by simp[aC]⟩
  | succ m b6=>
    intro hm
    obtain⟨h1,ae⟩:=b6 (by omega)
    rw[CZ,List.foldl_append]
    simp only[List.foldl_cons,List.foldl_nil]
    refine⟨by simpa using h1,λj d aC=>?_⟩
    by_cases e:m=j
    ·subst e
     simp[h1,aC]
    rw[getD_set_ne d e,ae j d aC]
    by_cases az:j<m
    ·simp[az];omega
    simp[az];omega
 obtain⟨h1,ae⟩:=key n aM
 apply Array.ext
 ·rw[inv.size,h1]
 intro i B9 Jo
 have au:i<ops.size:=by rw[<-inv.size];exact B9
 have az:=ae i true au
 have ar:cb.getD i true=cb[i]:=by simp[B9]
 have aK:((List.range n).foldl (λl i=>l.setIfInBounds i true) (Array.replicate ops.size false)).getD i true=((List.range n).foldl (λl i=>l.setIfInBounds i true) (Array.replicate ops.size false))[i]:=by
  simp[Jo]
 rw[<-aK,az,<-ar]
 by_cases aQ:i<n
 ·rw[qi i aQ];simp[aQ]
 rw[inv.tail i (by omega) au];simp[aQ]
def abK(ec:Nat->Nat)(all:aa ub)(b:Nat)(rh:aa Nat):aa aI:=rh.map λj=>⟨some (ec j),match all[j]? with |some (.new cp)=>S6 j cp (all.take b)|_=>.dead⟩
structure auK(c:cC)(n:Nat)(oQ:List (Option Nat))(hs:List ub)(E:List (Nat×J))(L:List aI)(cb:Array Bool)(ec:Nat->Nat)(rh:List Nat)(b:Nat)(a:Act)(W:World):Prop where
 st:bP c E (N7 L (hs.take b)++abK ec hs b rh) a W
 done:∀(j:Nat) s h τ,j<n->cb.getD j false=true->oQ[j]? =some (some s)->hs[j]? =some h->h.adl (ec j)=some τ->∃v,a.tmps[s]? =some v∧τ.holds (ks (N7 L (hs.take b)++abK ec hs b rh)++c.b3) W v
 news:∀(j:Nat),j∈rh↔(j<n∧cb.getD j false=true∧∃cp,hs[j]? =some (.new cp))
 stored:∀(j:Nat) h,hs[j]? =some h->h.aon=true->(cb.getD j false=true↔j<b)
 ble:b<=n
def Ai{L R:aa aI}(h:L.Perm R):(ks L).Perm (ks R):=by
 induction h with
 |nil=>exact .nil
 |cons x _ b6=>cases hk:x.key <;> simp only[ks,hk] <;> first|exact b6|exact b6.cons _
 | swap x y l=>
   cases an:x.key <;> cases hy:y.key <;> simp only[ks,an,hy]
   all_goals first|exact .refl _|exact .swap _ _ _
 |trans _ _ h1 ae=>exact h1.trans ae
def bP.perm{E L L' a W}(h:bP c E L a W)(p:L.Perm L'):bP c E L' a W:=
 h.sub (λe he=>p.mem_iff.2 he) ((Ai p).nodup_iff.1 h.nodup)
end
class bS (P:Program) (t:bF) (α:Type) [aj α]:Prop where
 size:(P.info? t).map (·.size)=some (aj.size α)
 acD:∃d,P.underlying t=some d∧(match d with | .struct _| .array _ _=>true|_=>false)=aj.agg α
class dx (P:Program) (t:bF) {α:outParam Type} [aj α] (x:outParam α):Prop where
 zero:∃i z,P.info? t=some i∧i.zero=some z∧∀A W,(J.of x).holds A W z
def bS.info{P t α}[aj α](h:bS P t α):∃i,P.info? t=some i∧i.size=aj.size α:=by
 have:=h.size;cases au:P.info? t with
 |none=>simp[au]at this
 |some i=>exact⟨i,rfl,by simpa[au]using this⟩
def bS.isAgg{P t α}[aj α](h:bS P t α)(W:bq):(isAgg t).run P W=.ok (aj.agg α) W:=by
 obtain⟨d,hd,he⟩:=h.acD;unfold Go.isAgg;rw[dU,ee hd W];simp only[Result.andThen_ok];cases d <;> simp_all
def bS.sizeOf{P t α}[aj α](h:bS P t α)(W:bq):(Go.sizeOf t).run P W=.ok (aj.size α) W:=by
 obtain⟨i,au,hs⟩:=h.info;simp[Go.sizeOf,typeInfo,au,hs]
def kg(b off j:Nat):(⟨b,off,none⟩:Addr).add j=⟨b,off+j,none⟩:=by unfold Addr.add;split <;> simp_all
def zM{P:Program}{W:bq}{b off:Nat}{cur:Array bt}{T t:bF}{jl:Nat×Nat}{α:Type}[aj α]{A:aa Nat}{x:α}(ty:bS P t α)
 (hb:W.heap[b]? =some (.cells cur T jl)) (hs:off+aj.size α<=cur.size) (aE:aj.rep A W ((cur.toList.drop off).take (aj.size α)) x):
 ∃v,(loadVar t ⟨b,off,none⟩).run P W=.ok v W∧(J.of x).holds A W v:=by
 have ao:=aj.len aE
 have tk:∀j v,((cur.toList.drop off).take (aj.size α))[j]? =some v->W.cell? ((⟨b,off,none⟩:Addr).add j)=some v:=by
  intro j v ba;rw[kg,zI W b (off+j) cur T jl hb];rw[k3]at ba;split at ba
  ·rw[mo]at ba;simpa using ba
  cases ba
 cases aY:aj.agg α with
 | true=>
   have h1:=CT (P:=P) W ⟨b,off,none⟩ _ tk
   rw[ao]at h1
   refine⟨.agg ((cur.toList.drop off).take (aj.size α)).toArray,?_,?_,?_⟩
   ·simp[loadVar,dU,ty.isAgg,ty.sizeOf,aY,h1]
   ·simp[shaped,aY]
   simpa[Value.cells]using aE
 | false=>
   have h1:aj.size α=1:=aj.flat aY
   rw[h1]at ao
   obtain⟨v,ba⟩:=U7.1 ao
   have ae:=tk 0 v (by rw[h1,ba];rfl)
   have az:v.oneCell'=true:=aj.one aE v (by rw[h1,ba];simp)
   refine⟨v,?_,?_,?_⟩
   ·rw[kg,Nat.add_zero]at ae
    simp[loadVar,dU,ty.isAgg,aY,ae]
   ·simp[shaped,aY,az]
   rw[cells_one az]
   rw[h1,ba]at aE
   simpa using aE
def gV(cur:aa bt)(off:Nat)(ds:aa bt):aa bt:=cur.take off++ds++cur.drop (off+ds.length)
def aiO{A W v}{α:Type}[aj α]{x:α}(h:(J.of x).holds A W v):v.cells.toList.length=aj.size α∧∀u∈v.cells.toList,u.oneCell'=true:=⟨aj.len h.2,aj.one h.2⟩
def LG{P:Program}{W:bq}{b off:Nat}{cur:Array bt}{T t:bF}{α:Type}[aj α]{A:aa Nat}{x:α}{v:bt}(ty:bS P t α)
 (hb:W.heap[b]? =some (.cells cur T (0,0))) (hs:off+aj.size α<=cur.size) (ba:(J.of x).holds A W v):
 (storeVar t ⟨b,off,none⟩ v).run P W=.ok () (W.setRow b (gV cur.toList off v.cells.toList).toArray):=by
 obtain⟨ao,h1⟩:=aiO ba
 have ae:=F6 P b off T v.cells.toList 0 cur W hb (by rw[ao];omega) h1
 have dR:v.cells.size=aj.size α:=by simpa using ao
 simp only[Nat.add_zero]at ae
 simp only[storeVar,dU,ty.sizeOf,Result.andThen_ok,dR]
 simp only[ne_eq,not_true_eq_false,↓reduceIte,Sem.run_pure,dU,Result.andThen_ok]
 simpa[gV]using ae
structure aP(β γ:Type)[aj β][aj γ]where
 off:Nat
 get:β->γ
 set:β->γ->β
 ha:off+aj.size γ<=aj.size β
 jT:∀{A W cs b},aj.rep A W cs b->aj.rep A W ((cs.drop off).take (aj.size γ)) (get b)
 n1:∀{A W cs b ds g},aj.rep A W cs b->aj.rep A W ds g->aj.rep A W (cs.take off++ds++cs.drop (off+aj.size γ)) (set b g)
@[reducible] def aP.id (β:Type) [aj β]:aP β β where
  off:=0
  get b:=b
  set _ g:=g
  ha:=by simp
  jT h:=by
   have:=aj.len h;rw[vM,<-this,k4];exact h
  n1 h bH:=by
   have h1:=aj.len h;rw[List.take_zero,List.nil_append,jQ,<-h1,xq,mM];exact bH
def zS(cs:aa bt)(bO s1 cL s2:Nat)(h:cL+s2<=s1):(((cs.drop bO).take s1).drop cL).take s2=(cs.drop (bO+cL)).take s2:=by
 apply mL;intro i;simp only[k3,mo];split
 ·rw[bk (by omega)];congr 1;omega
 rfl
def Xe(cs ds:aa bt)(bO s1 cL s2:Nat)(h:cL+s2<=s1)(ak:bO+s1<=cs.length):
 cs.take bO++(((cs.drop bO).take s1).take cL++ds++((cs.drop bO).take s1).drop (cL+s2))++cs.drop (bO+s1)=cs.take (bO+cL)++ds++cs.drop (bO+cL+s2):=by
 have ar:cs.take (bO+cL)=cs.take bO++((cs.drop bO).take s1).take cL:=by
  rw[sd,pd (by omega),PH]
 have aK:cs.drop (bO+cL+s2)=((cs.drop bO).take s1).drop (cL+s2)++cs.drop (bO+s1):=by
  apply mL;intro i;simp only[O8,mo,k3,ku,fT];split
  ·rw[bk (by omega)];congr 1;omega
  congr 1;omega
 rw[ar,aK]
 simp only[jE]
@[reducible] def aP.comp {α β γ:Type} [aj α] [aj β] [aj γ] (l:aP α β) (m:aP β γ):aP α γ where
  off:=l.off+m.off
  get b:=m.get (l.get b)
  set b g:=l.set b (m.set (l.get b) g)
  ha:=by have:=l.ha;have:=m.ha;omega
  jT h:=by
   have:=m.jT (l.jT h);rwa[zS _ _ _ _ _ m.ha]at this
  n1 h bH:=by
   have h1:=l.n1 h (m.n1 (l.jT h) bH);have ae:=aj.len h;have az:=l.ha;rwa[Xe _ _ _ _ _ _ m.ha (by omega)]at h1
def ck{α:Type}[Inhabited α]{n:Nat}(v:Vector α n)(k:Nat):α:=v[k]?.getD default
def eh{α:Type}{n:Nat}(v:Vector α n)(k:Nat)(x:α):Vector α n:=v.setIfInBounds k x
instance{α:Type}[Inhabited α]{n:Nat}:Inhabited (Vector α n):=⟨Vector.replicate n default⟩
instance{α:Type}[aj α][Inhabited α]{n:Nat}:aj (Vector α n)where
 size:=n*aj.size α
 agg:=true
 rep A W cs v:=hx A W cs v.toList
 len h:=by rw[h.1];simp
 one h:=by
  intro u hu;obtain⟨j,aC⟩:=oE.1 hu;have ch:=(hh.1 aC).1;have h1:=h.1;by_cases hs:aj.size α=0
  ·rw[hs,Nat.mul_zero]at h1;omega
  have hp:0<aj.size α:=F0 hs;have au:j/aj.size α<_:=(Ve hp).2 (by rw[h1]at ch;exact ch);refine aj.one (h.2 _ au) u (oE.2 ⟨j % aj.size α,?_⟩);rw[k3,bk (G3 _ hp),mo,se,Gm];exact aC
 flat h:=by cases h
 mono e h:=h.mono e
def agU{α:Type}[Inhabited α]{n:Nat}(v:Vector α n){k:Nat}(h:k<n):ck v k=v.toList[k]'(by simpa using h):=by simp[ck,h]
def QK{α:Type}[aj α]{A W}{cs ds:aa bt}{xs:aa α}{x:α}{k:Nat}(h:hx A W cs xs)(hk:k<xs.length)(hd:aj.rep A W ds x):
 hx A W (cs.take (k*aj.size α)++ds++cs.drop (k*aj.size α+aj.size α)) (xs.set k x):=by
 have ao:=h.1
 have q4:=aj.len hd
 have hle:(k+1)*aj.size α<=xs.length*aj.size α:=hC _ hk
 rw[sf]at hle
 refine⟨by simp only[gj,fT,ku,pe];omega,λi au=>?_⟩
 rw[pe]at au
 by_cases e:k=i
 ·subst e
  have:((cs.take (k*aj.size α)++ds++cs.drop (k*aj.size α+aj.size α)).drop (k*aj.size α)).take (aj.size α)=ds:=by
   rw[jE,UP (by simp only[fT];omega),FK (by simp only[fT];omega),List.nil_append,
    CI (by omega),s6 (by omega)]
  rw[this]
  simpa using hd
 have h1:=h.2 i au
 have:((cs.take (k*aj.size α)++ds++cs.drop (k*aj.size α+aj.size α)).drop (i*aj.size α)).take (aj.size α)=(cs.drop (i*aj.size α)).take (aj.size α):=by
  apply mL;intro j;simp only[k3,mo];split
  ·rename_i aC;simp only[O8,gj,fT,k3,mo];rcases Nat.lt_or_gt_of_ne e with ae|ae
   ·have:(k+1)*aj.size α<=i*aj.size α:=hC _ ae;rw[sf]at this;rw[bf (by omega)];congr 1;omega
   have:(i+1)*aj.size α<=k*aj.size α:=hC _ ae;rw[sf]at this;rw[bk (by omega),bk (by omega),bk (by omega)]
  rfl
 rw[this]
 simpa[List.getElem_set_ne e]using h1
@[reducible] def aP.idx {α:Type} [aj α] [Inhabited α] (n k:Nat) (hk:k<n):aP (Vector α n) α where
  off:=k*aj.size α
  get v:=ck v k
  set v x:=eh v k x
  ha:=by
   show k*aj.size α+aj.size α<=n*aj.size α;rw[<-sf];exact hC _ hk
  jT h:=by
   rename_i b;rw[agU b hk];exact h.2 k (by simpa using hk)
  n1 h hd:=by
   rename_i b ds g;have:=QK h (k:=k) (by simpa using hk) hd;show hx _ _ _ (eh b k g).toList;rw[show(eh b k g).toList=b.toList.set k g by simp[eh]];exact this
def idx(n:Nat)(i:Int):aA Nat:=if 0<=i∧i<n then some i.toNat else none
def c4{n:Nat}{i:Int}{k:Nat}(h:idx n i=some k):k<n∧i=k:=by
 unfold idx at h;split at h
 ·rename_i au;simp only[gy]at h;omega
 cases h
section
variable{c:cC}{E:aa (Nat×J)}{L:aa aI}{ops:Array Oper}{Q:Exit->Act->bq->Prop}
variable{d:aA Tmp}{ty:bF}{pos:String}{af:Array Edge}{g:aA (Nat×Bool)}
def dj{x:ca}{τ:J}(h:aU c E L x τ):bj c E L ⟨d,.move x,ty,pos,af,g⟩ τ:=.pure λa W s=>⟨_,rfl,h a W s⟩
def dq{x:ca}{τ:J}(h:aU c E L x τ):bj c E L ⟨d,.assign x,ty,pos,af,g⟩ τ:=.pure λa W s=>⟨_,rfl,h a W s⟩
def BK{x y:ca}{b e:Bool}{p:Prop}(an:aU c E L x (.of b))(hy:aU c E L y (.cond p (.of e)))(hp:b=false->p):
 bj c E L ⟨d,.pick x (.const (.bool true)) y,ty,pos,af,g⟩ (.of (b||e)):=.pure λa W s=>by
 have h1:=of_bool.1 (an a W s)
 cases b with
 |true=>exact⟨.bool true,by simp only[execOp,h1,asBool];rfl,of_bool.2 I⟩
 | false=>
   have ae:=of_bool.1 ((hy a W s).1 (hp I))
   exact⟨.bool e,by simp[execOp,asBool,h1,ae],of_bool.2 I⟩
def x7{x y:ca}{b e:Bool}{p:Prop}(an:aU c E L x (.of b))(hy:aU c E L y (.cond p (.of e)))(hp:b=true->p):
 bj c E L ⟨d,.pick x y (.const (.bool false)),ty,pos,af,g⟩ (.of (b&&e)):=.pure λa W s=>by
 have h1:=of_bool.1 (an a W s)
 cases b with
 |false=>exact⟨.bool false,by simp only[execOp,h1,asBool];rfl,of_bool.2 I⟩
 | true=>
   have ae:=of_bool.1 ((hy a W s).1 (hp I))
   exact⟨.bool e,by simp[execOp,asBool,h1,ae],of_bool.2 I⟩
def pA{x:ca}{b:Bool}{t:bF}(an:aU c E L x (.of b)):bj c E L ⟨d,.unOp .not t x,ty,pos,af,g⟩ (.of (!b)):=.pure λa W s=>
 ⟨.bool (!b),by simp[execOp,Op.unary,of_bool.1 (an a W s)],of_bool.2 I⟩
def gz{x:ca}{t:bF}{i p o:Nat}{β γ:Type}[aj β][aj γ]{b:β}(l:aP β γ){r:γ}(dP:bS c.P t γ)(an:aU c E L x (.eq (.pointer (some ⟨p,o,none⟩))))
 (ax:L[i]? =some ⟨some p,.var b⟩) (a8:o=l.off) (aE:l.get b=r):bj c E L ⟨d,.load t x,ty,pos,af,g⟩ (.of r):=.pure λa W s=>by
 subst a8
 subst aE
 obtain⟨pO,e3,cs,T,rfl,fV⟩:=s.own _ (e6 ax)
 have h1:cs.toList.length=aj.size β:=aj.len fV
 obtain⟨v,ae,az⟩:=zM (A:=ks L++c.b3) dP e3 (by have:=l.ha;simp at h1;omega) (l.jT fV)
 refine⟨v,?_,az⟩
 have aQ:a.eval x=_:=an a W s
 simp[execOp,Instr.loadAt,Instr.sureAddr,aQ,ae]
def iD{x:ca}{t:bF}{γ:Type}[aj γ]{r:γ}(dP:bS c.P t γ)(an:aU c E L x (.ptr r)):bj c E L ⟨d,.load t x,ty,pos,af,g⟩ (.of r):=.pure λa W s=>by
 obtain⟨b,off,cur,T,jl,aQ,hb,cB,hs,aE⟩:=an a W s;obtain⟨v,ae,az⟩:=zM dP cB hs aE;exact⟨v,by simp[execOp,Instr.loadAt,Instr.sureAddr,aQ,ae],az⟩
structure yK(P:Program)(s:TypeId)(f o:Nat):Prop where
 at_:∃fs fd i,P.underlying s=some (.struct fs)∧fs[f]? =some fd∧fd.offset=o∧P.info? fd.type=some i∧i.size≠0
def WB{P:Program}{s:bF}{f o:Nat}(h:yK P s f o)(p off:Nat)(W:bq):
 (Instr.fieldAt s (.pointer (some ⟨p,off,none⟩)) f).run P W=.ok (.pointer (some ⟨p,off+o,none⟩)) W:=by
 obtain⟨fs,fd,i,h1,ae,az,aQ,a7⟩:=h.at_
 simp[Instr.fieldAt,ee h1,ae,Instr.sureAddr,fieldPlace,Go.sizeOf,typeInfo,aQ,a7,kg,az]
def bC{x:ca}{s f o p off:Nat}(fd:yK c.P s f o)(an:aU c E L x (.eq (.pointer (some ⟨p,off,none⟩)))):
 bj c E L ⟨d,.fieldAddr s x f,ty,pos,af,g⟩ (.eq (.pointer (some ⟨p,off+o,none⟩))):=.pure λa W st=>by
 have aQ:a.eval x=_:=an a W st
 exact⟨_,by simp[execOp,aQ,WB fd],rfl⟩
def Ej{x:ca}{s f o:Nat}{β γ:Type}[aj β][aj γ]{b:β}(l:aP β γ){r:γ}(fd:yK c.P s f o)(an:aU c E L x (.ptr b))(a8:l.off=o)(aE:l.get b=r):
 bj c E L ⟨d,.fieldAddr s x f,ty,pos,af,g⟩ (.ptr r):=.pure λa W st=>by
 subst a8
 subst aE
 obtain⟨q,off,cur,T,jl,aQ,hb,cB,hs,fV⟩:=an a W st
 refine⟨.pointer (some ⟨q,off+l.off,none⟩),by simp[execOp,aQ,WB fd],q,off+l.off,cur,T,jl,rfl,hb,cB,by have:=l.ha;omega,?_⟩
 have:=l.jT fV
 rwa[zS _ _ _ _ _ l.ha]at this
class pP (P:Program) (t:bF) (n s:outParam Nat):Prop where
 at_:∃e i,P.underlying t=some (.array n e)∧P.info? e=some i∧i.size=s
def agc{P:Program}{t n s:Nat}(h:pP P t n s)(p off:Nat)(k:Nat)(hk:k<n)(W:bq):
 (Instr.indexAt t (.pointer (some ⟨p,off,none⟩)) (.int .i64 (k:Int))).run P W=.ok (.pointer (some ⟨p,off+k*s,none⟩)) W:=by
 obtain⟨e,i,h1,ae,az⟩:=h.at_
 simp[Instr.indexAt,asIntOf,ee h1,Instr.sureAddr,Go.sizeOf,typeInfo,ae,az,hk,kg]
def kD{x y:ca}{t n s p off:Nat}{i:Int}{k:Nat}(w9:pP c.P t n s)(an:aU c E L x (.eq (.pointer (some ⟨p,off,none⟩))))(hy:aU c E L y (.of i))(hk:k<n∧i=k):
 bj c E L ⟨d,.indexAddr t x y,ty,pos,af,g⟩ (.eq (.pointer (some ⟨p,off+k*s,none⟩))):=.pure λa W st=>by
 have aQ:a.eval x=_:=an a W st
 have a7:=of_int.1 (hy a W st)
 obtain⟨bp,rfl⟩:=hk
 exact⟨_,by simp[execOp,aQ,a7,agc w9 p off k bp],rfl⟩
def ad.alloc{t:bF}{rest:aa Oper}{bc:Nat}{α:Type}[aj α]{z:α}(gT:dx c.P t z)(aM:Nat.blt bc c.n=true)
 (k:∀p,ad c ops Q rest ((bc,.eq (.pointer (some ⟨p,0,none⟩)))::E) (⟨some p,.var z⟩::L)):ad c ops Q (⟨some bc,.alloc t,ty,pos,af,none⟩::rest) E L:=λa W s=>by
 obtain⟨i,ed,h1,ae,az⟩:=gT.zero
 refine iO I (R:=λv W'=>v=.pointer (some ⟨W.heap.size,0,none⟩)∧W'=W.alloc (.cells ed.cells t)) (.mV ?_ ⟨rfl,rfl⟩) λv W' ⟨ba,hw⟩=>?_
 ·simp[execOp,Instr.alloc,zeroValue,typeInfo,h1,ae,newVar,newRow]
 subst ba
 subst hw
 exact k _ _ _ ((s.alloc (cp:=.var z) ⟨ed.cells,t,rfl,(az _ _).2⟩).put (by simpa using aM) I)
def ad.box{t:bF}{x:ca}{rest:aa Oper}{bc:Nat}{α:Type}[aj α]{z:α}(an:aU c E L x (.of z))(aM:Nat.blt bc c.n=true)
 (k:∀p,ad c ops Q rest ((bc,.eq (.pointer (some ⟨p,0,none⟩)))::E) (⟨some p,.var z⟩::L)):ad c ops Q (⟨some bc,.box t x,ty,pos,af,none⟩::rest) E L:=λa W s=>by
 refine iO I (R:=λv W'=>v=.pointer (some ⟨W.heap.size,0,none⟩)∧W'=W.alloc (.cells (a.eval x).cells t)) (.mV ?_ ⟨rfl,rfl⟩) λv W' ⟨ba,hw⟩=>?_
 ·simp[execOp,Instr.box,newVar,newRow]
 subst ba
 subst hw
 exact k _ _ _ ((s.alloc (cp:=.var z) ⟨_,t,rfl,(an a W s).2⟩).put (by simpa using aM) I)
def ad.store{x y:ca}{t:bF}{rest:aa Oper}{i p o:Nat}{β γ:Type}[aj β][aj γ]{b b':β}{v:γ}(l:aP β γ)(dP:bS c.P t γ)(an:aU c E L x (.eq (.pointer (some ⟨p,o,none⟩))))
 (hy:aU c E L y (.of v)) (ax:L[i]? =some ⟨some p,.var b⟩) (a8:o=l.off) (hb:l.set b v=b')
 (k:ad c ops Q rest E (L.set i ⟨some p,.var b'⟩)):ad c ops Q (⟨none,.store t x y,ty,pos,af,none⟩::rest) E L:=λa W s=>by
 subst a8
 subst hb
 obtain⟨pO,e3,cs,T,rfl,fV⟩:=s.own _ (e6 ax)
 have h1:cs.toList.length=aj.size β:=aj.len fV
 have fQ:=l.ha
 have ba:=hy a W s
 have ae:=LG (A:=ks L++c.b3) dP e3 (off:=l.off) (by simp at h1;omega) ba
 have aQ:a.eval x=_:=an a W s
 refine iO I (R:=λv W'=>W'=W.setRow p (gV cs.toList l.off (a.eval y).cells.toList).toArray) (.DV ?_ I) λv W' hw=>?_
 ·simp[execOp,Instr.storeAt,Instr.sureAddr,aQ,ae]
 subst hw
 refine k _ _ (s.store ax e3 ?_)
 refine⟨_,T,rfl,?_⟩
 have:=l.n1 fV ba.2
 simpa[gV,aj.len ba.2]using this
def iF(c:cC)(E:aa (Nat×J))(L:aa aI):aa ca->aa J->Prop
 |[],[]=>True
 |x::xs,τ::τs=>aU c E L x τ∧iF c E L xs τs
 |_,_=>False
def iF.holds:∀{xs:aa ca} {τs:aa J},iF c E L xs τs->∀a W,bP c E L a W->gL (ks L++c.b3) W τs (xs.map a.eval)
 |[],[],_,_,_,_=>.nil
 |x::xs,τ::τs,h,a,W,s=>.cons (h.1 a W s) (h.2.holds a W s)
 |[],_::_,h,_,_,_=>h.elim
 |_::_,[],h,_,_,_=>h.elim
structure bL(P:Program)(f:FuncId):Prop where
 at_:∃ fn,P.funcs[f]? =some fn∧fn.body.isNone=false∧ (fn.name== "runtime.NumGoroutine")=false
def bL.run{P:Program}{f:FuncId}(h:bL P f)(args:Array bt)(W:bq):(callFunc f args).run P W=.ok (.enter f args) W:=by
 obtain⟨fn,h1,ae,az⟩:=h.at_;simp only[callFunc,dU,run_program,Result.andThen_ok,h1,az,ae];rfl
def iE{f:FuncId}{xs:aa ca}{ats:Array bF}{τs:aa J}{ρ:J}(cj:bL c.P f)(h:cE c.P f τs ρ)(an:iF c E L xs τs):
 bj c E L ⟨d,.call ⟨.value (.func f),xs.toArray,ats⟩,ty,pos,af,g⟩ ρ:=λa W s=>by
 refine .wa (f:=f) (args:=(xs.map a.eval).toArray) (W':=W) ?_ (h _ W _ s.HY (an.holds a W s))
 simp[execOp,resolve,Deferred.ofValue,Act.eval,invoke,cj.run]
def uH{P:Program}{W:bq}{t off:Nat}{cs:Array bt}{α:Type}[aj α]{A:aa Nat}{x:α}(ty:bS P t α)(hs:off+aj.size α<=cs.size)
 (aE:aj.rep A W ((cs.toList.drop off).take (aj.size α)) x):∃v,(part t cs off).run P W=.ok v W∧(J.of x).holds A W v:=by
 have ao:=aj.len aE
 cases aY:aj.agg α with
 | true=>
   refine⟨.agg (cs.extract off (off+aj.size α)),?_,?_,?_⟩
   ·simp[part,ty.isAgg,ty.sizeOf,aY]
   ·simp[shaped,aY]
   simpa[Value.cells,List.extract,Array.toList_extract]using aE
 | false=>
   have h1:aj.size α=1:=aj.flat aY
   have ch:off<cs.size:=by omega
   have ae:(cs.toList.drop off).take (aj.size α)=[cs[off]]:=by
    rw[h1];apply mL;intro j;rw[k3,mo];cases j with
    |zero=>simp[ch]
    |succ j=>simp
   rw[ae]at aE
   have az:cs[off].oneCell'=true:=aj.one aE _ (by simp)
   refine⟨cs[off],?_,?_,?_⟩
   ·simp[part,ty.isAgg,aY,ch]
   ·simp[shaped,aY,az]
   rw[cells_one az];simpa using aE
structure OD(P:Program)(s f t o:Nat):Prop where
 at_:∃fs fd,P.underlying s=some (.struct fs)∧fs[f]? =some fd∧fd.offset=o∧fd.type=t
def QZ{x:ca}{s f t o:Nat}{β γ:Type}[aj β][aj γ]{b:β}(l:aP β γ){r:γ}(adm:OD c.P s f t o)(dP:bS c.P t γ)(aY:aj.agg β=true)(an:aU c E L x (.of b))(a8:l.off=o)(aE:l.get b=r):
 bj c E L ⟨d,.field s x f,ty,pos,af,g⟩ (.of r):=.pure λa W st=>by
 subst a8
 subst aE
 obtain⟨h1,ae⟩:=an a W st
 simp only[shaped,aY,lY]at h1
 obtain⟨cs,tI⟩:=h1
 obtain⟨fs,fd,az,aQ,a7,bp⟩:=adm.at_
 rw[tI]at ae
 simp only[Value.cells]at ae
 have ao:cs.toList.length=aj.size β:=aj.len ae
 obtain⟨v,cO,dJ⟩:=uH (A:=ks L++c.b3) (P:=c.P) (W:=W) (cs:=cs) (off:=l.off) dP (by have:=l.ha;simp at ao;omega) (l.jT ae)
 refine⟨v,?_,dJ⟩
 simp[execOp,Instr.field,ee az,aQ,tI,asAgg,a7,bp,cO]
def ajE{x y:ca}{t e n:Nat}{i:Int}{k:Nat}{α:Type}[aj α][Inhabited α]{v:Vector α n}(hu:c.P.underlying t=some (.array n e))(dP:bS c.P e α)(an:aU c E L x (.of v))(hy:aU c E L y (.of i))(hk:k<n∧i=k):
 bj c E L ⟨d,.index t x y,ty,pos,af,g⟩ (.of (ck v k)):=.pure λa W st=>by
 obtain⟨h1,ae⟩:=an a W st
 obtain⟨cs,tI⟩:∃cs,a.eval x=.agg cs:=by simpa[shaped,aj.agg]using h1
 have a7:=of_int.1 (hy a W st)
 obtain⟨bp,rfl⟩:=hk
 rw[tI]at ae
 simp only[Value.cells]at ae
 have ao:cs.toList.length=n*aj.size α:=aj.len ae
 have fQ:=(aP.idx (α:=α) n k bp).ha
 obtain⟨u,cO,dJ⟩:=uH (A:=ks L++c.b3) (P:=c.P) (W:=W) (cs:=cs) (off:=k*aj.size α) dP
  (by
   have:k*aj.size α+aj.size α<=n*aj.size α:=fQ;simp at ao;omega) ((aP.idx (α:=α) n k bp).jT ae)
 refine⟨u,?_,dJ⟩
 simp[execOp,Instr.index,asIntOf,ee hu,tI,a7,bp,dP.sizeOf,cO]
def El{x:ca}{i:Nat}{τs:aa J}{τ:J}(an:aU c E L x (.b7 τs))(au:τs[i]? =some τ):bj c E L ⟨d,.extract x i,ty,pos,af,g⟩ τ:=.pure λa W st=>by
 obtain⟨vs,h1,ae⟩:=an a W st;have get:∀{τs:aa J} {vs:aa bt},gL (ks L++c.b3) W τs vs->∀(i:Nat) (τ:J),τs[i]? =some τ->∃v,vs[i]? =some v∧τ.holds (ks L++c.b3) W v:=by
  intro τs vs h;induction h with
  |nil=>intro i τ h;simp at h
  | cons h1 _ b6=>
    intro i τ h
    cases i with
    |zero=>simp only[List.getElem?_cons_zero,gy]at h;subst h;exact⟨_,rfl,h1⟩
    |succ i=>simp only[List.getElem?_cons_succ]at h⊢;exact b6 i τ h
 obtain⟨v,az,aQ⟩:=get ae i τ au;refine⟨v,?_,aQ⟩;have a7:vs[i]? =some v:=by simpa using az
 simp[execOp,Instr.extract,h1,a7]
end
def bu(x:Int):Int:=IntKind.i64.wrap x
def hX{x:Int}(h: -9223372036854775808<=x)(c8:x<=9223372036854775807):bu x=x:=by
 unfold bu;rw[IntKind.wrap_i64];omega
def vb(a b:Int):aA Int:=if b=0 then none else some (a.tmod b)
def ah4{a b r:Int}(h:vb a b=some r):b≠0∧a.tmod b=r:=by unfold vb at h;split at h <;> simp_all
def wrap_u8(n:Int):IntKind.u8.wrap n=n % 256:=by simp[IntKind.wrap,IntKind.signed,IntKind.bits]
def wrap_u64(n:Int):IntKind.u64.wrap n=n % 18446744073709551616:=by simp[IntKind.wrap,IntKind.signed,IntKind.bits]
def aj9(P:Program)(W:bq)(k Up:IntKind)(a b:Int)(h:0<=b):(Op.shift .shl k a Up b).run P W=.ok (.int k (k.wrap (a*2^min b.toNat k.bits))) W:=by
 unfold Op.shift;rw[bf (by omega)];rfl
def aka(P:Program)(W:bq)(k Up:IntKind)(a b:Int)(h:0<=b):(Op.shift .shr k a Up b).run P W=.ok (.int k (a.fdiv (2^min b.toNat k.bits))) W:=by
 unfold Op.shift;rw[bf (by omega)];rfl
section
variable{c:cC}{E:aa (Nat×J)}{L:aa aI}
variable{d:aA Tmp}{ty:bF}{pos:String}{af:Array Edge}{g:aA (Nat×Bool)}{x y:ca}{t t2:bF}
def jU{a b:Int}(an:aU c E L x (.of a))(hy:aU c E L y (.of b)):bj c E L ⟨d,.binOp .add t x y t2,ty,pos,af,g⟩ (.of (bu (a+b))):=.pure λA W s=>
 ⟨.int .i64 (bu (a+b)),by simp[execOp,eqGuard,binOp,Op.intArith,of_int.1 (an A W s),of_int.1 (hy A W s),bu],of_int.2 I⟩
def sv{a b:Int}(an:aU c E L x (.of a))(hy:aU c E L y (.of b)):bj c E L ⟨d,.binOp .sub t x y t2,ty,pos,af,g⟩ (.of (bu (a-b))):=.pure λA W s=>
 ⟨.int .i64 (bu (a-b)),by simp[execOp,eqGuard,binOp,Op.intArith,of_int.1 (an A W s),of_int.1 (hy A W s),bu],of_int.2 I⟩
def aoo{a b:Int}(an:aU c E L x (.of a))(hy:aU c E L y (.of b)):bj c E L ⟨d,.binOp .mul t x y t2,ty,pos,af,g⟩ (.of (bu (a*b))):=.pure λA W s=>
 ⟨.int .i64 (bu (a*b)),by simp[execOp,eqGuard,binOp,Op.intArith,of_int.1 (an A W s),of_int.1 (hy A W s),bu],of_int.2 I⟩
def aop{a b r:Int}(an:aU c E L x (.of a))(hy:aU c E L y (.of b))(h:b≠0∧a.tmod b=r):bj c E L ⟨d,.binOp .rem t x y t2,ty,pos,af,g⟩ (.of r):=.pure λA W s=>
 ⟨.int .i64 r,by obtain⟨h1,rfl⟩:=h;simp[execOp,eqGuard,binOp,Op.intDiv,of_int.1 (an A W s),of_int.1 (hy A W s),h1],of_int.2 I⟩
def l2{a b:Int}(an:aU c E L x (.of a))(hy:aU c E L y (.of b)):bj c E L ⟨d,.binOp .lss t x y t2,ty,pos,af,g⟩ (.of (decide (a<b))):=.pure λA W s=>
 ⟨.bool (decide (a<b)),by simp only[execOp,eqGuard,binOp,of_int.1 (an A W s),of_int.1 (hy A W s)];rfl,of_bool.2 I⟩
def aoq{a b:Int}(an:aU c E L x (.of a))(hy:aU c E L y (.of b)):bj c E L ⟨d,.binOp .leq t x y t2,ty,pos,af,g⟩ (.of (decide (a<=b))):=.pure λA W s=>
 ⟨.bool (decide (a<=b)),by simp only[execOp,eqGuard,binOp,of_int.1 (an A W s),of_int.1 (hy A W s)];rfl,of_bool.2 I⟩
def Eg{a b:Int}(an:aU c E L x (.of a))(hy:aU c E L y (.of b)):bj c E L ⟨d,.binOp .gtr t x y t2,ty,pos,af,g⟩ (.of (decide (a>b))):=.pure λA W s=>
 ⟨.bool (decide (a>b)),by simp only[execOp,eqGuard,binOp,of_int.1 (an A W s),of_int.1 (hy A W s)];rfl,of_bool.2 I⟩
def M4{a b:Int}(an:aU c E L x (.of a))(hy:aU c E L y (.of b)):bj c E L ⟨d,.binOp .geq t x y t2,ty,pos,af,g⟩ (.of (decide (a>=b))):=.pure λA W s=>
 ⟨.bool (decide (a>=b)),by simp only[execOp,eqGuard,binOp,of_int.1 (an A W s),of_int.1 (hy A W s)];rfl,of_bool.2 I⟩
def nA{a b:Int}(an:aU c E L x (.of a))(hy:aU c E L y (.of b)):bj c E L ⟨d,.binOp .eql t x y t2,ty,pos,af,g⟩ (.of (a==b)):=.pure λA W s=>
 ⟨.bool (a==b),by simp only[execOp,eqGuard,binOp,of_int.1 (an A W s),of_int.1 (hy A W s)];rfl,of_bool.2 I⟩
def ya{a b:Int}(an:aU c E L x (.of a))(hy:aU c E L y (.of b)):bj c E L ⟨d,.binOp .neq t x y t2,ty,pos,af,g⟩ (.of (a !=b)):=.pure λA W s=>
 ⟨.bool (a !=b),by simp only[execOp,eqGuard,binOp,of_int.1 (an A W s),of_int.1 (hy A W s)];rfl,of_bool.2 I⟩
def ZW{a b:Bool}(hu:c.P.underlying t=some .bool)(an:aU c E L x (.of a))(hy:aU c E L y (.of b)):bj c E L ⟨d,.binOp .neq t x y t2,ty,pos,af,g⟩ (.of (a !=b)):=.pure λA W s=>
 ⟨.bool (a !=b),by
   simp only[execOp,eqGuard,binOp,of_bool.1 (an A W s),of_bool.1 (hy A W s),Op.equal,Op.maxDepth];simp[run_equalIn_bool' W 9999 t a b hu,bne],of_bool.2 I⟩
def Z3{a b:Int}{ats:Array bF}(an:aU c E L x (.of a))(hy:aU c E L y (.of b)):bj c E L ⟨d,.call ⟨.builtin .min,#[x,y],ats⟩,ty,pos,af,g⟩ (.of (min a b)):=.pure λA W s=>
 ⟨.int .i64 (min a b),by
   simp[execOp,resolve,invoke,builtin,Builtin.min_,Builtin.min2,of_int.1 (an A W s),of_int.1 (hy A W s)];split <;> omega,of_int.2 I⟩
def Z2{a b:Int}{ats:Array bF}(an:aU c E L x (.of a))(hy:aU c E L y (.of b)):bj c E L ⟨d,.call ⟨.builtin .max,#[x,y],ats⟩,ty,pos,af,g⟩ (.of (max a b)):=.pure λA W s=>
 ⟨.int .i64 (max a b),by
   simp[execOp,resolve,invoke,builtin,Builtin.max_,Builtin.max2,of_int.1 (an A W s),of_int.1 (hy A W s)];split <;> omega,of_int.2 I⟩
def aor(a:BitVec 8):(a.toNat:Int)<256:=by have:=a.isLt;omega
def aos{a:BitVec 8}{src dst:bF}{e:TypeDesc}(hs:c.P.underlying src=some e)(hd:c.P.underlying dst=some (.int .i64))(an:aU c E L x (.of a)):bj c E L ⟨d,.convert src dst x,ty,pos,af,g⟩ (.of (a.toNat:Int)):=.pure λA W s=>
 ⟨.int .i64 a.toNat,by
   have h:IntKind.i64.wrap (a.toNat:Int)=(a.toNat:Int):=hX (by omega) (by have:=aor a;omega);simp only[execOp,convert,dU,ee hs,ee hd,Nn.1 (an A W s),Conv.intToInt,Result.andThen_ok,h];rfl,of_int.2 I⟩
def HZ(a:BitVec 64):(a.toNat:Int)<18446744073709551616:=by have:=a.isLt;omega
def ofInt_u64(a:BitVec 64):BitVec.ofInt 64 (a.toNat:Int)=a:=by simp
def akb(a b:BitVec 64):IntKind.u64.wrap ((a.toNat:Int)+(b.toNat:Int))=((a+b).toNat:Int):=by rw[wrap_u64,BitVec.toNat_add];omega
def akc{a b:BitVec 64}(an:aU c E L x (.of a))(hy:aU c E L y (.of b)):bj c E L ⟨d,.binOp .add t x y t2,ty,pos,af,g⟩ (.of (a+b)):=.pure λA W s=>
 ⟨.int .u64 (a+b).toNat,by simp[execOp,eqGuard,binOp,Op.intArith,hJ.1 (an A W s),hJ.1 (hy A W s),akb],hJ.2 I⟩
def akd(a b:BitVec 64):IntKind.u64.wrap ((a.toNat:Int)-(b.toNat:Int))=((a-b).toNat:Int):=by rw[wrap_u64,BitVec.toNat_sub];have:=HZ a;have:=HZ b;omega
def ake{a b:BitVec 64}(an:aU c E L x (.of a))(hy:aU c E L y (.of b)):bj c E L ⟨d,.binOp .sub t x y t2,ty,pos,af,g⟩ (.of (a-b)):=.pure λA W s=>
 ⟨.int .u64 (a-b).toNat,by simp[execOp,eqGuard,binOp,Op.intArith,hJ.1 (an A W s),hJ.1 (hy A W s),akd],hJ.2 I⟩
def Yt{a b:BitVec 64}(an:aU c E L x (.of a))(hy:aU c E L y (.of b)):bj c E L ⟨d,.binOp .and t x y t2,ty,pos,af,g⟩ (.of (a&&&b)):=.pure λA W s=>
 ⟨.int .u64 (a&&&b).toNat,by
   simp only[execOp,eqGuard,binOp,hJ.1 (an A W s),hJ.1 (hy A W s)];have h:IntKind.u64.wrap ((a&&&b).toNat:Int)=((a&&&b).toNat:Int):=by rw[wrap_u64];have:=HZ (a&&&b);omega
   rw[<-h];conv=>rhs;rw[<-ofInt_u64 a,<-ofInt_u64 b]
   rfl,hJ.2 I⟩
def alo{a b:BitVec 64}(an:aU c E L x (.of a))(hy:aU c E L y (.of b)):bj c E L ⟨d,.binOp .or t x y t2,ty,pos,af,g⟩ (.of (a|||b)):=.pure λA W s=>
 ⟨.int .u64 (a|||b).toNat,by
   simp only[execOp,eqGuard,binOp,hJ.1 (an A W s),hJ.1 (hy A W s)];have h:IntKind.u64.wrap ((a|||b).toNat:Int)=((a|||b).toNat:Int):=by rw[wrap_u64];have:=HZ (a|||b);omega
   rw[<-h];conv=>rhs;rw[<-ofInt_u64 a,<-ofInt_u64 b]
   rfl,hJ.2 I⟩
def akf{a b:BitVec 64}(an:aU c E L x (.of a))(hy:aU c E L y (.of b)):bj c E L ⟨d,.binOp .xor t x y t2,ty,pos,af,g⟩ (.of (a ^^^ b)):=.pure λA W s=>
 ⟨.int .u64 (a ^^^ b).toNat,by
   simp only[execOp,eqGuard,binOp,hJ.1 (an A W s),hJ.1 (hy A W s)];have h:IntKind.u64.wrap ((a ^^^ b).toNat:Int)=((a ^^^ b).toNat:Int):=by rw[wrap_u64];have:=HZ (a ^^^ b);omega
   rw[<-h];conv=>rhs;rw[<-ofInt_u64 a,<-ofInt_u64 b]
   rfl,hJ.2 I⟩
def akg(a:BitVec 64)(n:Nat):IntKind.u64.wrap ((a.toNat:Int)*2^min n 64)=((a <<< n).toNat:Int):=by
 rw[wrap_u64,U4,Nat.shiftLeft_eq];rcases uz n 64 with h|h
 ·rw[pd (by omega)];simp
 rw[Pr h];have e:(a.toNat*2^n) % 2^64=0:=by
  rw[show n=64+(n-64) by omega,Nat.pow_add];exact Nat.mod_eq_zero_of_dvd ⟨a.toNat*2^(n-64),by rw[<-Nat.mul_assoc,se a.toNat,Nat.mul_assoc]⟩
 rw[e];have aK:(2:Int)^64=18446744073709551616:=by decide
 rw[aK];omega
def akh(a:BitVec 64)(n:Nat):(a.toNat:Int).fdiv (2^min n 64)=((a >>> n).toNat:Int):=by
 rw[UZ,UY];have e:∀m:Nat,(a.toNat:Int).fdiv (2^m)=((a.toNat/2^m:Nat):Int):=by
  intro m;rw[show((2:Int)^m)=((2^m:Nat):Int) by simp];rw[Int.fdiv_eq_ediv_of_nonneg _ (Vy _)];exact(Int.natCast_ediv _ _).symm
 rw[e];rcases uz n 64 with h|h
 ·rw[pd (by omega)]
 rw[Pr h];have h1:a.toNat/2^64=0:=Pu a.isLt;have ae:a.toNat/2^n=0:=Pu (rp a.isLt (Nat.pow_le_pow_right (by omega) h));rw[h1,ae]
def aki{a:BitVec 64}{b:BitVec 64}(an:aU c E L x (.of a))(hy:aU c E L y (.of b)):bj c E L ⟨d,.binOp .shl t x y t2,ty,pos,af,g⟩ (.of (a <<< b.toNat)):=.pure λA W s=>
 ⟨.int .u64 (a <<< b.toNat).toNat,by
   simp only[execOp,eqGuard,binOp,hJ.1 (an A W s),hJ.1 (hy A W s)];have h:=aj9 c.P W .u64 .u64 a.toNat b.toNat (by omega);simp only[Int.toNat_natCast,IntKind.bits,akg]at h;exact ev (λr:Result bt=>r.andThen λv w=>.ok (Next.value v) w) h,hJ.2 I⟩
def akj{a:BitVec 64}{b:BitVec 64}(an:aU c E L x (.of a))(hy:aU c E L y (.of b)):bj c E L ⟨d,.binOp .shr t x y t2,ty,pos,af,g⟩ (.of (a >>> b.toNat)):=.pure λA W s=>
 ⟨.int .u64 (a >>> b.toNat).toNat,by
   simp only[execOp,eqGuard,binOp,hJ.1 (an A W s),hJ.1 (hy A W s)];have h:=aka c.P W .u64 .u64 a.toNat b.toNat (by omega);simp only[Int.toNat_natCast,IntKind.bits,akh]at h;exact ev (λr:Result bt=>r.andThen λv w=>.ok (Next.value v) w) h,hJ.2 I⟩
def akk{a b:BitVec 64}(an:aU c E L x (.of a))(hy:aU c E L y (.of b)):bj c E L ⟨d,.binOp .lss t x y t2,ty,pos,af,g⟩ (.of (decide (a<b))):=.pure λA W s=>
 ⟨.bool (decide (a<b)),by
   simp only[execOp,eqGuard,binOp,hJ.1 (an A W s),hJ.1 (hy A W s)];have h:decide ((a.toNat:Int)<(b.toNat:Int))=decide (a<b):=by simp[GM,GL]
   rw[<-h];rfl,of_bool.2 I⟩
def akl{a b:BitVec 64}(an:aU c E L x (.of a))(hy:aU c E L y (.of b)):bj c E L ⟨d,.binOp .geq t x y t2,ty,pos,af,g⟩ (.of (decide (a>=b))):=.pure λA W s=>
 ⟨.bool (decide (a>=b)),by
   simp only[execOp,eqGuard,binOp,hJ.1 (an A W s),hJ.1 (hy A W s)];have h:decide ((a.toNat:Int)>=(b.toNat:Int))=decide (a>=b):=by simp[GM,GL]
   rw[<-h];rfl,of_bool.2 I⟩
def akm{a b:BitVec 64}(an:aU c E L x (.of a))(hy:aU c E L y (.of b)):bj c E L ⟨d,.binOp .eql t x y t2,ty,pos,af,g⟩ (.of (a==b)):=.pure λA W s=>
 ⟨.bool (a==b),by
   simp only[execOp,eqGuard,binOp,hJ.1 (an A W s),hJ.1 (hy A W s)];have h:((a.toNat:Int)==(b.toNat:Int))=(a==b):=by
    rw[oG];simp[bne];exact⟨λh=>CO (by omega),λh=>by rw[h]⟩
   rw[<-h];rfl,of_bool.2 I⟩
def akn{a b:BitVec 64}(an:aU c E L x (.of a))(hy:aU c E L y (.of b)):bj c E L ⟨d,.binOp .neq t x y t2,ty,pos,af,g⟩ (.of (a !=b)):=.pure λA W s=>
 ⟨.bool (a !=b),by
   simp only[execOp,eqGuard,binOp,hJ.1 (an A W s),hJ.1 (hy A W s)];have h:((a.toNat:Int) !=(b.toNat:Int))=(a !=b):=by
    rw[oG];simp[bne];exact⟨λh=>λe=>h (by rw[e]),λh=>by intro e;exact h (CO (by omega))⟩
   rw[<-h];rfl,of_bool.2 I⟩
def Y8{a:Int}{src dst:bF}{e:TypeDesc}(hs:c.P.underlying src=some e)(hd:c.P.underlying dst=some (.int .u64))(an:aU c E L x (.of a)):bj c E L ⟨d,.convert src dst x,ty,pos,af,g⟩ (.of (BitVec.ofInt 64 a)):=.pure λA W s=>
 ⟨.int .u64 (BitVec.ofInt 64 a).toNat,by
   have h:IntKind.u64.wrap a=((BitVec.ofInt 64 a).toNat:Int):=by rw[wrap_u64,BitVec.toNat_ofInt];omega
   simp[execOp,convert,ee hs,ee hd,of_int.1 (an A W s),Conv.intToInt,h],hJ.2 I⟩
def ajC{a:BitVec 64}{src dst:bF}{e:TypeDesc}(hs:c.P.underlying src=some e)(hd:c.P.underlying dst=some (.int .u8))(an:aU c E L x (.of a)):bj c E L ⟨d,.convert src dst x,ty,pos,af,g⟩ (.of (a.setWidth 8)):=.pure λA W s=>
 ⟨.int .u8 (a.setWidth 8).toNat,by
   have h:IntKind.u8.wrap (a.toNat:Int)=((a.setWidth 8).toNat:Int):=by rw[wrap_u8,BitVec.toNat_setWidth];have:=a.isLt;omega
   simp only[execOp,convert,dU,ee hs,ee hd,hJ.1 (an A W s),Conv.intToInt,Result.andThen_ok,h];rfl,Nn.2 I⟩
def alp{a:BitVec 64}{src dst:bF}{e:TypeDesc}(hs:c.P.underlying src=some e)(hd:c.P.underlying dst=some (.int .i64))(an:aU c E L x (.of a)):bj c E L ⟨d,.convert src dst x,ty,pos,af,g⟩ (.of (bu a.toNat)):=.pure λA W s=>
 ⟨.int .i64 (bu a.toNat),by
   simp only[execOp,convert,dU,ee hs,ee hd,hJ.1 (an A W s),Conv.intToInt,Result.andThen_ok];rfl,of_int.2 I⟩
end
def xZ(tmps:Array bt):ResultVar->Sem bt
 | .tmp t=>pure (tmps.getD t undef)
 | .cell a t=>do loadVar t (<-asAddr (tmps.getD a undef))
def zY(fn:Func)(tmps:Array bt):results fn tmps=(do
 let vs <-fn.results.mapM (xZ tmps)
 pure (if h:vs.size=1 then vs[0]else .tuple vs)):=by
 unfold results
 congr 1
section
variable{c:cC}{E:aa (Nat×J)}{L:aa aI}{ops:Array Oper}{Q:Exit->Act->bq->Prop}
def qz(c:cC)(E:aa (Nat×J))(L:aa aI)(r:ResultVar)(τ:J):Prop:=
 ∀a W,bP c E L a W->∃v,(xZ a.tmps r).run c.P W=.ok v W∧τ.holds c.b3 W v
def ND{t:Nat}{τ:J}(h:look E t=some τ):qz c E L (.tmp t) τ:=λa W s=>by
 obtain⟨v,h1,ae⟩:=s.env t τ h;exact⟨v,by simp[xZ,h1],WS ae⟩
def abL{t:Nat}{ty:bF}{i p:Nat}{α:Type}[aj α]{x:α}(dP:bS c.P ty α)(h:look E t=some (.eq (.pointer (some ⟨p,0,none⟩))))(ax:L[i]? =some ⟨some p,.var x⟩):qz c E L (.cell t ty) (.of x):=λa W s=>by
 obtain⟨v,h1,ae⟩:=s.env t _ h;subst ae;obtain⟨pO,e3,cs,T,rfl,fV⟩:=s.own _ (e6 ax);have ao:cs.toList.length=aj.size α:=aj.len fV;have dR:cs.size=aj.size α:=by simpa using ao
 obtain⟨v,az,aQ⟩:=zM (A:=ks L++c.b3) (off:=0) dP e3 (by omega) (by rw[vM,<-ao,k4];exact fV);exact⟨v,by simp[xZ,h1,asAddr,az],WS aQ⟩
def vc(c:cC)(ρ:J):Ending->bq->Prop:=λe W'=> ∃v,e=.returned v∧Fr c.X c.j1 W'∧ρ.holds c.b3 W' v
def aq.Nv{fn:Func}{r:ResultVar}{τ:J}(aE:fn.results= #[r])(h:qz c E L r τ)(et:c.ds=[]:=by rfl):aq c (bodyPost c.P fn (vc c τ)) .ret E L:=λa W s=>by
 obtain⟨v,h1,ae⟩:=h a W s;exact⟨s.Ae et,v,by simp[zY,aE,h1],v,rfl,s.dI,ae⟩
def aq.aqv{fn:Func}{r fz:ResultVar}{τ o0:J}(aE:fn.results= #[r,fz])(h:qz c E L r τ)(ae:qz c E L fz o0)(et:c.ds=[]:=by rfl):aq c (bodyPost c.P fn (vc c (.b7 [τ,o0]))) .ret E L:=λa W s=>by
 obtain⟨v,az,aQ⟩:=h a W s;obtain⟨v2,a7,bp⟩:=ae a W s;exact⟨s.Ae et,.tuple #[v,v2],by simp[zY,aE,az,a7],_,rfl,s.dI,_,rfl,.cons aQ (.cons bp .nil)⟩
def aq.aby{fn:Func}{r fz mj:ResultVar}{τ o0 Jp:J}(aE:fn.results= #[r,fz,mj])(h:qz c E L r τ)(ae:qz c E L fz o0)(az:qz c E L mj Jp)(et:c.ds=[]:=by rfl):aq c (bodyPost c.P fn (vc c (.b7 [τ,o0,Jp]))) .ret E L:=λa W s=>by
 obtain⟨v,aQ,a7⟩:=h a W s;obtain⟨v2,bp,cO⟩:=ae a W s;obtain⟨v3,dJ,e5⟩:=az a W s;exact⟨s.Ae et,.tuple #[v,v2,v3],by simp[zY,aE,aQ,bp,dJ],_,rfl,s.dI,_,rfl,.cons a7 (.cons cO (.cons e5 .nil))⟩
def cE.of{P:Program}{f:FuncId}{fn:Func}{code:Code}{n:Nat}{τs:aa J}{ρ:J}(aW:P.funcs[f]? =some fn)(hb:fn.body=some code)(aM:fn.ntmps=n)(hlen:Nat.ble τs.length n=true)
 (h:∀W A,ay ⟨P,n,W,[],A,none,[]⟩ (bodyPost P fn (vc ⟨P,n,W,[],A,none,[]⟩ ρ)) code (params 0 τs) []):cE P f τs ρ:=cE.enter aW hb aM hlen h
end
structure nf(P:Program)(t:TypeId)(α:Type)[aj α][DecidableEq α](k:Nat):Prop where
 run:∀d,k<=d->∀A W u v (x y:α),(J.of x).holds A W u->(J.of y).holds A W v->(Op.equalIn d t u v).run P W=.ok (decide (x=y)) W
def Yz{P t K}(h:P.underlying t=some (.int K)):nf P t Int 1 where
 run d hd A W u v x y an hy:=by
  obtain⟨d,rfl⟩:∃e,d=e+1:=⟨d-1,by omega⟩;rw[of_int.1 an,of_int.1 hy,run_equalIn_int W d t .i64 K x y h];congr 1
def ako{P t K}(h:P.underlying t=some (.int K)):nf P t (BitVec 64) 1 where
 run d hd A W u v x y an hy:=by
  obtain⟨d,rfl⟩:∃e,d=e+1:=⟨d-1,by omega⟩;rw[hJ.1 an,hJ.1 hy,run_equalIn_int W d t .u64 K _ _ h];congr 1;rw[oG];simp only[nv,fk];exact⟨λh=>CO (by omega),λh=>by rw[h]⟩
def aiP{P t}(h:P.underlying t=some .bool):nf P t Bool 1 where
 run d hd A W u v x y an hy:=by
  obtain⟨d,rfl⟩:∃e,d=e+1:=⟨d-1,by omega⟩;rw[of_bool.1 an,of_bool.1 hy,run_equalIn_bool' W d t x y h];congr 1
def P7{P:Program}{W:bq}(f:Nat->Sem Bool)(p:Nat->Bool):∀(l:aa Nat),(∀i∈l,(f i).run P W=.ok (p i) W)->
 (forIn (m:=Sem) l ((none,()):aA Bool×Unit) (λi _=>do
  let __do_lift <-f i
  if (!__do_lift)=true then pure (ForInStep.done (some false,()))else
   pure (ForInStep.yield (none,())))).run P W=.ok (if l.all p then(none,())else(some false,())) W
 |[],_=>by simp
 | i::r,h=>by
   have h1:=h i (by simp);have ae:=P7 (P:=P) (W:=W) f p r (λj aC=>h j (by simp[aC]));cases hp:p i with
   |false=>simp[La,h1,hp]
   | true=>
     rw[La]
     simp only[dU,h1,hp,Result.andThen_ok,Bool.not_true,sb,n0,Sem.run_pure]
     rw[ae]
     simp[hp]
def YA{P t e n k}{α:Type}[aj α][Inhabited α][DecidableEq α](h:P.underlying t=some (.array n e))(eM:bS P e α)(he:nf P e α k):nf P t (Vector α n) (k+1)where
 run d hd A W u v x y an hy:=by
  obtain⟨d,rfl⟩:∃e,d=e+1:=⟨d-1,by omega⟩;obtain⟨h1,ae⟩:=an;obtain⟨az,aQ⟩:=hy;obtain⟨xs,rfl⟩:∃cs,u=.agg cs:=by simpa[shaped,aj.agg]using h1
  obtain⟨ys,rfl⟩:∃cs,v=.agg cs:=by simpa[shaped,aj.agg]using az
  simp only[Value.cells]at ae aQ;have wX:xs.toList.length=n*aj.size α:=aj.len ae;have Jq:ys.toList.length=n*aj.size α:=aj.len aQ;have BD:∀i∈List.range' 0 n,((do
   let a <-part e xs (i*aj.size α)
   let b <-part e ys (i*aj.size α)
   Op.equalIn d e a b):Sem Bool).run P W=.ok (decide (ck x i=ck y i)) W:=by
   intro i au
   have hP:i<n:=by simpa using au
   have fQ:i*aj.size α+aj.size α<=n*aj.size α:=(aP.idx (α:=α) n i hP).ha
   obtain⟨a,aY,wY⟩:=uH (A:=A) (P:=P) (W:=W) (cs:=xs) (off:=i*aj.size α) eM (by simp at wX;omega) ((aP.idx (α:=α) n i hP).jT ae)
   obtain⟨b,hb,Jr⟩:=uH (A:=A) (P:=P) (W:=W) (cs:=ys) (off:=i*aj.size α) eM (by simp at Jq;omega) ((aP.idx (α:=α) n i hP).jT aQ)
   simp only[dU,aY,hb,Result.andThen_ok]
   exact he.run d (by omega) A W a b _ _ wY Jr
  have aW:=P7 (P:=P) (W:=W) _ _ _ BD;have qi:(List.range' 0 n).all (λi=>decide (ck x i=ck y i))=decide (x=y):=by
   rw[oG,ns,fk];constructor
   ·intro h;apply Vector.ext;intro i au;have:=h i (by simpa using au);simpa[ck,au]using this
   rintro rfl i _;simp
  rw[qi]at aW;simp only[Op.equalIn,dU,ee h,Result.andThen_ok,eM.sizeOf,ON];simp only[Std.Legacy.Range.size,Nat.sub_zero,Nat.add_one_sub_one,P1]at aW⊢;simp only[bind_assoc]at aW;rw[aW];by_cases Js:x=y
  ·simp[Js]
  simp[Js]
section
variable{c:cC}{E:aa (Nat×J)}{L:aa aI}{ops:Array Oper}{Q:Exit->Act->bq->Prop}
variable{d:aA Tmp}{ty:bF}{pos:String}{af:Array Edge}{g:aA (Nat×Bool)}{x y:ca}{t t2:bF}
def aac{α:Type}[aj α][DecidableEq α]{k:Nat}{a b:α}(vy:nf c.P t α k)(hk:Nat.ble k 10000=true)(bH:c.P.eqGuardType c.P.depth t=false)(aY:aj.agg α=true)(an:aU c E L x (.of a))(hy:aU c E L y (.of b)):
 bj c E L ⟨d,.binOp .eql t x y t2,ty,pos,af,g⟩ (.of (decide (a=b))):=.pure λA W s=>by
 have h1:=an A W s
 have ae:=hy A W s
 obtain⟨xs,pJ⟩:∃cs,A.eval x=.agg cs:=by simpa[shaped,aY]using h1.1
 obtain⟨ys,yL⟩:∃cs,A.eval y=.agg cs:=by simpa[shaped,aY]using ae.1
 have az:=vy.run 10000 (pb hk) _ W _ _ a b h1 ae
 rw[pJ,yL]at az
 refine⟨.bool (decide (a=b)),?_,of_bool.2 I⟩
 simp only[execOp,pJ,yL,dU,PA W .eql t x y xs ys bH,Result.andThen_ok,run_eql_struct,az,Sem.run_pure]
def aot{α:Type}[aj α][DecidableEq α]{k:Nat}{a b:α}(vy:nf c.P t α k)(hk:Nat.ble k 10000=true)(bH:c.P.eqGuardType c.P.depth t=false)(aY:aj.agg α=true)(an:aU c E L x (.of a))(hy:aU c E L y (.of b)):
 bj c E L ⟨d,.binOp .neq t x y t2,ty,pos,af,g⟩ (.of (!decide (a=b))):=.pure λA W s=>by
 have h1:=an A W s
 have ae:=hy A W s
 obtain⟨xs,pJ⟩:∃cs,A.eval x=.agg cs:=by simpa[shaped,aY]using h1.1
 obtain⟨ys,yL⟩:∃cs,A.eval y=.agg cs:=by simpa[shaped,aY]using ae.1
 have az:=vy.run 10000 (pb hk) _ W _ _ a b h1 ae
 rw[pJ,yL]at az
 refine⟨.bool (!decide (a=b)),?_,of_bool.2 I⟩
 simp only[execOp,pJ,yL,dU,PA W .neq t x y xs ys bH,Result.andThen_ok,run_neq_struct,az,Sem.run_pure]
end
def Mo{P:Program}{W:bq}{d:Nat}{xs ys:Array bt}:(Op.eqFields d xs ys []).run P W=.ok true W:=rfl
def sl{P:Program}{A:aa Nat}{W:bq}{d:Nat}{xs ys:Array bt}{β γ:Type}[aj β][aj γ][DecidableEq γ](l:aP β γ){Uq Ur:β}{fd:Field}{fs:aa Field}{k:Nat}{r:Bool}(eM:bS P fd.type γ)(a8:fd.offset=l.off)(aM:(fd.name== "_")=false)
 (vy:nf P fd.type γ k) (hd:k<=d) (an:aj.rep A W xs.toList Uq) (hy:aj.rep A W ys.toList Ur) (aE:(Op.eqFields d xs ys fs).run P W=.ok r W):
 (Op.eqFields d xs ys (fd::fs)).run P W=.ok (decide (l.get Uq=l.get Ur)&&r) W:=by
 have wX:xs.toList.length=aj.size β:=aj.len an
 have Jq:ys.toList.length=aj.size β:=aj.len hy
 have fQ:=l.ha
 obtain⟨a,aY,wY⟩:=uH (A:=A) (P:=P) (W:=W) (cs:=xs) (off:=l.off) eM (by simp at wX;omega) (l.jT an)
 obtain⟨b,hb,Jr⟩:=uH (A:=A) (P:=P) (W:=W) (cs:=ys) (off:=l.off) eM (by simp at Jq;omega) (l.jT hy)
 have q5:fd.name≠ "_" :=fun e=>by rw [e] at aM;simp at aM
 simp only[Op.eqFields,bk q5,dU,a8,aY,hb,Result.andThen_ok,vy.run d hd A W a b _ _ wY Jr]
 by_cases h:l.get Uq=l.get Ur
 ·simp[h,aE]
 simp[h]
def L0{P:Program}{t:bF}{β:Type}[aj β][DecidableEq β]{k:Nat}{fs:Array Field}(aY:aj.agg β=true)(hu:P.underlying t=some (.struct fs))(hp:P.stoodInHeld t=false)
 (h:∀d,k<=d->∀A W (xs ys:Array bt) (x y:β),aj.rep A W xs.toList x->aj.rep A W ys.toList y->(Op.eqFields d xs ys fs.toList).run P W=.ok (decide (x=y)) W):nf P t β (k+1)where
 run d hd A W u v x y an hy:=by
  obtain⟨d,rfl⟩:∃e,d=e+1:=⟨d-1,by omega⟩;obtain⟨xs,rfl⟩:∃cs,u=.agg cs:=by simpa[shaped,aY]using an.1
  obtain⟨ys,rfl⟩:∃cs,v=.agg cs:=by simpa[shaped,aY]using hy.1
  have aW:P.fieldsOf t=fs:=by simp[Program.fieldsOf,hu]
  rw[run_equalIn_struct W d t xs ys (by rw[aW];exact hu) hp,aW];exact h d (by omega) A W xs ys x y (by simpa[Value.cells]using an.2) (by simpa[Value.cells]using hy.2)
def Wp{P:Program}{W:bq}(fs:Array Field)(h:fs.all (λf=>(P.info? f.type).isSome)=true):
 (fs.mapM (m:=Sem) λf=>do pure (f.offset,<-Go.sizeOf f.type)).run P W=.ok (fs.map λf=>(f.offset,P.cellsOf f.type)) W:=by
 obtain⟨l⟩:=fs
 have key:∀(l:aa Field),l.all (λf=>(P.info? f.type).isSome)=true->(l.mapM (m:=Sem) λf=>do pure (f.offset,<-Go.sizeOf f.type)).run P W=.ok (l.map λf=>(f.offset,P.cellsOf f.type)) W:=by
  intro l;induction l with
  |nil=>intro _;rfl
  | cons f r b6=>
    intro h
    simp only[List.all_cons,gq]at h
    obtain⟨i,au⟩:=OV.1 h.1
    rw[List.mapM_cons]
    simp only[dU,Go.sizeOf,typeInfo,run_program,Result.andThen_ok,au,Sem.run_pure]
    have:=b6 h.2
    simp only[dU,Go.sizeOf,typeInfo]at this
    rw[this]
    simp[Program.cellsOf,au]
 have c8:l.all (λf=>(P.info? f.type).isSome)=true:=by simpa using h
 rw[List.mapM_toArray]
 simp only[Sem.run_map,key l c8,Result.andThen_ok]
 simp
def agV(ds:aa bt)(off:Nat):∀(j:Nat) (cs:Array bt),off+j+ds.length<=cs.size->
 (ds.zipIdx j).foldl (λcs (c,j)=>cs.setIfInBounds (off+j) c) cs=(cs.toList.take (off+j)++ds++cs.toList.drop (off+j+ds.length)).toArray:=by
 induction ds with
 |nil=>intro j cs _;simp
 | cons v r b6=>
   intro j cs h
   simp only[List.length_cons]at h
   rw[List.zipIdx_cons,List.foldl_cons,b6 (j+1) _ (by simp;omega)]
   simp only[Array.toList_setIfInBounds]
   have:=list_seg_step cs.toList (off+j) v r (by simp;omega)
   rw[show off+(j+1)=off+j+1 by omega]
   simp only[List.length_cons]
   rw[this]
def Mc{place:Nat->aA (Nat×Nat)}{cs:Array bt}{i off sz:Nat}{v:bt}{rest:aa (Nat×bt)}(hp:place i=some (off,sz))(ba:v.cells.size=sz)(hle:off+sz<=cs.size):
 Instr.fill place cs ((i,v)::rest)=Instr.fill place (gV cs.toList off v.cells.toList).toArray rest:=by
 simp only[Instr.fill,hp]
 rw[bf (by simp[ba];omega)]
 have:=agV v.cells.toList off 0 cs (by simp[ba];omega)
 simp only[Nat.add_zero]at this
 congr 1
 rw[<-Array.foldl_toList]
 have b2:(v.cells.zipIdx).toList=v.cells.toList.zipIdx:=by simp
 rw[b2,this]
 simp[gV]
section
variable{c:cC}{E:aa (Nat×J)}{L:aa aI}{ops:Array Oper}{Q:Exit->Act->bq->Prop}
variable{d:aA Tmp}{ty:bF}{pos:String}{af:Array Edge}{g:aA (Nat×Bool)}{x y:ca}{t t2:bF}
inductive tl(c:cC)(E:List (Nat×J))(L:List aI)(place:Nat->Option (Nat×Nat)){β:Type}[aj β]:β->List (Nat×Operand)->β->Prop
 |nil {b}:tl c E L place b [] b
 |cons {b dD b':β} {γ:Type} [aj γ] {v:γ} {i:Nat} {x:Operand} {r:List (Nat×Operand)} (l:aP β γ):place i=some (l.off,aj.size γ)->aU c E L x (.of v)->l.set b v=dD->tl c E L place dD r b'->tl c E L place b ((i,x)::r) b'
def tl.run{place:Nat->aA (Nat×Nat)}{β:Type}[aj β]{b b':β}{ec:aa (Nat×ca)}(h:tl c E L place b ec b'):∀a W,bP c E L a W->∀cs:Array bt,aj.rep (ks L++c.b3) W cs.toList b->
 ∃eW,Instr.fill place cs (ec.map λ(i,x)=>(i,a.eval x))=some eW∧aj.rep (ks L++c.b3) W eW.toList b':=by
 induction h with
 |nil=>intro a W s cs aE;exact⟨cs,rfl,aE⟩
 | @cons b dD b' γ _ v i x r l h1 ae az _ b6=>
   intro a W s cs aE
   subst az
   have ba:=ae a W s
   have dR:(a.eval x).cells.size=aj.size γ:=by have:=aj.len ba.2;simpa using this
   have ao:cs.toList.length=aj.size β:=aj.len aE
   have fQ:=l.ha
   rw[oH,Mc h1 dR (by simp at ao;omega)]
   refine b6 a W s _ ?_
   have:=l.n1 aE ba.2
   simpa[gV,aj.len ba.2]using this
class fS (P:Program) (t:bF) (pl:outParam (Array (Nat×Nat))):Prop where
 at_:∃fs,P.underlying t=some (.struct fs)∧fs.all (λf=>(P.info? f.type).isSome)=true∧(fs.map λf=>(f.offset,P.cellsOf f.type))=pl
def l0{β:Type}[aj β]{z b:β}{ec:aa (Nat×ca)}{pl:Array (Nat×Nat)}(aY:aj.agg β=true)(Kg:fS c.P t pl)(gT:dx c.P t z)
 (aW:tl c E L (pl[·]?) z ec b):bj c E L ⟨d,.build t ec.toArray,ty,pos,af,g⟩ (.of b):=.pure λa W s=>by
 obtain⟨fs,hu,hs,rfl⟩:=Kg.at_
 obtain⟨i,ed,h1,ae,az⟩:=gT.zero
 obtain⟨eW,aQ,a7⟩:=aW.run a W s ed.cells (az _ _).2
 refine⟨.agg eW,?_,by simp[shaped,aY],by simpa[Value.cells]using a7⟩
 have hm:(ec.toArray.map λ(x:Nat×ca)=>(x.1,a.eval x.2)).toList=ec.map λ(i,x)=>(i,a.eval x):=by simp
 simp only[execOp,Instr.build,dU,zeroValue,typeInfo,run_program,Result.andThen_ok,h1,ae,Sem.run_pure,ee hu,Wp fs hs]
 rw[hm,aQ]
 rfl
def aiH{β:Type}[aj β]{z b:β}{ec:aa (Nat×ca)}{n e sz:Nat}(aY:aj.agg β=true)(hu:c.P.underlying t=some (.array n e))(hs:(c.P.info? e).map (·.size)=some sz)(gT:dx c.P t z)
 (aW:tl c E L (λi=>some (i*sz,sz)) z ec b):bj c E L ⟨d,.build t ec.toArray,ty,pos,af,g⟩ (.of b):=.pure λa W s=>by
 obtain⟨i,ed,h1,ae,az⟩:=gT.zero
 obtain⟨gH,eo,dR⟩:∃gH,c.P.info? e=some gH∧gH.size=sz:=by
  cases au:c.P.info? e with
  |none=>simp[au]at hs
  |some gH=>exact⟨gH,rfl,by simpa[au]using hs⟩
 obtain⟨eW,aQ,a7⟩:=aW.run a W s ed.cells (az _ _).2
 refine⟨.agg eW,?_,by simp[shaped,aY],by simpa[Value.cells]using a7⟩
 have hm:(ec.toArray.map λ(x:Nat×ca)=>(x.1,a.eval x.2)).toList=ec.map λ(i,x)=>(i,a.eval x):=by simp
 simp only[execOp,Instr.build,dU,zeroValue,typeInfo,run_program,Result.andThen_ok,h1,ae,Sem.run_pure,ee hu,Go.sizeOf,eo,dR]
 rw[hm,aQ]
 rfl
end
def ri{α:Type}[aj α](A:aa Nat)(W:bq)(v:bt)(xs:aa α):Prop:=
 (v=.slice none 0 0∧xs=[])∨
 ∃ b off cap cur T jl,v=.slice (some ⟨b,off,none⟩) xs.length cap∧b∉A∧W.heap[b]? =some (.cells cur T jl)∧xs.length<=cap∧xs.length<=maxLen∧off+xs.length*aj.size α<=cur.size∧
   hx A W ((cur.toList.drop off).take (xs.length*aj.size α)) xs
def ri.mono{α:Type}[aj α]{A W cR W' v}{xs:aa α}(e:Ext A W cR W')(h:ri A W v xs):ri cR W' v xs:=by
 rcases h with h|⟨b,off,cap,cur,T,jl,h1,ae,az,aQ,a7,bp,cO⟩
 ·exact .inl h
 have ch:b<W.heap.size:=(s5.1 az).1;exact .inr ⟨b,off,cap,cur,T,jl,h1,λhm=>ae (e.new b hm ch),by rw[e.block b ch ae];exact az,aQ,a7,bp,cO.mono e⟩
instance{α:Type}[aj α]:aj (aa α)where
 size:=1
 agg:=false
 rep A W cs xs:=∃v,cs=[v]∧ri A W v xs
 len h:=by obtain⟨v,rfl,_⟩:=h;rfl
 one h:=by
  obtain⟨v,rfl,h⟩:=h;intro u hu;rw[hi.1 hu];rcases h with⟨rfl,_⟩|⟨b,off,cap,cur,T,jl,rfl,_⟩ <;> rfl
 flat _:=rfl
 mono e h:=let⟨v,h1,ae⟩:=h; ⟨v,h1,ae.mono e⟩
def ri.one{α:Type}[aj α]{A W v}{xs:aa α}(h:ri A W v xs):v.oneCell'=true:=by
 rcases h with⟨rfl,_⟩|⟨b,off,cap,cur,T,jl,rfl,_⟩ <;> rfl
def p3{α:Type}[aj α]{A W v}{xs:aa α}:(J.of xs).holds A W v↔ri A W v xs:=by
 constructor
 ·rintro ⟨h1,u,ae,az⟩;have:v=u:=oJ h1 ae;rw[this];exact az
 intro h;exact⟨h.one,v,by rw[cells_one h.one],h⟩
def av{α:Type}[Inhabited α](xs:aa α)(k:Nat):α:=xs[k]?.getD default
def dp{α:Type}[Inhabited α](xs:aa α){k:Nat}(h:k<xs.length):av xs k=xs[k]:=by simp[av,h]
def so{α:Type}(xs:aa α)(lo au:Int):aA (aa α):=if 0<=lo∧lo<=au∧au<=xs.length then some ((xs.drop lo.toNat).take (au.toNat-lo.toNat))else none
def agW{α:Type}{xs r:aa α}{lo au:Int}(h:so xs lo au=some r):∃a b:Nat,lo=a∧au=b∧a<=b∧b<=xs.length∧r=(xs.drop a).take (b-a):=by
 unfold so at h;split at h
 ·rename_i ak;simp only[gy]at h;exact⟨lo.toNat,au.toNat,by omega,by omega,by omega,by omega,h.symm⟩
 cases h
def e8{α:Type}(bytes:Nat)(xs ys:aa α):aA (aa α):=if (xs.length+ys.length)*bytes<=140737488355328∧xs.length+ys.length<=maxLen then some (xs++ys)else none
def Xf{α:Type}{bytes:Nat}{xs ys r:aa α}(h:e8 bytes xs ys=some r):(xs.length+ys.length)*bytes<=140737488355328∧xs.length+ys.length<=maxLen∧r=xs++ys:=by
 unfold e8 at h;split at h
 ·rename_i ak;simp only[gy]at h;exact⟨ak.1,ak.2,h.symm⟩
 cases h
section
variable{c:cC}{E:aa (Nat×J)}{L:aa aI}{ops:Array Oper}{Q:Exit->Act->bq->Prop}
variable{d:aA Tmp}{ty:bF}{pos:String}{af:Array Edge}{g:aA (Nat×Bool)}{x y:ca}{t t2:bF}
def look_nil{α:Type}[aj α]:aU c E L (.const (.slice none 0 0)) (.of ([]:aa α)):=λ_ _ _=>p3.2 (.inl ⟨rfl,rfl⟩)
def ri.len{α:Type}[aj α]{A W v}{xs:aa α}(h:ri A W v xs):∃a cap,v=.slice a xs.length cap:=by
 rcases h with⟨rfl,rfl⟩|⟨b,off,cap,cur,T,jl,rfl,_⟩
 ·exact⟨none,0,rfl⟩
 exact⟨_,_,rfl⟩
def su{α:Type}[aj α]{xs:aa α}{e:bF}(hu:c.P.underlying t=some (.slice e))(an:aU c E L x (.of xs)):bj c E L ⟨d,.call ⟨.builtin .len,#[x],#[t]⟩,ty,pos,af,g⟩ (.of (xs.length:Int)):=.pure λa W s=>by
 obtain⟨b,cap,h1⟩:=(p3.1 (an a W s)).len;exact⟨.int .i64 xs.length,by simp[execOp,resolve,invoke,builtin,Builtin.len_,h1,ee hu,goInt],of_int.2 I⟩
def pz{α:Type}[aj α][Inhabited α]{xs:aa α}{e:bF}{i:Int}{k:Nat}(hu:c.P.underlying t=some (.slice e))(eM:bS c.P e α)(an:aU c E L x (.of xs))(hy:aU c E L y (.of i))(hk:k<xs.length∧i=k):
 bj c E L ⟨d,.indexAddr t x y,ty,pos,af,g⟩ (.ptr (av xs k)):=.pure λa W s=>by
 obtain⟨bp,rfl⟩:=hk
 have a7:=of_int.1 (hy a W s)
 rcases p3.1 (an a W s)with⟨_,rfl⟩|⟨b,off,cap,cur,T,jl,h1,ae,az,aQ,cO,dJ,e5⟩
 ·simp at bp
 obtain⟨gH,eo,dR⟩:=eM.info
 have hle:(k+1)*aj.size α<=xs.length*aj.size α:=hC _ bp
 rw[sf]at hle
 refine⟨.pointer (some ⟨b,off+k*aj.size α,none⟩),?_,b,off+k*aj.size α,cur,T,jl,rfl,ae,az,by omega,?_⟩
 ·simp[execOp,Instr.indexAt,asIntOf,ee hu,h1,a7,bp,Go.sizeOf,typeInfo,eo,dR,kg]
 have:=e5.2 k bp
 rw[zS _ _ _ _ _ hle]at this
 rw[dp xs bp]
 exact this
def si{P:Program}{W:bq}{v:bt}{k:IntKind}{n m:Nat}{code:BoundsCode}(h:n<=m)(ba:v=.int k n):(Instr.sliceBound v m code).run P W=.ok n W:=by
 subst ba;have bJ:(n:Int)<=(m:Int):=by omega
 simp[Instr.sliceBound,asIntOf,h]
def akp{α:Type}[aj α]{A W}{xs:aa α}{b off cap:Nat}{cur:Array bt}{T:bF}{jl:Nat×Nat}{lo au:Nat}(ae:b∉A)(az:W.heap[b]? =some (.cells cur T jl))(aQ:xs.length<=cap)(cO:xs.length<=maxLen)
 (dJ:off+xs.length*aj.size α<=cur.size) (e5:hx A W ((cur.toList.drop off).take (xs.length*aj.size α)) xs) (h:lo<=au) (c8:au<=xs.length):
 ri A W (.slice (some (if cap=lo then⟨b,off,none⟩else⟨b,off+lo*aj.size α,none⟩)) (au-lo) (cap-lo)) ((xs.drop lo).take (au-lo)):=by
 have ao:((xs.drop lo).take (au-lo)).length=au-lo:=by simp;omega
 have hm:au*aj.size α<=xs.length*aj.size α:=hC _ c8
 have pI:lo*aj.size α<=au*aj.size α:=hC _ h
 have hd:(au-lo)*aj.size α=au*aj.size α-lo*aj.size α:=Nat.sub_mul _ _ _
 by_cases e:cap=lo
 ·subst e
  have bJ:au=cap:=by omega
  subst bJ
  refine .inr ⟨b,off,au-au,cur,T,jl,by simp,ae,az,by simp,by simp,by simp;omega,?_⟩
  simp only[Nat.sub_self,List.take_zero,List.length_nil,zG]
  exact⟨by simp,λi au=>by simp at au⟩
 rw[bf e]
 refine .inr ⟨b,off+lo*aj.size α,cap-lo,cur,T,jl,by rw[ao],ae,az,by omega,by omega,by rw[ao];omega,?_⟩
 rw[ao]
 refine⟨by simp only[ao,fT,ku];simp;omega,λi hP=>?_⟩
 rw[ao]at hP
 have mA:=e5.2 (lo+i) (by omega)
 have hle:(lo+i+1)*aj.size α<=xs.length*aj.size α:=hC _ (by omega)
 have NL:(i+1)*aj.size α<=(au-lo)*aj.size α:=hC _ (by omega)
 rw[sf]at hle NL
 rw[zS _ _ _ _ _ hle]at mA
 rw[zS _ _ _ _ _ NL]
 have:((xs.drop lo).take (au-lo))[i]'(by rw[ao];exact hP)=xs[lo+i]:=by simp
 rw[this]
 rw[show off+lo*aj.size α+i*aj.size α=off+(lo+i)*aj.size α by rw[nu];omega]
 exact mA
inductive y4(c:cC)(E:List (Nat×J))(L:List aI):Option Operand->Int->Int->Prop
 |none {n}:y4 c E L .none n n
 |some {x i n}:aU c E L x (.of (i:Int))->y4 c E L (.some x) i n
def Mj{α:Type}[aj α]{xs r:aa α}{e:bF}{lo au:aA ca}{i j:Int}(hu:c.P.underlying t=some (.slice e))(eM:bS c.P e α)(an:aU c E L x (.of xs))(jL:y4 c E L lo i 0)(gQ:y4 c E L au j xs.length)
 (h:so xs i j=some r):bj c E L ⟨d,.slice t x lo au none,ty,pos,af,g⟩ (.of r):=.pure λa W s=>by
 obtain⟨m,n,rfl,rfl,wT,aM,rfl⟩:=agW h
 obtain⟨gH,eo,dR⟩:=eM.info
 rcases p3.1 (an a W s)with⟨h1,rfl⟩|⟨b,off,cap,cur,T,jl,h1,ae,az,aQ,cO,dJ,e5⟩
 ·have vp:n=0:=by simpa using aM
  have h3:m=0:=by omega
  subst vp
  subst h3
  refine⟨.slice none 0 0,?_,p3.2 (.inl ⟨rfl,by simp⟩)⟩
  have ax:(match lo.map a.eval with |some v=>Instr.sliceBound v 0 .sliceB|none=>pure 0:Sem Nat).run c.P W=.ok 0 W:=by
   cases jL with
   |none=>rfl
   |some ao=>exact si (jF _) (of_int.1 (ao a W s))
  have hH:(match au.map a.eval,(none:aA bt) with | some v,some _=>Instr.sliceBound v 0 .slice3B | some v,none=>Instr.sliceBound v 0 .sliceAcap | none,none=>pure 0 | none,some _=>stuck "Slice: max without high" :Sem Nat).run c.P W= .ok 0 W:=by
   cases gQ with
   |none=>rfl
   |some ao=>exact si (jF _) (of_int.1 (ao a W s))
  cases jL <;> cases gQ
  all_goals
   simp only[execOp,Instr.sliceAt,Instr.slice,Instr.sliceBounds,h1,dU,ee hu,Result.andThen_ok,Option.map_none,Option.map_some,Option.isSome_none,sb,n0,lY,Sem.run_pure]at ax hH⊢
   try simp only[ax,hH,Result.andThen_ok,Go.sizeOf,typeInfo,dU,run_program,eo,Sem.run_pure]
   try simp[eo]
 refine⟨.slice (some (if cap=m then⟨b,off,none⟩else⟨b,off+m*aj.size α,none⟩)) (n-m) (cap-m),?_,p3.2 (akp ae az aQ cO dJ e5 wT aM)⟩
 have ax:∀v,v=Value.int .i64 m->(Instr.sliceBound v n .sliceB).run c.P W=.ok m W:=λv ba=>si wT ba
 have hH:∀v,v=Value.int .i64 n->(Instr.sliceBound v cap .sliceAcap).run c.P W=.ok n W:=λv ba=>si (by omega) ba
 have yo:(if cap=m then(some ⟨b,off,none⟩:aA Addr)else(some (Addr.add ⟨b,off,none⟩ (m*aj.size α))))=some (if cap=m then⟨b,off,none⟩else⟨b,off+m*aj.size α,none⟩):=by
  split <;> simp[kg]
 generalize fQ:(n:Int)=adn at gQ
 generalize Jt:(m:Int)=ado at jL
 generalize Ca:(xs.length:Int)=adp at gQ
 generalize acE:(0:Int)=adq at jL
 cases jL with
 | none=>
   have h3:m=0:=by omega
   cases gQ with
   | none=>
     have ng:n=xs.length:=by omega
     subst ng
     subst h3
     simp[execOp,Instr.sliceAt,Instr.slice,Instr.sliceBounds,h1,ee hu,Go.sizeOf,typeInfo,eo,dR,kg]
   | some ao=>
     have a7:=of_int.1 (ao a W s)
     rw[<-fQ]at a7
     have bp:=hH _ a7
     subst h3
     simp[execOp,Instr.sliceAt,Instr.slice,Instr.sliceBounds,h1,ee hu,Go.sizeOf,typeInfo,eo,dR,kg,bp]
 | some ao=>
   have a7:=of_int.1 (ao a W s)
   rw[<-Jt]at a7
   have bp:=ax _ a7
   cases gQ with
   | none=>
     have ng:n=xs.length:=by omega
     subst ng
     simp only[execOp,Instr.sliceAt,Instr.slice,Instr.sliceBounds,h1,dU,ee hu,Result.andThen_ok,Option.map_none,Option.map_some,Option.isSome_none,sb,n0,lY,Sem.run_pure,bp,Go.sizeOf,typeInfo,run_program,eo,dR]
     rw[<-yo]
   | some kX=>
     have acF:=of_int.1 (kX a W s)
     rw[<-fQ]at acF
     have asf:=hH _ acF
     simp only[execOp,Instr.sliceAt,Instr.slice,Instr.sliceBounds,h1,dU,ee hu,Result.andThen_ok,Option.map_none,Option.map_some,Option.isSome_none,sb,n0,lY,Sem.run_pure,bp,asf,Go.sizeOf,typeInfo,run_program,eo,dR]
     rw[<-yo]
end
def aH:aA Nat->Nat->Nat->bt
 |some p,n,cap=>.slice (some ⟨p,0,none⟩) n cap
 |none,_,_=>.slice none 0 0
def agX{L:aa aI}{i:Nat}{cp:eL}:∀k∈ks (L.set i ⟨none,cp⟩),∃j e,j≠i∧L[j]? =some e∧e.key=some k:=by
 intro k hk;obtain⟨e,he,N8⟩:=sq.1 hk;obtain⟨j,aC⟩:=oE.1 he;rw[pR]at aC;split at aC
 ·split at aC
  ·simp only[gy]at aC;subst aC;cases N8
  cases aC
 rename_i dm;exact⟨j,e,λh=>dm h.symm,aC,N8⟩
def Dx{L:aa aI}{i:Nat}{cp:eL}:ks (L.set i ⟨none,cp⟩) |>.Sublist (ks L):=by
 induction L generalizing i with
 |nil=>simp[ks]
 | cons x r b6=>
   cases i with
   | zero=>
     cases hk:x.key with
     |none=>simp[ks,hk]
     |some p=>simp[ks,hk]
   | succ i=>
     cases hk:x.key with
     |none=>simpa[ks,hk]using b6
     |some p=>simpa[ks,hk]using b6
def bP.kill{c E L a W}(h:bP c E L a W)(i:Nat):bP c E (L.set i ⟨none,.dead⟩) a W:=by
 have oc:=Dx (L:=L) (i:=i) (cp:=.dead);have hk:∀k∈ks (L.set i ⟨none,.dead⟩),k∈ks L:=λk hk=>oc.subset hk;have iG:Ext (ks L++c.b3) W (ks (L.set i ⟨none,.dead⟩)++c.b3) W:=.drop λk hm=>by
  rcases cz.1 hm with hm|hm
  ·exact cz.2 (.inl (hk k hm))
  exact cz.2 (.inr hm)
 exact
 {defers:=h.defers
  size:=h.size
  env:=λt τ ao=>let⟨v,h1,ae⟩:=h.env t τ ao; ⟨v,h1,τ.mono iG ae⟩
  dI:=h.dI
  own:=λe he=>by
   obtain⟨j,aC⟩:=oE.1 he;rw[pR]at aC;split at aC
   ·split at aC
    ·simp only[gy]at aC;subst aC;trivial
    cases aC
   have h1:=h.own e (e6 aC);unfold aI.ok at *;split at h1
   ·obtain⟨o',a8,cB⟩:=h1;exact⟨o',a8,eL.mono _ iG cB⟩
   exact h1
  nodup:=h.nodup.sublist oc
  lt:=λk hm=>h.lt k (hk k hm)
  fO:=λk hm=>h.fO k (hk k hm)
  eG:=λk hm=>⟨(h.eG k hm).1,λae=>(h.eG k hm).2 (hk k ae)⟩}
def bP.HL{c E L a W}(h:bP c E L a W){i p:Nat}{cp:eL}(au:L[i]? =some ⟨some p,cp⟩):p∉ks (L.set i ⟨none,.dead⟩)++c.b3:=by
 intro hm;rcases cz.1 hm with hm|hm
 ·obtain⟨j,e,dm,aC,N8⟩:=agX p hm;exact dm (RK h.nodup aC au N8 I)
 exact(h.eG p hm).2 (sq.2 ⟨_,e6 au,rfl⟩)
def Qb{α:Type}[aj α]{A W}{cs:Array bt}{xs:aa α}{cap:Nat}(h:cs.size=cap*aj.size α)(aM:xs.length<=cap)(aE:hx A W (cs.toList.take (xs.length*aj.size α)) xs):
 0+xs.length*aj.size α<=cs.size∧hx A W ((cs.toList.drop 0).take (xs.length*aj.size α)) xs:=by
 refine⟨?_,by simpa using aE⟩
 rw[h,jQ];exact hC _ aM
section
variable{c:cC}{E:aa (Nat×J)}{L:aa aI}{ops:Array Oper}{Q:Exit->Act->bq->Prop}
variable{d:aA Tmp}{ty:bF}{pos:String}{af:Array Edge}{g:aA (Nat×Bool)}{x y:ca}{t t2:bF}
def bP.freeze{a:Act}{W:bq}{α:Type}[aj α]{i s cap T:Nat}{key:aA Nat}{xs:aa α}(h:bP c E L a W)(ao:look E s=some (.eq (aH key xs.length cap)))(ax:L[i]? =some ⟨key,.row T xs cap⟩):
 bP c ((s,.of xs)::E) (L.set i ⟨none,.dead⟩) a W:=by
 have hk:=h.kill i
 refine {hk with env:=λt τ fh=>?_}
 simp only[look]at fh
 by_cases e:Nat.beq s t=true
 ·rw [e]at fh
  simp only[cond_true,gy]at fh
  subst fh
  have:=fx.1 e
  subst this
  obtain⟨v,h1,ae⟩:=h.env s _ ao
  refine⟨v,h1,p3.2 ?_⟩
  have mB:v=aH key xs.length cap:=ae
  subst mB
  have a8:=h.own _ (e6 ax)
  cases key with
  |none=>exact .inl ⟨rfl,a8.1⟩
  | some p=>
    obtain⟨o,e3,cs,rfl,dR,aM,B3,aE⟩:=a8
    obtain⟨az,aQ⟩:=Qb dR aM aE
    refine .inr ⟨p,0,cap,cs,T,(0,0),rfl,h.HL ax,e3,aM,by omega,az,?_⟩
    have oc:=Dx (L:=L) (i:=i) (cp:=.dead)
    exact aQ.mono (.drop λk hm=>by
     rcases cz.1 hm with hm|hm
     ·exact cz.2 (.inl (oc.subset hm))
     exact cz.2 (.inr hm))
 simp only[lX]at e
 rw[e]at fh
 exact hk.env t τ fh
def ay.freeze{code:Code}{α:Type}[aj α]{key:aA Nat}{xs:aa α}{cap T:Nat}(i s:Nat)(ao:look E s=some (.eq (aH key xs.length cap)))(ax:L[i]? =some ⟨key,.row T xs cap⟩)
 (k:ay c Q code ((s,.of xs)::E) (L.set i ⟨none,.dead⟩)):ay c Q code E L:=λa W st=>k a W (st.freeze ao ax)
def bP.alq{a:Act}{W:bq}{α:Type}[aj α](T:bF)(h:bP c E L a W):bP c E (⟨none,.row T ([]:aa α) 0⟩::L) a W:=
 {h with
  own:=λe he=>by
   rcases dW.1 he with rfl|he
   ·exact⟨rfl,rfl⟩
   exact h.own e he}
def ad.own{l:aa Oper}{α:Type}[aj α](T:bF)(k:ad c ops Q l E (⟨none,.row T ([]:aa α) 0⟩::L)):ad c ops Q l E L:=λa W st=>k a W (st.alq T)
def lx:aU c E L (.const (.slice none 0 0)) (.eq (aH none 0 0)):=λ_ _ _=>rfl
def pt{key:aA Nat}{n cap:Nat}{e i T:Nat}{α:Type}[aj α]{xs:aa α}(hu:c.P.underlying t=some (.slice e))(an:aU c E L x (.eq (aH key n cap)))(aM:n=xs.length)(ax:L[i]? =some ⟨key,.row T xs cap⟩):bj c E L ⟨d,.call ⟨.builtin .len,#[x],#[t]⟩,ty,pos,af,g⟩ (.of (n:Int)):=.pure λa W s=>by
 subst aM;have h1:a.eval x=_:=an a W s;have a8:=s.own _ (e6 ax);cases key with
 | none=>
   have:xs=[]:=a8.1
   subst this
   exact⟨.int .i64 0,by simp[execOp,resolve,invoke,builtin,Builtin.len_,h1,aH,ee hu,goInt],of_int.2 I⟩
 |some p=>exact⟨.int .i64 xs.length,by simp[execOp,resolve,invoke,builtin,Builtin.len_,h1,aH,ee hu,goInt],of_int.2 I⟩
def hx.one{α:Type}[aj α]{A W}{cs:aa bt}{xs:aa α}(h:hx A W cs xs):∀u∈cs,u.oneCell'=true:=by
 intro u hu;obtain⟨j,aC⟩:=oE.1 hu;have ch:=(hh.1 aC).1;have h1:=h.1;by_cases hs:aj.size α=0
 ·rw[hs,Nat.mul_zero]at h1;omega
 have hp:0<aj.size α:=F0 hs;have au:j/aj.size α<_:=(Ve hp).2 (by rw[h1]at ch;exact ch);refine aj.one (h.2 _ au) u (oE.2 ⟨j % aj.size α,?_⟩);rw[k3,bk (G3 _ hp),mo,se,Gm];exact aC
def xH{α:Type}[aj α]{A W}{cs ds:aa bt}{xs ys:aa α}(h:hx A W cs xs)(c8:hx A W ds ys):hx A W (cs++ds) (xs++ys):=by
 refine⟨by rw[gj,h.1,c8.1,gj,nu],λi au=>?_⟩;rw[gj]at au;by_cases ch:i<xs.length
 ·have h1:=h.2 i ch;have hle:(i+1)*aj.size α<=xs.length*aj.size α:=hC _ ch;rw[sf]at hle;have lh:=h.1;rw[UP (by omega),CI (by simp;omega)];rw[List.getElem_append_left ch];exact h1
 have h1:=c8.2 (i-xs.length) (by omega);have e:i*aj.size α=cs.length+(i-xs.length)*aj.size α:=by
  rw[h.1,<-nu];congr 1;omega
 rw[e,Pq,FK (by omega),List.nil_append,show cs.length+(i-xs.length)*aj.size α-cs.length=(i-xs.length)*aj.size α by omega];rw[List.getElem_append_right (by omega)];exact h1
def ri.cells{α:Type}[aj α]{A W v}{ys:aa α}(h:ri A W v ys):
 (v=.slice none 0 0∧ys=[])∨∃(b off cap:Nat) (news:aa bt),v=.slice (some ⟨b,off,none⟩) ys.length cap∧news.length=ys.length*aj.size α∧(∀(j:Nat) (u:bt),news[j]? =some u->W.cell? ((⟨b,off,none⟩:Addr).add j)=some u)∧
  (∀u∈news,u.oneCell'=true)∧hx A W news ys:=by
 rcases h with h|⟨b,off,cap,cur,T,jl,h1,ae,az,aQ,a7,bp,cO⟩
 ·exact .inl h
 refine .inr ⟨b,off,cap,_,h1,cO.1,λj u hu=>?_,λu hu=>?_,cO⟩
 ·rw[k3]at hu
  split at hu
  ·rw[kg,zI W b (off+j) cur T jl az]
   rw[mo]at hu
   simpa using hu
  cases hu
 exact cO.one u hu
def bP.grow{a:Act}{W:bq}(h:bP c E L a W){i:Nat}{fo:aI}(au:L[i]? =some fo){o:Obj}{cp:eL}(ak:cp.holds (ks L++c.b3) W o):
 bP c E (L.set i ⟨some W.heap.size,cp⟩) a (W.alloc o):=by
 have h1:=h.alloc ak
 refine h1.sub (λe he=>?_) ?_
 ·obtain⟨j,aC⟩:=oE.1 he
  rw[pR]at aC
  split at aC
  ·split at aC
   ·simp only[gy]at aC;subst aC;simp
   cases aC
  exact fM _ (e6 aC)
 have rN:W.heap.size∉ks L:=λhm=>Lt _ (h.lt _ hm)
 have key:∀(L:aa aI) (i:Nat) (q:Nat),q∉ks L->(ks L).Nodup->(ks (L.set i ⟨some q,cp⟩)).Nodup∧∀k∈ks (L.set i ⟨some q,cp⟩),k=q∨k∈ks L:=by
  intro L;induction L with
  |nil=>intro i q _ aM;exact⟨by simpa using aM,by simp[ks]⟩
  | cons x r b6=>
    intro i q hq aM
    cases an:x.key with
    | none=>
      have qp:q∉ks r:=by simpa[ks,an]using hq
      have q5:(ks r).Nodup:=by simpa[ks,an]using aM
      cases i with
      |zero=>exact⟨by simp only[List.set_cons_zero,ks];exact pf.2 ⟨qp,q5⟩,λk hk=>by
       simp only[List.set_cons_zero,ks,dW]at hk;rcases hk with rfl|hk
       ·exact .inl I
       exact .inr (by simpa[ks,an]using hk)⟩
      | succ i=>
        obtain⟨h1,ae⟩:=b6 i q qp q5
        exact⟨by simpa[ks,an]using h1,λk hk=>by have:=ae k (by simpa[ks,an]using hk);simpa[ks,an]using this⟩
    | some p=>
      simp only[ks,an,dW,xG]at hq
      simp only[ks,an]at aM
      obtain⟨hp,q5⟩:=pf.1 aM
      cases i with
      |zero=>exact⟨by simp only[List.set_cons_zero,ks];exact pf.2 ⟨hq.2,q5⟩,λk hk=>by
       simp only[List.set_cons_zero,ks,dW]at hk;rcases hk with rfl|hk
       ·exact .inl I
       exact .inr (by simp[ks,an,hk])⟩
      | succ i=>
        obtain⟨h1,ae⟩:=b6 i q hq.2 q5
        refine⟨?_,λk hk=>?_⟩
        ·simp only[List.set_cons_succ,ks,an]
         refine pf.2 ⟨λhm=>?_,h1⟩
         rcases ae p hm with e|ES
         ·exact hq.1 e.symm
         exact hp ES
        simp only[List.set_cons_succ,ks,an,dW]at hk
        rcases hk with rfl|hk
        ·exact .inr (by simp[ks,an])
        rcases ae k hk with e|ES
        ·exact .inl e
        exact .inr (by simp[ks,an,ES])
 exact(key L i _ rN h.nodup).1
def Q8{α:Type}[aj α]{A W}{cs ds:aa bt}{xs:aa α}{T cap:Nat}(h:hx A W cs xs)(b2:ds.length=(cap-xs.length)*aj.size α)(aM:xs.length<=cap)(hm:cap<=maxLen){arr:Array bt}(aY:arr.toList=cs++ds):
 (eL.row T xs cap).holds A W (.cells arr T (0,0)):=by
 refine⟨arr,rfl,?_,aM,hm,?_⟩
 ·have:arr.size=(cs++ds).length:=by rw[<-aY];simp
  rw[this,gj,h.1,b2,<-nu];congr 1;omega
 rw[aY,<-h.1,Lh];exact h
def ad.app{α:Type}[aj α]{rest:aa Oper}{bc i e bytes cap:Nat}{key:aA Nat}{xs ys r:aa α}{z:α}(hu:c.P.underlying t=some (.slice e))(eM:bS c.P e α)(gT:dx c.P e z)
 (Cb:(c.P.info? e).map (·.bytes)=some bytes) (hs:aU c E L x (.eq (aH key xs.length cap))) (ax:L[i]? =some ⟨key,.row e xs cap⟩) (hy:aU c E L y (.of ys)) (h:e8 bytes xs ys=some r) (aM:Nat.blt bc c.n=true)
 (k:∀tu cap',ad c ops Q rest ((bc,.eq (aH tu r.length cap'))::E) (L.set i ⟨tu,.row e r cap'⟩)):
 ad c ops Q (⟨some bc,.call ⟨.builtin .append,#[x,y],#[t,t]⟩,ty,pos,af,none⟩::rest) E L:=λa W s=>by
 obtain⟨oW,rU,rfl⟩:=Xf h
 obtain⟨gH,ed,eo,b2,vq⟩:=gT.zero
 have qj:gH.size=aj.size α:=by
  obtain⟨i2,h1,ae⟩:=eM.info;rw[eo]at h1;cases h1;exact ae
 have RL:gH.bytes=bytes:=by simpa[eo]using Cb
 have Cc:ed.cells.size=aj.size α:=by have:=aj.len (vq [] W).2;simpa using this
 subst RL
 have h1:a.eval x=_:=hs a W s
 have a8:=s.own _ (e6 ax)
 have kc:bc<c.n:=by simpa using aM
 have mi:=(p3.1 (hy a W s)).cells
 have pI:maxLen=9223372036854775807:=rfl
 have main:∃tu cap' W',(Builtin.append_ #[t,t] ty #[a.eval x,a.eval y]).run c.P W=.ok (aH tu (xs++ys).length cap') W'∧bP c E (L.set i ⟨tu,.row e (xs++ys) cap'⟩) a W':=by
  cases key with
  | none=>
    obtain⟨N9,q6⟩:xs=[]∧cap=0:=a8
    subst N9
    subst q6
    have aaG:L.set i ⟨none,.row e ([]:aa α) 0⟩=L:=by
     obtain⟨ch,he⟩:=hh.1 ax;rw[<-he];exact Vc ch
    rcases mi with⟨ba,rfl⟩|⟨b,off,cp,news,ba,vr,No,ET,fV⟩
    ·refine⟨none,0,W,?_,by simpa[aaG]using s⟩
     simp[h1,ba,aH,Builtin.append_,ee hu,Go.sizeOf,typeInfo,eo,Builtin.lenOf,Builtin.firstCells]
    by_cases hm:ys.length=0
    ·have:ys=[]:=OP hm
     subst this
     refine⟨none,0,W,?_,by simpa[aaG]using s⟩
     simp[h1,ba,aH,Builtin.append_,ee hu,Go.sizeOf,typeInfo,eo,Builtin.lenOf,Builtin.firstCells,loadCells,loadCellsFrom]
    simp only[List.length_nil,jQ]at oW rU
    have aE:=run_append_nil (P:=c.P) W t ty e gH ed hu eo b2 ⟨b,off,none⟩ ys.length cp news (by rw[qj];exact vr) No (by omega) (by omega) (by omega)
    refine⟨some W.heap.size,grownCap W ys.length 0 e,_,by rw[h1,ba];simpa[aH]using aE,?_⟩
    have wZ:=grownCap_ge W ys.length 0 e
    have hle:=grownCap_le_maxLen W ys.length 0 e rU
    have:=(s.world (Fr.drew W)).grow ax (o:=.cells (news.toArray++Builtin.zeroCells ed.cells (grownCap W ys.length 0 e-ys.length)) e) (cp:=.row e ([]++ys) (grownCap W ys.length 0 e))
     (Q8 (T:=e) (fV.mono (Ext.dI (Fr.drew W))) (ds:=(Builtin.zeroCells ed.cells (grownCap W ys.length 0 e-ys.length)).toList) (by rw[Array.length_toList,size_zeroCells,Cc]) wZ hle (by simp))
    simpa using this
  | some p=>
    obtain⟨pO,e3,cs,rfl,dR,asg,B3,Oa⟩:=a8
    have gR:a.eval x=.slice (some ⟨p,0,none⟩) xs.length cap:=h1
    rcases mi with⟨ba,rfl⟩|⟨b,off,cp,news,ba,vr,No,ET,fV⟩
    ·refine⟨some p,cap,W,?_,?_⟩
     ·simp[gR,ba,aH,Builtin.append_,ee hu,Go.sizeOf,typeInfo,eo,Builtin.lenOf,Builtin.firstCells,storeCells,asg]
     have:L.set i ⟨some p,.row e (xs++[]) cap⟩=L:=by
      obtain⟨ch,he⟩:=hh.1 ax;rw[mM,<-he];exact Vc ch
     rw[this];exact s
    by_cases Em:xs.length+ys.length<=cap
    ·have NM:xs.length*gH.size+news.length<=cs.size:=by rw[qj,vr,dR,<-nu];exact hC _ Em
     have aE:=run_append_room (P:=c.P) W t ty e gH hu eo p xs.length cap cs e3 ⟨b,off,none⟩ ys.length cp news (by rw[qj];exact vr) No ET Em NM
     refine⟨some p,cap,_,by rw[gR,ba];simpa[aH]using aE,?_⟩
     refine s.store ax e3 ⟨_,rfl,?_,by simpa using Em,B3,?_⟩
     ·simp only[F5,gj,fT,ku,Array.length_toList];omega
     have ao:(cs.toList.take (xs.length*gH.size)).length=xs.length*aj.size α:=by rw[qj];exact Oa.1
     have Ev:=xH Oa fV
     rw[qj]
     have hlen:(xs++ys).length*aj.size α=(cs.toList.take (xs.length*aj.size α)++news).length:=by rw[Ev.1]
     have adr:((cs.toList.take (xs.length*aj.size α)++news++cs.toList.drop (xs.length*aj.size α+news.length)).toArray).toList.take ((xs++ys).length*aj.size α)=cs.toList.take (xs.length*aj.size α)++news:=by
      rw[hlen];exact Lh
     rw[jE]at adr
     rw[adr]
     exact Ev
    have holds:∀(j:Nat) u,(cs.toList.take (xs.length*aj.size α))[j]? =some u->W.cell? ((⟨p,0,none⟩:Addr).add j)=some u:=by
     intro j u o1;rw[k3]at o1;split at o1
     ·rw[kg,jQ,zI W p j cs e (0,0) e3];simpa using o1
     cases o1
    have aE:=run_append_grow (P:=c.P) W t ty e gH ed hu eo b2 ⟨p,0,none⟩ xs.length cap _ (by rw[qj];exact Oa.1) holds ⟨b,off,none⟩ ys.length cp news (by rw[qj];exact vr) No (by omega) (by omega) (growslice_fits (by omega) oW)
    have wZ:=grownCap_ge W (xs.length+ys.length) cap e
    have hle:=grownCap_le_maxLen W (xs.length+ys.length) cap e rU
    refine⟨some W.heap.size,grownCap W (xs.length+ys.length) cap e,_,by rw[gR,ba];simpa[aH]using aE,?_⟩
    have Ev:=(xH Oa fV).mono (Ext.dI (Fr.drew W))
    have:=(s.world (Fr.drew W)).grow ax (o:=.cells ((cs.toList.take (xs.length*aj.size α)).toArray++news.toArray++Builtin.zeroCells ed.cells (grownCap W (xs.length+ys.length) cap e-(xs.length+ys.length))) e)
     (cp:=.row e (xs++ys) (grownCap W (xs.length+ys.length) cap e))
     (Q8 (T:=e) Ev (ds:=(Builtin.zeroCells ed.cells (grownCap W (xs.length+ys.length) cap e-(xs.length+ys.length))).toList) (by rw[Array.length_toList,size_zeroCells,Cc,gj]) (by rw[gj];exact wZ) hle (by simp))
    simpa using this
 obtain⟨tu,cap',W',j7,cv⟩:=main
 refine iO I (R:=λv ix=>v=aH tu (xs++ys).length cap'∧ix=W') (.mV ?_ ⟨rfl,rfl⟩) λv ix ⟨ba,hw⟩=>?_
 ·simp only[execOp,resolve,invoke,builtin,dU,Sem.run_pure,Result.andThen_ok]
  have ar:(#[x,y]:Array ca).map a.eval= #[a.eval x,a.eval y]:=by simp
  rw[ar,j7]
  rfl
 subst ba
 subst hw
 exact k tu cap' _ _ (cv.put kc I)
inductive pv(c:cC)(E:List (Nat×J))(L:List aI){α:Type}[aj α]:List α->List (Nat×Operand)->List α->Prop
 |nil {b}:pv c E L b [] b
 |cons {b b':List α} {v:α} {i:Nat} {x:Operand} {r:List (Nat×Operand)}:i<b.length->aU c E L x (.of v)->pv c E L (b.set i v) r b'->pv c E L b ((i,x)::r) b'
def pv.run{α:Type}[aj α]{b b':aa α}{ec:aa (Nat×ca)}(h:pv c E L b ec b'):∀a W,bP c E L a W->∀cs:Array bt,hx (ks L++c.b3) W cs.toList b->
 ∃eW,Instr.fill (λi=>some (i*aj.size α,aj.size α)) cs (ec.map λ(i,x)=>(i,a.eval x))=some eW∧hx (ks L++c.b3) W eW.toList b'∧b'.length=b.length:=by
 induction h with
 |nil=>intro a W s cs aE;exact⟨cs,rfl,aE,rfl⟩
 | @cons b b' v i x r au ae _ b6=>
   intro a W s cs aE
   have ba:=ae a W s
   have dR:(a.eval x).cells.size=aj.size α:=by have:=aj.len ba.2;simpa using this
   have ao:=aE.1
   have hle:(i+1)*aj.size α<=b.length*aj.size α:=hC _ au
   rw[sf]at hle
   rw[oH,Mc I dR (by simp at ao;omega)]
   obtain⟨eW,az,aQ,a7⟩:=b6 a W s (gV cs.toList (i*aj.size α) (a.eval x).cells.toList).toArray (by
    have:=QK aE au ba.2;simpa[gV,aj.len ba.2]using this)
   exact⟨eW,az,aQ,by rw[a7,pe]⟩
def HE{α:Type}[aj α]{A W}{z:α}{ed:bt}(h:(J.of z).holds A W ed)(n:Nat)(hs:aj.size α≠0):hx A W ((Array.range (n*aj.size α)).map (ed.cells[· % ed.cells.size]!)).toList (List.replicate n z):=by
 have ao:ed.cells.size=aj.size α:=by have:=aj.len h.2;simpa using this
 have hp:0<aj.size α:=F0 hs;refine⟨by simp,λi au=>?_⟩;have hP:i<n:=by simpa using au
 have hle:(i+1)*aj.size α<=n*aj.size α:=hC _ hP;rw[sf]at hle;have:((((Array.range (n*aj.size α)).map (ed.cells[· % ed.cells.size]!)).toList.drop (i*aj.size α)).take (aj.size α))=ed.cells.toList:=by
  apply mL;intro j;rw[k3];split
  ·rename_i aC;rw[mo];have ch:i*aj.size α+j<n*aj.size α:=by omega
   have BR:(i*aj.size α+j) % aj.size α=j:=by rw[se,Nat.mul_add_mod];exact Gd aC
   simp only[zg,Array.getElem?_map,Array.getElem?_range,ch,lY,Option.map_some,ao,BR];rw[getElem!_pos ed.cells j (by omega)];simp[ao,aC]
  rename_i aC;symm;simp only[zg];exact U3 (by omega)
 rw[this];simpa using h.2
def Bc{α:Type}[aj α]{e n:Nat}{z:α}{r:aa α}{ec:aa (Nat×ca)}(hu:c.P.underlying t=some (.slice e))(eM:bS c.P e α)(gT:dx c.P e z)(hs:Nat.beq (aj.size α) 0=false)(aM:Nat.ble (n*aj.size α) 16777216=true)
 (aW:pv c E L (List.replicate n z) ec r):bj c E L ⟨d,.buildSlice t n ec.toArray,ty,pos,af,g⟩ (.of r):=λa W s=>by
 obtain⟨gH,ed,eo,b2,vq⟩:=gT.zero
 have qj:gH.size=aj.size α:=by
  obtain⟨i2,h1,ae⟩:=eM.info;rw[eo]at h1;cases h1;exact ae
 have jX:aj.size α≠0:=λh=>by rw[h]at hs;cases hs
 have tJ:=HE (vq (ks L++c.b3) W) n jX
 obtain⟨eW,az,aQ,a7⟩:=aW.run a W s _ tJ
 have hlen:r.length=n:=by rw[a7];simp
 have hm:(ec.toArray.map λ(x:Nat×ca)=>(x.1,a.eval x.2)).toList=ec.map λ(i,x)=>(i,a.eval x):=by simp
 have aqw:=pb aM
 refine .mV (v:=.slice (some ⟨W.heap.size,0,none⟩) n n) (W':=W.alloc (.cells eW e)) ?_ ⟨Fr.alloc W _,p3.2 ?_⟩
 ·simp only[execOp,Instr.buildSlice,dU,ee hu,Result.andThen_ok,Go.sizeOf,typeInfo,run_program,eo,Sem.run_pure,qj]
  rw[bf (by omega)]
  try simp only[Sem.run_pure,Result.andThen_ok,dU]
  by_cases bJ:n*aj.size α=0
  ·have vp:n=0:=by
    rcases Nat.mul_eq_zero.1 bJ with h|h
    ·exact h
    exact absurd h jX
   subst vp
   simp only[zG,lY,Sem.run_pure,Result.andThen_ok]
   try simp only[zG]at az
   have fo:((Array.range 0).map (λx=>(#[]:Array bt)[x % (#[]:Array bt).size]!))=((Array.range 0).map (ed.cells[· % ed.cells.size]!)):=by simp
   simp only[pure_bind]
   rw[fo,hm,az]
   simp[newRow]
  simp only[bJ,n0,dU,zeroValue,typeInfo,run_program,Result.andThen_ok,eo,b2,Sem.run_pure]
  rw[hm,az]
  simp[newRow]
 have iG:Ext (ks L++c.b3) W (ks L++c.b3) (W.alloc (.cells eW e)):=Ext.dI (Fr.alloc W _)
 refine .inr ⟨W.heap.size,0,n,eW,e,(0,0),by rw[hlen],λEw=>Lt _ (s.HY _ Ew),Zh W _,by omega,?_,?_,?_⟩
 ·have:r.length*1<=n*aj.size α:=by rw[hlen];exact KR _ (by omega)
  have:maxLen=9223372036854775807:=rfl
  omega
 ·have:=aQ.1;simp at this;omega
 have bp:=aQ.1
 rw[vM,<-bp,k4]
 exact aQ.mono iG
end
def Aj{cs:aa bt}{o s:Nat}{u:bt}(h:u∈cs.drop o):u∈(cs.drop o).take s∨u∈cs.drop (o+s):=by
 rw[<-gp s (cs.drop o)]at h;rcases cz.1 h with h|h
 ·exact .inl h
 rw[GA]at h;exact .inr h
def Q9{cs:aa bt}{n o:Nat}{u:bt}{p:Prop}(ao:cs.length=n)(a8:o=n)(h:u∈cs.drop o):p:=by
 rw[FK (by omega)]at h;cases h
def alr{cs ds:aa bt}{o s n:Nat}(ao:cs.length=n)(hd:ds.length=s)(h:o+s<=n):(cs.take o++ds++cs.drop (o+s)).length=n:=by
 simp only[gj,fT,ku];omega
def YB{cs ds:aa bt}{o s n:Nat}(ao:cs.length=n)(hd:ds.length=s)(h:o+s<=n):((cs.take o++ds++cs.drop (o+s)).drop o).take s=ds:=by
 have h1:(cs.take o).length=o:=by simp;omega
 rw[jE,Pq,h1,FK (by omega),List.nil_append,Nat.sub_self,vM,CI (by omega),s6 (by omega)]
def QL{cs ds:aa bt}{o s n cL s2:Nat}(ao:cs.length=n)(hd:ds.length=s)(h:o+s<=n)(dm:cL+s2<=o∨o+s<=cL):((cs.take o++ds++cs.drop (o+s)).drop cL).take s2=(cs.drop cL).take s2:=by
 apply mL;intro i;simp only[k3,mo];split
 ·rename_i au;simp only[O8,gj,fT,k3,mo];have h1:min o cs.length=o:=by omega
  rw[h1,hd];rcases dm with ae|ae
  ·rw[bk (by omega),bk (by omega),bk (by omega)]
  rw[bf (by omega)];congr 1;omega
 rfl
structure yM(P:Type)where
 size:Nat
 rep:List Nat->World->List Value->Nat->P->Prop
 one:∀{A W cs o x n},rep A W cs o x->cs.length=n->o+size=n->∀u∈cs.drop o,u.oneCell'=true
 mono:∀{A W cR W' cs o x},Ext A W cR W'->rep A W cs o x->rep cR W' cs o x
 qT:∀{A W cs o x n ds p s},rep A W cs o x->cs.length=n->ds.length=s->p+s<=n->p+s<=o->rep A W (cs.take p++ds++cs.drop (p+s)) o x
@[reducible] def gE (B:Type) [aj B]:yM B where
  size:=aj.size B
  rep A W cs o x:=aj.rep A W ((cs.drop o).take (aj.size B)) x
  one h ao a8 u hu:=by
   rcases Aj (s:=aj.size B) hu with h1|bJ
   ·exact aj.one h u h1
   exact Q9 ao a8 bJ
  mono e h:=aj.mono e h
  qT h ao hd aM hp:=by rw[QL ao hd aM (.inr hp)];exact h
@[reducible] def db (B:Type) [aj B] {P:Type} (S:yM P):yM (B×P)where
  size:=aj.size B+S.size
  rep A W cs o x:=aj.rep A W ((cs.drop o).take (aj.size B)) x.1∧S.rep A W cs (o+aj.size B) x.2
  one h ao a8 u hu:=by
   rcases Aj (s:=aj.size B) hu with h1|bJ
   ·exact aj.one h.1 u h1
   exact S.one h.2 ao (by omega) u bJ
  mono e h:=⟨aj.mono e h.1,S.mono e h.2⟩
  qT h ao hd aM hp:=⟨by rw[QL ao hd aM (.inr hp)];exact h.1,S.qT h.2 ao hd aM (by omega)⟩
@[reducible] def aj.str {T P:Type} (S:yM P) (to:T->P) (N:Nat) (kc:S.size=N:=by rfl):aj T where
  size:=N
  agg:=true
  rep A W cs x:=cs.length=N∧S.rep A W cs 0 (to x)
  len h:=h.1
  one h:=λu hu=>S.one h.2 h.1 (by omega) u (by simpa using hu)
  flat h:=by cases h
  mono e h:=⟨h.1,S.mono e h.2⟩
structure Ju{P:Type}(S:yM P)(G:Type)[aj G]where
 off:Nat
 get:P->G
 set:P->G->P
 ha:off+aj.size G<=S.size
 jT:∀{A W cs o b},S.rep A W cs o b->aj.rep A W ((cs.drop (o+off)).take (aj.size G)) (get b)
 n1:∀{A W cs n o b ds g},cs.length=n->o+S.size<=n->S.rep A W cs o b->aj.rep A W ds g->S.rep A W (cs.take (o+off)++ds++cs.drop (o+off+aj.size G)) o (set b g)
def gS{B:Type}[aj B]:Ju (gE B) B where
 off:=0
 get b:=b
 set _ g:=g
 ha:=by show 0+aj.size B<=aj.size B;omega
 jT h:=h
 n1 ao a8 _ bH:=by
  have h:=YB ao (aj.len bH) a8;show aj.rep _ _ ((List.drop _ _).take _) _;rw[Nat.add_zero,h];exact bH
def du{B:Type}[aj B]{P:Type}{S:yM P}:Ju (db B S) B where
 off:=0
 get b:=b.1
 set b g:=(g,b.2)
 ha:=by show 0+aj.size B<=aj.size B+S.size;omega
 jT h:=h.1
 n1 {A W cs n o b ds g} ao a8 h bH:=by
  have a8:o+(aj.size B+S.size)<=n:=a8;refine⟨?_,S.qT h.2 ao (aj.len bH) (by omega) (by omega)⟩;rw[Nat.add_zero,YB ao (aj.len bH) (by omega)];exact bH
def bA{B:Type}[aj B]{P:Type}{S:yM P}{G:Type}[aj G](l:Ju S G):Ju (db B S) G where
 off:=aj.size B+l.off
 get b:=l.get b.2
 set b g:=(b.1,l.set b.2 g)
 ha:=by have:=l.ha;show aj.size B+l.off+aj.size G<=aj.size B+S.size;omega
 jT h:=by rw[<-Lq];exact l.jT h.2
 n1 {A W cs n o b ds g} ao a8 h bH:=by
  have a8:o+(aj.size B+S.size)<=n:=a8;have au:=l.ha;have ae:=l.n1 ao (by omega) h.2 bH;rw[Lq o]at ae;exact⟨by rw[QL ao (aj.len bH) (by omega) (.inl (by omega))];exact h.1,ae⟩
@[reducible] def aP.str {T P G:Type} [aj G] {S:yM P} {to:T->P} {N:Nat} (l:Ju S G) (off:Nat) (get:T->G) (set:T->G->T) (kc:S.size=N:=by rfl) (a8:l.off=off:=by rfl) (h1:∀b,l.get (to b)=get b:=by intro b;rfl) (ae:∀b g,l.set (to b) g=to (set b g):=by intro b g;rfl): @aP T G (aj.str S to N kc) _:=
  @aP.mk T G (aj.str S to N kc) _ off get set (by have:=l.ha;show off+aj.size G<=N;omega)
   (λ{A W cs b} h=>by have:=l.jT h.2;rw[jQ,a8,h1]at this;exact this)
   (λ{A W cs b ds g} h bH=>by
    have az:=l.n1 h.1 (by omega) h.2 bH;rw[jQ,a8,ae]at az;have aQ:=l.ha;exact⟨alr h.1 (aj.len bH) (by omega),az⟩)
class a1 (α:Type) [aj α] [Inhabited α]where
 cells:aa bt
 ok:∀A W,aj.rep A W cells (default:α)
instance:a1 Bool:=⟨[.bool false],λ_ _=>rfl⟩
instance:a1 Int:=⟨[.int .i64 0],λ_ _=>rfl⟩
instance:a1 (BitVec 64):=⟨[.int .u64 0],λ_ _=>rfl⟩
instance:a1 (BitVec 32):=⟨[.int .u32 0],λ_ _=>rfl⟩
instance:a1 (BitVec 16):=⟨[.int .u16 0],λ_ _=>rfl⟩
instance:a1 (BitVec 8):=⟨[.int .u8 0],λ_ _=>rfl⟩
instance:a1 ByteArray:=⟨[.string ByteArray.empty],λ_ _=>rfl⟩
instance{α:Type}[aj α]:a1 (aa α):=⟨[.slice none 0 0],λ_ _=>⟨_,rfl,.inl ⟨rfl,rfl⟩⟩⟩
def XP{α:Type}[aj α]{A W}{nR:aa bt}{z:α}(h:aj.rep A W nR z):∀n,hx A W (List.replicate n nR).flatten (List.replicate n z)
 |0=>⟨by simp,λi au=>by simp at au⟩
 | n+1=>by
   have h1:=XP h n;have ae:hx A W nR [z]:=⟨by simp[aj.len h],λi au=>by
    have:i=0:=by simpa using au
    subst this;rw[zG,vM,<-aj.len h,k4];exact h⟩
   have:=xH ae h1;simpa[List.replicate_succ]using this
instance{α:Type}[aj α][Inhabited α][a1 α]{n:Nat}:a1 (Vector α n):=⟨(List.replicate n (a1.cells α)).flatten,λA W=>by
 have:=XP (a1.ok (α:=α) A W) n;show hx A W _ (Vector.replicate n default).toList;simpa using this⟩
def NN(α:Type)[aj α][Inhabited α][a1 α]:bt:=if aj.agg α=true then .agg (a1.cells α).toArray else(a1.cells α).headD undef
theorem dx.of{P:Program}{t:bF}{α:Type}[aj α][Inhabited α][a1 α](h:(P.info? t).bind (·.zero)=some (NN α)):dx P t (default:α)where
 zero:=by
  cases au:P.info? t with
  |none=>simp[au]at h
  | some i=>
    refine⟨i,NN α,rfl,by simpa[au]using h,λA W=>?_⟩
    have ok:=a1.ok (α:=α) A W
    unfold NN
    cases aY:aj.agg α with
    |true=>simp only[lY];exact⟨by simp[shaped,aY],by simpa[Value.cells]using ok⟩
    | false=>
      have h1:=aj.len ok
      rw[aj.flat aY]at h1
      obtain⟨v,ba⟩:=U7.1 h1
      have az:v.oneCell'=true:=aj.one ok v (by rw[ba];simp)
      simp only[sb,n0,ba,List.headD_cons]
      exact⟨by simp[shaped,aY,az],by rw[cells_one az];rw[ba]at ok;exact ok⟩
theorem bS.of{P:Program}{t:bF}{α:Type}[aj α]{d:TypeDesc}(aY:(match d with | .struct _| .array _ _=>true|_=>false)=aj.agg α)(hu:P.underlying t=some d)(hs:(P.info? t).map (·.size)=some (aj.size α)):bS P t α:=⟨hs,d,hu,aY⟩
def yK.of{P:Program}{s f o:Nat}{fs:Array Field}{fd:Field}{γ:Type}[aj γ](hu:P.underlying s=some (.struct fs))(aW:fs[f]? =some fd)(a8:fd.offset=o)(dP:bS P fd.type γ)(hs:Nat.beq (aj.size γ) 0=false):yK P s f o:=by
 obtain⟨i,h1,ae⟩:=dP.info;exact⟨fs,fd,i,hu,aW,a8,h1,λh=>by rw[<-ae,h]at hs;cases hs⟩
theorem pP.of{P:Program}{t n e s:Nat}{γ:Type}[aj γ](hu:P.underlying t=some (.array n e))(dP:bS P e γ)(hs:aj.size γ=s):pP P t n s:=by
 obtain⟨i,h1,ae⟩:=dP.info;exact⟨e,i,hu,h1,by rw[ae,hs]⟩
def bind_some{α β:Type}{m:aA α}{f:α->aA β}{r:β}(h:m.bind f=some r):∃y,m=some y∧f y=some r:=U2.1 h
def fY{α:Type}{b:Bool}{p q:aA α}{r:α}(hb:b=true)(h:cond b p q=some r):p=some r:=by rw[hb]at h;exact h
def fZ{α:Type}{b:Bool}{p q:aA α}{r:α}(hb:b=false)(h:cond b p q=some r):q=some r:=by rw[hb]at h;exact h
def di{α:Type}{a b:α}(h:some a=some b):a=b:=xr h
def b4{α:Type}[Inhabited α](b want:Bool)(m:aA α):aA α:=if b=want then m else some default
def hl{α:Type}[Inhabited α]{b want:Bool}{m:aA α}{y:α}(h:b4 b want m=some y)(hb:b=want):m=some y:=by unfold b4 at h;rw[bk hb]at h;exact h
def dt:Nat:=2^80
def bP.sw{c E L a W}(h:bP c E L a W)(n:Nat):bP c E (L.drop n) a W:=
 h.sub (fun e he=>CQ he) (by
   have:(ks (L.drop n)).Sublist (ks L):=by
    induction L generalizing n with
    |nil=>simp
    | cons x r b6=>
      cases n with
      |zero=>simp
      | succ n=>
        have aE:∀n,(ks (r.drop n)).Sublist (ks r):=by
         intro n;have key:∀(r:aa aI) n,(ks (r.drop n)).Sublist (ks r):=by
          intro r;induction r with
          |nil=>intro n;simp
          | cons y r acG=>
            intro n
            cases n with
            |zero=>simp
            | succ n=>
              simp only[Vn]
              cases hk:y.key with
              |none=>simpa[ks,hk]using acG n
              |some p=>simp only[ks,hk];exact(acG n).cons _
         exact key r n
        simp only[Vn]
        cases hk:x.key with
        |none=>simpa[ks,hk]using aE n
        |some p=>simp only[ks,hk];exact(aE n).cons _
   exact h.nodup.sublist this)
section
variable{c:cC}{E:aa (Nat×J)}{L:aa aI}{ops:Array Oper}{Q:Exit->Act->bq->Prop}
def ei(Q:Exit->Act->bq->Prop):Exit->Act->bq->Prop:=Q
def ay.b4{γ:Type}{x:ca}{b:Bool}{y z:Code}(E':γ->aa (Nat×J))(L':γ->aa aI)(ao:aU c E L x (.of b))(ow:∀g,aq c Q .normal (E' g) (L' g))
 (bE:(∀g,aq c (ei Q) .normal (E' g) (L' g))->b=true->ay c (ei Q) y E L) (aW:(∀g,aq c (ei Q) .normal (E' g) (L' g))->b=false->ay c (ei Q) z E L):ay c Q (.cond x y z) E L:=
 ay.cond ao (bE ow) (aW ow)
def aq.meet{x:Exit}{E':aa (Nat×J)}{L':aa aI}(n:Nat)(ax:L.drop n=L')(h:eZ E E')(k:aq c Q x E' L'):aq c Q x E L:=λa W s=>k a W (by rw[<-ax];exact(s.sw n).less h.look)
def e9{σ ε γ δ:Type}(c:cC)(E:σ->γ->aa (Nat×J))(L:σ->γ->aa aI)(xs:ε->Exit)(eJ:ε->δ->aa (Nat×J))(Lx:ε->δ->aa aI):σ⊕ε->Exit->Act->bq->Prop
 | .inl s,x,a,W=>x=.normal∧∃g,bP c (E s g) (L s g) a W
 | .inr e,x,a,W=>x≠ .normal∧x=xs e∧∃g,bP c (eJ e g) (Lx e g) a W
def aq.Zc{σ ε γ δ:Type}{E':σ->γ->aa (Nat×J)}{L':σ->γ->aa aI}{xs:ε->Exit}{eJ:ε->δ->aa (Nat×J)}{Lx:ε->δ->aa aI}{s:σ}(g:γ)(n:Nat)
 (ax:L.drop n=L' s g) (h:eZ E (E' s g)):aq c (e9 c E' L' xs eJ Lx (.inl s)) .normal E L:=λa W st=>⟨rfl,g,by rw[<-ax];exact(st.sw n).less h.look⟩
def aq.Zd{σ ε γ δ:Type}{E':σ->γ->aa (Nat×J)}{L':σ->γ->aa aI}{xs:ε->Exit}{eJ:ε->δ->aa (Nat×J)}{Lx:ε->δ->aa aI}{e:ε}{x:Exit}(g:δ)(n:Nat)
 (an:x=xs e) (aM:x≠ .normal) (ax:L.drop n=Lx e g) (h:eZ E (eJ e g)):aq c (e9 c E' L' xs eJ Lx (.inr e)) x E L:=λa W st=>⟨aM,an,g,by rw[<-ax];exact(st.sw n).less h.look⟩
def ay.Ng{σ ε γ δ:Type}{body:Code}{N:Nat}{b:σ->aA (σ⊕ε)}{s0:σ}{e:ε}(ao:dy N b s0=some e)
 (E':σ->γ->aa (Nat×J)) (L':σ->γ->aa aI) (xs:ε->Exit) (eJ:ε->δ->aa (Nat×J)) (Lx:ε->δ->aa aI) (g0:γ) (ax:L=L' s0 g0) (aJ:eZ E (E' s0 g0))
 (tm:∀s r,b s=some r->∀g,ay c (e9 c E' L' xs eJ Lx r) body (E' s g) (L' s g))
 (p8:∀g,aq c Q (xs e) (eJ e g) (Lx e g)):ay c Q (.loop body) E L:=λa W st=>by
 subst ax
 exact ah3 b (λs a W=> ∃g,bP c (E' s g) (L' s g) a W) (λe x a W=>x=xs e∧∃g,bP c (eJ e g) (Lx e g) a W)
  (λs r hs a W ⟨g,pN⟩=>wpIn_mono (tm s r hs g a W pN) (λx a W h=>by
   cases r with
   |inl cH=>exact h
   |inr e'=>exact⟨h.1,h.2⟩)) Q e (λx a W ⟨an,g,hs⟩=>by subst an;exact p8 g a W hs) ao ⟨g0,st.less aJ.look⟩
end
def bj.ra{c E L o}{α:Type}[aj α]{a b:α}(h:bj c E L o (.of a))(e:a=b):bj c E L o (.of b):=by subst e;exact h
def J.tB{α β:Type}[aj α][aj β](P:Program)(F:α->aA β):J where
 holds A W v:=∃f fst cap,v=.func (.func f) fst cap∧bL P f∧∀cR W',Ext A W cR W'->(∀k∈cR,k<W'.heap.size)->∀x r ox,F x=some r->(J.of x).holds cR W' ox->
  Calls P f (fst++ #[ox]++cap) W' λe tK=> ∃v,e=.returned v∧Fr [] W' tK∧(J.of r).holds cR tK v
 mono e h:=let⟨f,fst,cap,h1,ae,az⟩:=h; ⟨f,fst,cap,h1,ae,λcR W' e'=>az cR W' (e.trans e')⟩
def J.tE{α β γ:Type}[aj α][aj β][aj γ](P:Program)(F:α->β->aA γ):J where
 holds A W v:=∃f fst cap,v=.func (.func f) fst cap∧bL P f∧∀cR W',Ext A W cR W'->(∀k∈cR,k<W'.heap.size)->∀x y r ox uc,F x y=some r->(J.of x).holds cR W' ox->(J.of y).holds cR W' uc->
  Calls P f (fst++ #[ox,uc]++cap) W' λe tK=> ∃v,e=.returned v∧Fr [] W' tK∧(J.of r).holds cR tK v
 mono e h:=let⟨f,fst,cap,h1,ae,az⟩:=h; ⟨f,fst,cap,h1,ae,λcR W' e'=>az cR W' (e.trans e')⟩
section
variable{c:cC}{E:aa (Nat×J)}{L:aa aI}{d:aA Tmp}{ty:bF}{pos:String}{af:Array Edge}{g:aA (Nat×Bool)}
def XI{α β:Type}[aj α][aj β]{F:α->aA β}{f:FuncId}(cj:bL c.P f)(h:∀x r,F x=some r->cE c.P f [.of x] (.of r)):aU c E L (.func f) (.tB c.P F):=λa W s=>
 ⟨f,#[],#[],rfl,cj,λcR W' _ eB x r ox lP an=>by simpa using h x r lP cR W' [ox] eB (.cons an .nil)⟩
def QI{α β γ:Type}[aj α][aj β][aj γ]{F:α->β->aA γ}{f:FuncId}(cj:bL c.P f)(h:∀x y r,F x y=some r->cE c.P f [.of x,.of y] (.of r)):aU c E L (.func f) (.tE c.P F):=λa W s=>
 ⟨f,#[],#[],rfl,cj,λcR W' _ eB x y r ox uc lP an hy=>by simpa using h x y r lP cR W' [ox,uc] eB (.cons an (.cons hy .nil))⟩
def Aa{α β:Type}[aj α][aj β]{F:α->aA β}{lr x:ca}{ats:Array bF}{Kh:α}{r:β}(aW:aU c E L lr (.tB c.P F))(an:aU c E L x (.of Kh))(h:F Kh=some r):
 bj c E L ⟨d,.call ⟨.value lr,#[x],ats⟩,ty,pos,af,g⟩ (.of r):=λa W s=>by
 obtain⟨f,fst,cap,h1,cj,ae⟩:=aW a W s
 refine .wa (f:=f) (args:=fst++ #[a.eval x]++cap) (W':=W) ?_ (ae _ W (Ext.refl _ _) s.HY _ _ _ h (an a W s))
 simp[execOp,resolve,Deferred.ofValue,h1,invoke,cj.run]
def HH{α β γ:Type}[aj α][aj β][aj γ]{F:α->β->aA γ}{lr x y:ca}{ats:Array bF}{Kh:α}{ads:β}{r:γ}(aW:aU c E L lr (.tE c.P F))(an:aU c E L x (.of Kh))(hy:aU c E L y (.of ads))(h:F Kh ads=some r):
 bj c E L ⟨d,.call ⟨.value lr,#[x,y],ats⟩,ty,pos,af,g⟩ (.of r):=λa W s=>by
 obtain⟨f,fst,cap,h1,cj,ae⟩:=aW a W s
 refine .wa (f:=f) (args:=fst++ #[a.eval x,a.eval y]++cap) (W':=W) ?_ (ae _ W (Ext.refl _ _) s.HY _ _ _ _ _ h (an a W s) (hy a W s))
 simp[execOp,resolve,Deferred.ofValue,h1,invoke,cj.run]
end
end Gv
namespace Gv
open Go Go.ChangeShapes Go.WideShapes Go.RowKit
structure Arg(P:Program)(t:TypeId)(α:Type)[aj α]:Prop where
 cells:P.cellsOf t=aj.size α
 read:∀{H:Type} {enc:TypeId×Value->H} {W:World} {n:Nat} {cs:List Value} {x:DataW H×List MemPlace},DataW.trod enc P W 0 (λ_=>true) true n t cs=some x->∃a:α,aj.rep [] W cs a
 form:∀{W:World} {b:Nat} {v:Value},Value.okWide P W .any b t v->shaped (aj.agg α) v
variable{P:Program}{t e:bF}
def ah5(hu:P.underlying t=some .bool){H:Type}{enc:bF×bt->H}{W:bq}{n:Nat}{cs:aa bt}{x:DataW H×aa MemPlace}(h:DataW.trod enc P W 0 (λ_=>true) true n t cs=some x):
 ∃b:Bool,cs=[.bool b]:=by
 cases n with
 |zero=>simp[DataW.trod]at h
 | succ n=>
   unfold DataW.trod at h
   rw[hu]at h
   split at h <;> first|exact⟨_,rfl⟩|(simp at h)
   all_goals simp_all
def Arg.bool(hu:P.underlying t=some .bool)(ak:P.cellsOf t=1):Arg P t Bool where
 cells:=ak
 read {H enc W n cs x} h:=by
  obtain⟨b,rfl⟩:=ah5 hu h;exact⟨b,rfl⟩
 form {W b v} h:=by
  unfold Value.okWide Cell.okWide at h;simp only[hu]at h;unfold Cell.ok at h;rw[hu]at h;cases v <;> first|rfl|simp at h
def HM{k:IntKind}(hu:P.underlying t=some (.int k)){H:Type}{enc:bF×bt->H}{W:bq}{n:Nat}{cs:aa bt}{x:DataW H×aa MemPlace}(h:DataW.trod enc P W 0 (λ_=>true) true n t cs=some x):
 ∃z:Int,cs=[.int k z]∧k.min<=z∧z<=k.max:=by
 cases n with
 |zero=>simp[DataW.trod]at h
 | succ n=>
   unfold DataW.trod at h
   rw[hu]at h
   split at h <;> simp_all [Lit.wf]
def HN{k:IntKind}(hu:P.underlying t=some (.int k)){W:bq}{b:Nat}{v:bt}(h:Value.okWide P W .any b t v):v.oneCell'=true:=by
 unfold Value.okWide Cell.okWide at h;simp only[hu]at h;unfold Cell.ok at h;rw[hu]at h;cases v <;> first|rfl|simp at h
def Arg.int(hu:P.underlying t=some (.int .i64))(ak:P.cellsOf t=1):Arg P t Int where
 cells:=ak
 read h:=by obtain⟨z,rfl,_⟩:=HM hu h;exact⟨z,rfl⟩
 form h:=HN hu h
def Arg.u64(hu:P.underlying t=some (.int .u64))(ak:P.cellsOf t=1):Arg P t (BitVec 64)where
 cells:=ak
 read h:=by
  obtain⟨z,rfl,h1,ae⟩:=HM hu h;simp[IntKind.min,IntKind.max,IntKind.signed,IntKind.bits]at h1 ae;exact⟨BitVec.ofInt 64 z,by show [_]=[_];simp;omega⟩
 form h:=HN hu h
def Arg.u32(hu:P.underlying t=some (.int .u32))(ak:P.cellsOf t=1):Arg P t (BitVec 32)where
 cells:=ak
 read h:=by
  obtain⟨z,rfl,h1,ae⟩:=HM hu h;simp[IntKind.min,IntKind.max,IntKind.signed,IntKind.bits]at h1 ae;exact⟨BitVec.ofInt 32 z,by show [_]=[_];simp;omega⟩
 form h:=HN hu h
def Arg.u16(hu:P.underlying t=some (.int .u16))(ak:P.cellsOf t=1):Arg P t (BitVec 16)where
 cells:=ak
 read h:=by
  obtain⟨z,rfl,h1,ae⟩:=HM hu h;simp[IntKind.min,IntKind.max,IntKind.signed,IntKind.bits]at h1 ae;exact⟨BitVec.ofInt 16 z,by show [_]=[_];simp;omega⟩
 form h:=HN hu h
def Arg.u8(hu:P.underlying t=some (.int .u8))(ak:P.cellsOf t=1):Arg P t (BitVec 8)where
 cells:=ak
 read h:=by
  obtain⟨z,rfl,h1,ae⟩:=HM hu h;simp[IntKind.min,IntKind.max,IntKind.signed,IntKind.bits]at h1 ae;exact⟨BitVec.ofInt 8 z,by show [_]=[_];simp;omega⟩
 form h:=HN hu h
def aiQ(hs:(∃fs,P.underlying t=some (.struct fs))∨(∃n e,P.underlying t=some (.array n e))){W:bq}{b:Nat}{v:bt}(h:Value.okWide P W .any b t v):shaped true v:=by
 unfold Value.okWide at h;rcases hs with⟨fs,hu⟩|⟨n,e,hu⟩ <;> rw[hu]at h <;> exact⟨h.choose,h.choose_spec.1⟩
def Arg.arr{α:Type}[aj α][Inhabited α]{n:Nat}(hu:P.underlying t=some (.array n e))(he:Arg P e α)(ak:P.cellsOf t=n*aj.size α):Arg P t (Vector α n)where
 cells:=ak
 read {H enc W m cs x} h:=by
  obtain⟨xs,q,_,_,ao,hlen,aW⟩:=DataW.trod_array hu h;have aE:∀i,i<n->∃a:α,aj.rep [] W ((cs.drop (i*aj.size α)).take (aj.size α)) a:=by
   intro i au;have h1:=aW i au;rw[pa (by omega)]at h1;rw[<-he.cells];exact he.read h1
  refine⟨Vector.ofFn λi=>(aE i.1 i.2).choose,by rw[ao,ak];simp,λi au=>?_⟩;have hP:i<n:=by simpa using au
  have:=(aE i hP).choose_spec;simpa using this
 form h:=aiQ (.inr ⟨_,_,hu⟩) h
def Xg{H:Type}{enc:bF×bt->H}{W W':bq}(ao:laidOutB P=true){sp:Nat->Bool}:∀{cx:aa bF} {vs:aa bt} {ds:aa (DataW H)} {ec:aa MemPlace},
 (∀t∈cx,P.readableRec t=true∧t<P.types.size)->DataW.TrodAll enc P W 0 (λ_=>true) true cx vs ds ec->(∀p∈ec,W.sameAt W' p)->(∀p∈ec,sp p.block=true)->DataW.TrodAll enc P W' 0 sp true cx vs ds ec
 | [],_,_,_,_,h,_,_=>by
   obtain⟨rfl,rfl,rfl⟩:=trodAll_nil h;exact rfl
 | _::_,_,_,_,bE,h,hs,hp=>by
   obtain⟨v,Tq,d,Tr,p,q,rfl,rfl,rfl,h1,ae⟩:=trodAll_cons h;have bJ:=bE _ (kt ..);exact⟨p,q,WideElems.Trod_stays ao bJ.1 bJ.2 h1 (λx an=>hs x (by simp[an])) (λx an=>hp x (by simp[an])),
    Xg ao (λt Ob=>bE t (fM _ Ob)) ae (λx an=>hs x (by simp[an])) (λx an=>hp x (by simp[an])),rfl⟩
def Fr.below{W W':bq}(h:Fr [] W W'):Below W.heap.size W W':=⟨h.os,h.tape,h.output,h.size,λk hk=>h.block k hk (by simp)⟩
def aiR{H:Type}{enc:bF×bt->H}{f:Func}{s:ChangeSpec}{W W':bq}{args:Array bt}{ds gs:aa (DataW H)}{before:aa MemPlace}{jC:bF}
 (ao:laidOutB P=true) (hp:∀t∈f.params.toList,P.readableRec t=true∧t<P.types.size) (aE:f.resultTypes= #[jC]) (hb:P.underlying jC=some .bool) (ba:s.vars=[])
 (hs:s.fn H ds= {results:=[.lit (.bool true)],args:=ds})
 (Fh:DataW.Whole enc P f.params.toList s.vars false W args.toList ds gs before) (lP:Fr [] W W'):
 s.post enc P f false true false false W args (.bool true) W':=by
 have ash:=Fh
 obtain⟨p,q,eB,Us,rfl,b2,aM⟩:=ash
 rw[ba]at Us
 obtain⟨rfl,rfl⟩:=trodVars_none Us
 have ch:∀x∈p,x.block<W.heap.size:=λx an=>Fh.lt x (by simpa using an)
 have sK:=lP.below
 have Su:∀x∈p,W.sameAt W' x:=λx an=>sK.same (ch x an)
 have aqx:∀(b:Nat) (sp:Nat->Bool) (hd:Bool),DataW.TrodAll enc P W' b sp hd f.resultTypes.toList ((Value.bool true).resultList f.resultTypes.size) [.lit (.bool true)] []:=by
  intro b sp hd;rw[aE];exact⟨[],[],shut_bool hb true,rfl,rfl⟩
 refine⟨ds,[],p++[],[],p,[],Fh,?_,?_,?_,World.keptBut_mono (λx an=>?_) (sK.frame λ_=>False),λh=>by cases h⟩
 ·rw[mM,hs];exact aqx _ _ _
 ·rw[mM,hs];exact Xg ao hp eB Su (λx an=>by simpa using ch x an)
 ·rw[mM,hs,ba];rfl
 exact an.elim
end Gv
namespace Gv
open Go Go.ChangeShapes Go.WideShapes Go.RowKit
def aiS{P:Program}{fits:bF->Bool}{d:Nat}{e:bF}{count off n:Nat}(h:rowAt P fits d e count off n=true):off<=count*P.cellsOf e:=by
 cases d with
 |zero=>cases h
 | succ d=>
   unfold rowAt at h
   simp only at h
   split at h
   ·cases h
   rename_i hs
   have hp:0<P.cellsOf e:=F0 hs
   have auL:=Gm off (P.cellsOf e)
   rw[nW]at h
   rcases h with h|h
   ·simp only[gq,nv,fk]at h
    have:P.cellsOf e*(off/P.cellsOf e)<=P.cellsOf e*count:=KR _ (by omega)
    rw[se count];omega
   simp only[gq,fk]at h
   have hm:=G3 off hp
   have:P.cellsOf e*(off/P.cellsOf e+1)<=P.cellsOf e*count:=KR _ (by omega)
   rw[Nat.mul_add]at this
   rw[se count];omega
def Xh{P:Program}:∀{d:Nat} {e:bF} {count off:Nat} {u:bF} {n:Nat},liesAt P d e count off u n=true->off<=count*P.cellsOf e
 |0,_,_,_,_,_,h=>by cases h
 | d+1,e,count,off,u,n,h=>by
   unfold liesAt at h;rw[nW]at h;rcases h with h|h
   ·exact aiS h
   split at h
   ·exact Xh h
   cases h
structure yp(P:Program)(t:TypeId)(α:Type)[aj α]:Prop where
 top:∀{H:Type} {enc:TypeId×Value->H} {W:World} {n b:Nat} {v:Value} {x:DataW H×List MemPlace},DataW.trod enc P W 0 (λ_=>true) true n t v.cells.toList=some x->Value.okWide P W .any b t v->∃a:α,(J.of a).holds [] W v
variable{P:Program}{t e:bF}
def yp.of{α:Type}[aj α](h:Arg P t α):yp P t α where
 top h1 ae:=let⟨a,az⟩:=h.read h1; ⟨a,h.form ae,az⟩
def aiT{α:Type}[aj α](hu:P.underlying t=some (.slice e))(he:Arg P e α)(b2:Nat.beq (aj.size α) 0=false){H:Type}{enc:bF×bt->H}{W:bq}{n b:Nat}{v:bt}{x:DataW H×aa MemPlace}
 (h:DataW.trod enc P W 0 (λ_=>true) true n t [v]=some x) (hA:Cell.okWide P W .any b t v):∃a:aa α,(J.of a).holds [] W v:=by
 have oX:aj.size α≠0:=λh=>by rw[h]at b2;cases b2
 rcases DataW.trod_slice hu h with⟨h1,_⟩|⟨a,len,cap,elems,rest,m,_,h1,_,_,auM,B3,tL,aqy,auf,_⟩
 ·have:=VB.1 h1
  subst this
  exact⟨[],p3.2 (.inl ⟨rfl,rfl⟩)⟩
 have:=VB.1 h1
 subst this
 unfold Cell.okWide at hA
 simp only[hu]at hA
 unfold Cell.ok at hA
 rw[hu]at hA
 obtain⟨_,_,_,aaH,row,cells,EU,aqz⟩:=hA
 obtain⟨xa,xb,auN⟩:=a
 simp only at aaH
 subst aaH
 unfold World.shape? at EU
 cases e3:W.heap[xa]? with
 |none=>rw[e3]at EU;cases EU
 | some pO=>
   rw[e3]at EU
   cases pO <;> simp at EU
   rename_i vt T jl
   obtain⟨ud,dR⟩:=EU
   have aus:xb<=vt.size:=by
    have a7:xb<=_:=Xh aqz;have bp:=Nat.div_mul_le_self cells (P.cellsOf row);omega
   have aou:=he.cells
   have fV:∀i,i<len->∃a:α,aj.rep [] W ((vt.toList.drop (xb+i*aj.size α)).take (aj.size α)) a∧xb+(i+1)*aj.size α<=vt.size:=λi au=>by
    have a7:=aqy i au;rw[pa (by omega)]at a7;obtain⟨eW,bp,cO⟩:=U2.1 a7;obtain⟨_,ao,ak⟩:=World.cells?_some bp;rw[aou]at ao ak bp;have tk:∀j,j<aj.size α->vt[xb+i*aj.size α+j]? =eW[j]? :=λj aC=>by
     rw[<-ak j aC,kg,kg];unfold World.cell?;simp[e3]
    have heq:(vt.toList.drop (xb+i*aj.size α)).take (aj.size α)=eW:=by
     apply mL;intro j;rw[k3];by_cases aC:j<aj.size α
     ·rw[bk aC,mo,zg];exact tk j aC
     rw[bf aC];symm;exact FN (by omega)
    obtain⟨a,aY⟩:=he.read cO;refine⟨a,by rw[heq];exact aY,?_⟩;have dJ:=tk (aj.size α-1) (by omega);rw[pa (show aj.size α-1<eW.length by omega)]at dJ;have:=(s5.1 dJ).1;rw[nu];omega
   have hex:∃xs:aa α,xs.length=len∧∀i (h:i<xs.length),aj.rep [] W ((vt.toList.drop (xb+i*aj.size α)).take (aj.size α)) xs[i]:=by
    refine⟨List.ofFn λi:Fin len=>(fV i.1 i.2).choose,by simp,λi au=>?_⟩;have hP:i<len:=by simpa using au
    rw[List.getElem_ofFn];exact(fV i hP).choose_spec.1
   obtain⟨xs,Ca,Ts⟩:=hex
   have hbound:xb+xs.length*aj.size α<=vt.size:=by
    rw[Ca];rcases VC len with bJ|bJ
    ·rw[bJ];omega
    have:=(fV (len-1) (by omega)).choose_spec.2;rw[show len-1+1=len by omega]at this;exact this
   refine⟨xs,p3.2 (.inr ⟨xa,xb,cap,vt,T,jl,by rw[Ca],by simp,e3,by omega,by omega,hbound,?_,λi au=>?_⟩)⟩
   ·rw[fT,ku];simp;omega
   have hle:(i+1)*aj.size α<=xs.length*aj.size α:=hC _ au
   rw[sf]at hle
   rw[zS _ _ _ _ _ hle]
   exact Ts i au
def yp.asi{α:Type}[aj α](hu:P.underlying t=some (.slice e))(he:Arg P e α)(b2:Nat.beq (aj.size α) 0=false):yp P t (aa α)where
 top {H enc W n b v x} h hA:=by
  have Ex:Cell.okWide P W .any b t v:=by
   unfold Value.okWide at hA;simp only[hu]at hA;exact hA
  have S7:v.oneCell'=true:=by
   unfold Cell.okWide at Ex;simp only[hu]at Ex;unfold Cell.ok at Ex;rw[hu]at Ex;cases v <;> first|rfl|simp at Ex
  rw[cells_one S7]at h;exact aiT hu he b2 h Ex
def L1{H:Type}{enc:bF×bt->H}{W:bq}{cx:aa bF}{vs:aa bt}{ds:aa (DataW H)}{ec:aa MemPlace}{α:Type}[aj α]{b:Nat}(aY:yp P t α)
 (h:DataW.TrodAll enc P W 0 (λ_=>true) true (t::cx) vs ds ec) (hA:∀(j:Nat) u v,(t::cx)[j]? =some u->vs[j]? =some v->Value.okWide P W .any b u v):
 ∃ (a:α) (v:bt) (Tt:aa bt) (acH:aa (DataW H)) (asj:aa MemPlace) (d:DataW H),vs=v::Tt∧ds=d::acH∧(J.of a).holds [] W v∧DataW.TrodAll enc P W 0 (λ_=>true) true cx Tt acH asj∧
   (∀(j:Nat) u w,cx[j]? =some u->Tt[j]? =some w->Value.okWide P W .any b u w):=by
 obtain⟨v,Tq,d,Tr,p,q,rfl,rfl,rfl,⟨n,h1⟩,ae⟩:=trodAll_cons h
 obtain⟨a,az⟩:=aY.top h1 (hA 0 t v I I)
 exact⟨a,v,Tq,Tr,q,d,rfl,rfl,az,ae,λj u w aC hw=>hA (j+1) u w (by simpa using aC) (by simpa using hw)⟩
end Gv
namespace Gv
open Go
def ahk{L' L:aa aI}(h:L'.Sublist L):(ks L').Sublist (ks L):=by
 induction h with
 |slnil=>simp[ks]
 |cons e _ b6=>cases hk:e.key <;> simp only[ks,hk] <;> first|exact b6|exact b6.cons _
 |cons_cons e _ b6=>cases hk:e.key <;> simp only[ks,hk] <;> first|exact b6|exact b6.cons_cons _
def aI.uL{e:aI}{A cR W W'}(h:e.ok A W)(x:Ext A W cR W')(hb:∀p,e.key=some p->W'.heap[p]? =W.heap[p]?):e.ok cR W':=by
 unfold aI.ok at *;cases hk:e.key with
 |none=>rw[hk]at h;exact h
 | some p=>
   rw[hk]at h
   obtain⟨o,h1,ae⟩:=h
   exact⟨o,by rw[hb p hk];exact h1,eL.mono _ x ae⟩
def kB(X b3:aa Nat)(j1:bq){δ:Type}(ρ:δ->J)(Lo:δ->aa aI):Ending->bq->Prop:=λe W'=>
 ∃v d,e=.returned v∧Fr X j1 W'∧(ks (Lo d)).Nodup∧(∀k∈ks (Lo d),k<W'.heap.size∧(k<j1.heap.size->k∈X)∧k∉b3)∧(∀e∈Lo d,e.ok (ks (Lo d)++b3) W')∧(ρ d).holds (ks (Lo d)++b3) W' v
def bV(P:Program)(f:FuncId)(τs:aa J)(Lin:aa aI){δ:Type}(ρ:δ->J)(Lo:δ->aa aI):Prop:=
 ∀ (A:aa Nat) (W:bq) (vs:aa bt),(∀k∈A,k<W.heap.size∧k∉ks Lin)->(ks Lin).Nodup->(∀k∈ks Lin,k<W.heap.size)->(∀e∈Lin,e.ok (ks Lin++A) W)->gL (ks Lin++A) W τs vs->
   Calls P f vs.toArray W (kB (ks Lin) A W ρ Lo)
def bV.of{P:Program}{f:FuncId}{fn:Func}{code:Code}{n:Nat}{τs:aa J}{Lin:aa aI}{δ:Type}{ρ:δ->J}{Lo:δ->aa aI}(aW:P.funcs[f]? =some fn)(hb:fn.body=some code)(aM:fn.ntmps=n)(hlen:Nat.ble τs.length n=true)
 (h:∀W A,ay ⟨P,n,W,ks Lin,A,none,[]⟩ (bodyPost P fn (kB (ks Lin) A W ρ Lo)) code (params 0 τs) Lin):bV P f τs Lin ρ Lo:=by
 intro A W vs eB kQ ch hA ba
 refine LA aW hb (wpIn_wide.1 (h W A _ _ ?_))
 have ao:=ba.length
 have hle:τs.length<=n:=pb hlen
 exact
 {defers:=rfl
  size:=by simp[aM,ao];omega
  env:=λt τ kX=>by
   obtain⟨_,v,ae,az⟩:=zW ba 0 t τ kX;refine⟨v,?_,az⟩;have ch:t<vs.length:=(hh.1 ae).1;rw[vD (by simpa using ch)];simpa using ae
  dI:=.refl _ _
  own:=hA
  nodup:=kQ
  lt:=ch
  fO:=λk hk _=>hk
  eG:=eB}
section
variable{c:cC}{E:aa (Nat×J)}{L:aa aI}{ops:Array Oper}{Q:Exit->Act->bq->Prop}
variable{d:aA Tmp}{ty:bF}{pos:String}{af:Array Edge}{g:aA (Nat×Bool)}{x y:ca}{t t2:bF}
def qq(c:cC)(E:aa (Nat×J))(L:aa aI)(r:ResultVar)(τ:J):Prop:=
 ∀a W,bP c E L a W->∃v,(xZ a.tmps r).run c.P W=.ok v W∧τ.holds (ks L++c.b3) W v
def dB{t:Nat}{τ:J}(h:look E t=some τ):qq c E L (.tmp t) τ:=λa W s=>by
 obtain⟨v,h1,ae⟩:=s.env t τ h;exact⟨v,by simp[xZ,h1],ae⟩
def nB{t:Nat}{ty:bF}{i p:Nat}{α:Type}[aj α]{x:α}(dP:bS c.P ty α)(h:look E t=some (.eq (.pointer (some ⟨p,0,none⟩))))(ax:L[i]? =some ⟨some p,.var x⟩):qq c E L (.cell t ty) (.of x):=λa W s=>by
 obtain⟨v,h1,ae⟩:=s.env t _ h;subst ae;obtain⟨pO,e3,cs,T,rfl,fV⟩:=s.own _ (e6 ax);have ao:cs.toList.length=aj.size α:=aj.len fV;have dR:cs.size=aj.size α:=by simpa using ao
 obtain⟨v,az,aQ⟩:=zM (A:=ks L++c.b3) (off:=0) dP e3 (by omega) (by rw[vM,<-ao,k4];exact fV);exact⟨v,by simp[xZ,h1,asAddr,az],aQ⟩
def bP.ends{a:Act}{W:bq}(s:bP c E L a W){δ:Type}{ρ:δ->J}{Lo:δ->aa aI}(bc:δ)(hs:(Lo bc).Sublist L){v:bt}(ba:(ρ bc).holds (ks L++c.b3) W v):kB c.X c.b3 c.j1 ρ Lo (.returned v) W:=by
 have oc:=ahk hs;have hk:∀k∈ks (Lo bc),k∈ks L:=λk hk=>oc.subset hk;have iG:Ext (ks L++c.b3) W (ks (Lo bc)++c.b3) W:=.drop λk hm=>by
  rcases cz.1 hm with hm|hm
  ·exact cz.2 (.inl (hk k hm))
  exact cz.2 (.inr hm)
 exact⟨v,bc,rfl,s.dI,s.nodup.sublist oc,λk hm=>⟨s.lt k (hk k hm),s.fO k (hk k hm),λaY=>(s.eG k aY).2 (hk k hm)⟩,
  λe he=>aI.uL (s.own e (hs.subset he)) iG λ_ _=>rfl,J.mono _ iG ba⟩
def eK{L L':aa aI}(n:Nat)(h:L.drop n=L':=by rfl):L'.Sublist L:=h▸List.drop_sublist n L
def aq.eU{fn:Func}{r:ResultVar}{τ:J}{δ:Type}{ρ:δ->J}{Lo:δ->aa aI}(bc:δ)(hs:(Lo bc).Sublist L)(aE:fn.results= #[r])(rV:ρ bc=τ)(h:qq c E L r τ)(et:c.ds=[]:=by rfl):aq c (bodyPost c.P fn (kB c.X c.b3 c.j1 ρ Lo)) .ret E L:=λa W s=>by
 subst rV;obtain⟨v,h1,ae⟩:=h a W s;exact⟨s.Ae et,v,by simp[zY,aE,h1],s.ends bc hs ae⟩
def aq.mY{fn:Func}{r fz:ResultVar}{τ o0:J}{δ:Type}{ρ:δ->J}{Lo:δ->aa aI}(bc:δ)(hs:(Lo bc).Sublist L)(aE:fn.results= #[r,fz])(rV:ρ bc=.b7 [τ,o0])(h:qq c E L r τ)(ae:qq c E L fz o0)(et:c.ds=[]:=by rfl):aq c (bodyPost c.P fn (kB c.X c.b3 c.j1 ρ Lo)) .ret E L:=λa W s=>by
 obtain⟨v,az,aQ⟩:=h a W s;obtain⟨v2,a7,bp⟩:=ae a W s;exact⟨s.Ae et,.tuple #[v,v2],by simp[zY,aE,az,a7],s.ends bc hs (by rw[rV];exact⟨_,rfl,.cons aQ (.cons bp .nil)⟩)⟩
def aq.aaA{fn:Func}{r fz mj:ResultVar}{τ o0 Jp:J}{δ:Type}{ρ:δ->J}{Lo:δ->aa aI}(bc:δ)(hs:(Lo bc).Sublist L)(aE:fn.results= #[r,fz,mj])(rV:ρ bc=.b7 [τ,o0,Jp])(h:qq c E L r τ)(ae:qq c E L fz o0)(az:qq c E L mj Jp)(et:c.ds=[]:=by rfl):aq c (bodyPost c.P fn (kB c.X c.b3 c.j1 ρ Lo)) .ret E L:=λa W s=>by
 obtain⟨v,ar,f1⟩:=h a W s;obtain⟨v2,aK,f2⟩:=ae a W s;obtain⟨v3,cr,f3⟩:=az a W s;exact⟨s.Ae et,.tuple #[v,v2,v3],by simp[zY,aE,ar,aK,cr],s.ends bc hs (by rw[rV];exact⟨_,rfl,.cons f1 (.cons f2 (.cons f3 .nil))⟩)⟩
def xK:∀{L:aa aI} {i:Nat} {e:aI},L[i]? =some e->L.Perm (e::L.eraseIdx i)
 |[],i,e,h=>by simp at h
 |x::r,0,e,h=>by simp only[List.getElem?_cons_zero,gy]at h;subst h;exact .refl _
 | x::r,i+1,e,h=>by
   simp only[List.getElem?_cons_succ]at h;exact((xK h).cons x).trans (.swap e x _)
def bP.bW{a:Act}{W:bq}(s:bP c E L a W){i:Nat}{e:aI}(h:L[i]? =some e):bP c E (e::L.eraseIdx i) a W:=s.perm (xK h)
def ad.bW{l:aa Oper}(i:Nat){e:aI}(h:L[i]? =some e)(k:ad c ops Q l E (e::L.eraseIdx i)):ad c ops Q l E L:=λa W s=>k a W (s.bW h)
def aq.bW{z:Exit}(i:Nat){e:aI}(h:L[i]? =some e)(k:aq c Q z E (e::L.eraseIdx i)):aq c Q z E L:=λa W s=>k a W (s.bW h)
def bP.after{a:Act}{W W':bq}{Lin Lr:aa aI}(s:bP c E (Lin++Lr) a W){Lo:aa aI}(aW:Fr (ks Lin) W W')(kQ:(ks Lo).Nodup)
 (hk:∀k∈ks Lo,k<W'.heap.size∧(k<W.heap.size->k∈ks Lin)∧k∉ks Lr++c.b3) (hA:∀e∈Lo,e.ok (ks Lo++(ks Lr++c.b3)) W'):bP c E (Lo++Lr) a W':=by
 have iG:Ext (ks (Lin++Lr)++c.b3) W (ks (Lo++Lr)++c.b3) W':=
  ⟨aW.size,λk ch aY=>aW.block k ch λhm=>aY (by rw[e1];simp[hm]),λk hm ch=>by
   rw[e1]at hm⊢;simp only[cz]at hm⊢;rcases hm with(hm|hm)|hm
   ·exact .inl (.inl ((hk k hm).2.1 ch))
   ·exact .inl (.inr hm)
   exact .inr hm⟩
 have lB:=s.nodup
 rw[e1]at lB
 obtain⟨nJ,sL,qs⟩:=pS.1 lB
 have EN:∀k∈ks Lr,k<W.heap.size∧k∉ks Lin:=λk hm=>⟨s.lt k (by rw[e1];exact cz.2 (.inr hm)),λh=>qs k h k hm I⟩
 exact
 {defers:=s.defers
  size:=s.size
  env:=λt τ ao=>let⟨v,h1,ae⟩:=s.env t τ ao; ⟨v,h1,τ.mono iG ae⟩
  dI:=⟨aW.os.trans s.dI.os,aW.tape.trans s.dI.tape,aW.output.trans s.dI.output,qH s.dI.drawn aW.drawn,qH s.dI.size aW.size,λk ch an=>
   (aW.block k (rp ch s.dI.size) λhm=>an (s.fO k (by rw[e1];exact cz.2 (.inl hm)) ch)).trans (s.dI.block k ch an)⟩
  own:=λe he=>by
   rcases cz.1 he with he|he
   ·have:=hA e he;refine aI.uL this (.drop λk hm=>?_) λ_ _=>rfl;rw[e1]at hm;simp only[cz]at hm⊢;rcases hm with(hm|hm)|hm
    ·exact .inl hm
    ·exact .inr (.inl hm)
    exact .inr (.inr hm)
   exact aI.uL (s.own e (cz.2 (.inr he))) iG λp hp=>by
    have:=EN p (sq.2 ⟨e,he,hp⟩);exact aW.block p this.1 this.2
  nodup:=by
   rw[e1];exact pS.2 ⟨kQ,sL,λk h1 j ae e=>by subst e;exact(hk k h1).2.2 (cz.2 (.inl ae))⟩
  lt:=λk hm=>by
   rw[e1]at hm;rcases cz.1 hm with hm|hm
   ·exact(hk k hm).1
   exact rp (EN k hm).1 aW.size
  fO:=λk hm bJ=>by
   rw[e1]at hm;have ch:k<W.heap.size:=rp bJ s.dI.size;rcases cz.1 hm with hm|hm
   ·exact s.fO k (by rw[e1];exact cz.2 (.inl ((hk k hm).2.1 ch))) bJ
   exact s.fO k (by rw[e1];exact cz.2 (.inr hm)) bJ
  eG:=λk hm=>by
   obtain⟨h1,ae⟩:=s.eG k hm;refine⟨rp h1 aW.size,λh=>?_⟩;rw[e1]at h ae;rcases cz.1 h with h|h
   ·exact(hk k h).2.2 (cz.2 (.inr hm))
   exact ae (cz.2 (.inr h))}
def iF.Zj{xs:aa ca}{τs:aa J}(h:iF c E L xs τs){a:Act}{W:bq}(s:bP c E L a W):gL (ks L++c.b3) W τs (xs.map a.eval):=h.holds a W s
def HC{a:Act}{W:bq}{f:FuncId}{xs:aa ca}{ats:Array bF}{τs:aa J}{Lin Lr:aa aI}{δ:Type}{ρ:δ->J}{Lo:δ->aa aI}(cj:bL c.P f)(h:bV c.P f τs Lin ρ Lo)
 (s:bP c E (Lin++Lr) a W) (an:gL (ks (Lin++Lr)++c.b3) W τs (xs.map a.eval)):
 h0 c.P ⟨d,.call ⟨.value (.func f),xs.toArray,ats⟩,ty,pos,af,g⟩ a W λv W'=> ∃bc,bP c E (Lo bc++Lr) a W'∧(ρ bc).holds (ks (Lo bc++Lr)++c.b3) W' v:=by
 have lB:=s.nodup
 rw[e1]at lB
 obtain⟨nJ,sL,qs⟩:=pS.1 lB
 have h2:Ext (ks (Lin++Lr)++c.b3) W (ks Lin++(ks Lr++c.b3)) W:=.drop λk hm=>by
  rw[e1];simp only[cz]at hm⊢;rcases hm with hm|hm|hm
  ·exact .inl (.inl hm)
  ·exact .inl (.inr hm)
  exact .inr hm
 have eB:∀k∈ks Lr++c.b3,k<W.heap.size∧k∉ks Lin:=λk hm=>by
  rcases cz.1 hm with hm|hm
  ·exact⟨s.lt k (by rw[e1];exact cz.2 (.inr hm)),λh=>qs k h k hm I⟩
  obtain⟨h1,ae⟩:=s.eG k hm;exact⟨h1,λh=>ae (by rw[e1];exact cz.2 (.inl h))⟩
 have ch:∀k∈ks Lin,k<W.heap.size:=λk hm=>s.lt k (by rw[e1];exact cz.2 (.inl hm))
 refine .wa (f:=f) (args:=(xs.map a.eval).toArray) (W':=W) (by simp[execOp,resolve,Deferred.ofValue,Act.eval,invoke,cj.run]) ?_
 refine(h (ks Lr++c.b3) W (xs.map a.eval) eB nJ ch (λe he=>aI.uL (s.own e (cz.2 (.inl he))) h2 λ_ _=>rfl) (an.mono h2)).mono λe W' ⟨v,bc,he,aW,h1,ae,az,aQ⟩=>?_
 refine⟨v,he,bc,s.after aW h1 ae az,(ρ bc).mono (.drop λk hm=>?_) aQ⟩
 rw[e1]at hm
 simp only[cz]at hm⊢
 rcases hm with(hm|hm)|hm
 ·exact .inl hm
 ·exact .inr (.inl hm)
 exact .inr (.inr hm)
def ad.nz{rest:aa Oper}{bc:Nat}{f:FuncId}{xs:aa ca}{ats:Array bF}{τs:aa J}{Lin Lr:aa aI}{δ:Type}{ρ:δ->J}{Lo:δ->aa aI}(cj:bL c.P f)(h:bV c.P f τs Lin ρ Lo)
 (an:iF c E (Lin++Lr) xs τs) (aM:Nat.blt bc c.n=true) (k:∀q,ad c ops Q rest ((bc,ρ q)::E) (Lo q++Lr)):
 ad c ops Q (⟨some bc,.call ⟨.value (.func f),xs.toArray,ats⟩,ty,pos,af,none⟩::rest) E (Lin++Lr):=λa W s=>
 iO I (HC cj h s (an.holds a W s)) λv W' ⟨q,cH,ba⟩=>k q _ _ (cH.put (by simpa using aM) ba)
end
def dr{α:Type}(xs:aa α)(k:Nat)(v:α):aa α:=xs.set k v
section
variable{c:cC}{E:aa (Nat×J)}{L:aa aI}{ops:Array Oper}{Q:Exit->Act->bq->Prop}
variable{d:aA Tmp}{ty:bF}{pos:String}{af:Array Edge}{g:aA (Nat×Bool)}{x y:ca}{t t2:bF}
def bP.rowAt{a:Act}{W:bq}(s:bP c E L a W){i:Nat}{key:aA Nat}{T cap:Nat}{α:Type}[aj α]{xs:aa α}(ax:L[i]? =some ⟨key,.row T xs cap⟩)(an:0<xs.length):
 ∃p cs,key=some p∧W.heap[p]? =some (.cells cs T (0,0))∧cs.size=cap*aj.size α∧xs.length<=cap∧cap<=maxLen∧hx (ks L++c.b3) W (cs.toList.take (xs.length*aj.size α)) xs:=by
 have a8:=s.own _ (e6 ax)
 cases key with
 |none=>have:xs=[]:=a8.1;subst this;simp at an
 | some p=>
   obtain⟨o,e3,cs,rfl,h1,ae,az,aQ⟩:=a8
   exact⟨p,cs,rfl,e3,h1,ae,az,aQ⟩
def jV{e i k T cap:Nat}{key:aA Nat}{α:Type}[aj α]{xs:aa α}{z:Int}(hu:c.P.underlying t=some (.slice e))(eM:bS c.P e α)(an:aU c E L x (.eq (aH key xs.length cap)))(hy:aU c E L y (.of z))
 (ax:L[i]? =some ⟨key,.row T xs cap⟩) (hk:k<xs.length∧z=k):bj c E L ⟨d,.indexAddr t x y,ty,pos,af,g⟩ (.eq (.pointer (some ⟨key.getD 0,k*aj.size α,none⟩))):=.pure λa W s=>by
 obtain⟨bp,rfl⟩:=hk
 obtain⟨p,cs,rfl,_⟩:=s.rowAt ax (by omega)
 have h1:a.eval x=_:=an a W s
 have a7:=of_int.1 (hy a W s)
 obtain⟨gH,eo,dR⟩:=eM.info
 exact⟨_,by simp[execOp,Instr.indexAt,asIntOf,ee hu,h1,a7,bp,Go.sizeOf,typeInfo,eo,dR,kg,aH];rfl,by simp[J.eq]⟩
def D3{k n s:Nat}(h:k<n):k*s+s<=n*s:=by rw[<-sf];exact hC _ h
def sm{i k T cap o:Nat}{key:aA Nat}{α γ:Type}[aj α][Inhabited α][aj γ]{xs:aa α}(l:aP α γ){r:γ}(dP:bS c.P t γ)(an:aU c E L x (.eq (.pointer (some ⟨key.getD 0,o,none⟩))))
 (ax:L[i]? =some ⟨key,.row T xs cap⟩) (hk:k<xs.length) (a8:o=k*aj.size α+l.off) (aE:l.get (av xs k)=r):bj c E L ⟨d,.load t x,ty,pos,af,g⟩ (.of r):=.pure λa W s=>by
 subst a8;subst aE
 obtain⟨p,cs,rfl,e3,h1,ae,az,aQ⟩:=s.rowAt ax (by omega)
 have fQ:=D3 (s:=aj.size α) hk
 have ao:=l.ha
 have hle:xs.length*aj.size α<=cap*aj.size α:=hC _ ae
 have fV:=l.jT (aQ.2 k hk)
 rw[zS _ _ _ _ _ l.ha,vL,sd,pd (by omega)]at fV
 rw[dp xs hk]
 obtain⟨v,a7,bp⟩:=zM (A:=ks L++c.b3) dP e3 (off:=k*aj.size α+l.off) (by omega) fV
 have cO:a.eval x=_:=an a W s
 simp only[Option.getD_some]at cO
 exact⟨v,by simp[execOp,Instr.loadAt,Instr.sureAddr,cO,a7],bp⟩
def ad.oN{rest:aa Oper}{i k T cap o:Nat}{key:aA Nat}{α γ:Type}[aj α][Inhabited α][aj γ]{xs r:aa α}{v:γ}(l:aP α γ)(dP:bS c.P t γ)(an:aU c E L x (.eq (.pointer (some ⟨key.getD 0,o,none⟩))))(hy:aU c E L y (.of v))
 (ax:L[i]? =some ⟨key,.row T xs cap⟩) (hk:k<xs.length) (a8:o=k*aj.size α+l.off) (aE:dr xs k (l.set (av xs k) v)=r)
 (k':ad c ops Q rest E (L.set i ⟨key,.row T r cap⟩)):ad c ops Q (⟨none,.store t x y,ty,pos,af,none⟩::rest) E L:=λa W s=>by
 subst a8;subst aE
 obtain⟨p,cs,rfl,e3,h1,ae,az,aQ⟩:=s.rowAt ax (by omega)
 have fQ:=D3 (s:=aj.size α) hk
 have ao:=l.ha
 have hle:xs.length*aj.size α<=cap*aj.size α:=hC _ ae
 have ba:=hy a W s
 have sM:(a.eval y).cells.toList.length=aj.size γ:=aj.len ba.2
 have a7:=LG (A:=ks L++c.b3) dP e3 (off:=k*aj.size α+l.off) (by omega) ba
 have cO:a.eval x=_:=an a W s
 simp only[Option.getD_some]at cO
 refine iO I (R:=λv W'=>W'=W.setRow p (gV cs.toList (k*aj.size α+l.off) (a.eval y).cells.toList).toArray) (.DV ?_ I) λu W' hw=>?_
 ·simp[execOp,Instr.storeAt,Instr.sureAddr,cO,a7]
 subst hw
 refine k' _ _ (s.store ax e3 ?_)
 have lh:cs.toList.length=cap*aj.size α:=by simpa using h1
 have qt:(gV cs.toList (k*aj.size α+l.off) (a.eval y).cells.toList).length=cs.toList.length:=by
  simp only[gV,gj,fT,ku,sM];omega
 refine⟨_,rfl,by simpa[lh]using qt,by simpa[dr]using ae,az,?_⟩
 have g1:=aQ.2 k hk
 have g2:=l.n1 g1 ba.2
 have g3:=QK aQ hk g2
 have vr:(cs.toList.take (xs.length*aj.size α)).length=xs.length*aj.size α:=by rw[fT];omega
 rw[Xe _ _ _ _ _ _ l.ha (by omega)]at g3
 have hlen:(dr xs k (l.set (av xs k) v)).length=xs.length:=by simp[dr]
 rw[hlen,List.toList_toArray]
 have e:(gV cs.toList (k*aj.size α+l.off) (a.eval y).cells.toList).take (xs.length*aj.size α)=
  (cs.toList.take (xs.length*aj.size α)).take (k*aj.size α+l.off)++(a.eval y).cells.toList++(cs.toList.take (xs.length*aj.size α)).drop (k*aj.size α+l.off+aj.size γ):=by
  have ar:(cs.toList.take (k*aj.size α+l.off)).length=k*aj.size α+l.off:=by rw[fT];omega
  have aK:(cs.toList.take (k*aj.size α+l.off)++(a.eval y).cells.toList).length=k*aj.size α+l.off+aj.size γ:=by rw[gj,ar,sM]
  rw[gV,sM,K3,aK,s6 (by omega),sd,pd (by omega),vL]
 rw[e,show dr xs k (l.set (av xs k) v)=xs.set k (l.set xs[k] v) by rw[dr,dp xs hk]]
 exact g3
def jd(key:aA Nat)(lo n cap size:Nat):bt:=match key with
 |some p=>.slice (some (if cap=lo then⟨p,0,none⟩else⟨p,lo*size,none⟩)) n (cap-lo)
 |none=>.slice none 0 0
def DN{key:aA Nat}{n cap size:Nat}:jd key 0 n cap size=aH key n cap:=by
 cases key <;> simp[jd,aH]
def HJ{i T cap:Nat}{key:aA Nat}{α:Type}[aj α]{xs:aa α}{e:bF}{lo au:aA ca}{m n:Nat}{Ki Kj:Int}(hu:c.P.underlying t=some (.slice e))(eM:bS c.P e α)(an:aU c E L x (.eq (aH key xs.length cap)))
 (ax:L[i]? =some ⟨key,.row T xs cap⟩) (jL:y4 c E L lo Ki 0) (gQ:y4 c E L au Kj xs.length) (hm:Ki=m) (aM:Kj=n) (h:m<=n∧n<=xs.length):
 bj c E L ⟨d,.slice t x lo au none,ty,pos,af,g⟩ (.eq (jd key m (n-m) cap (aj.size α))):=.pure λa W s=>by
 subst hm;subst aM
 obtain⟨wT,ng⟩:=h
 obtain⟨gH,eo,dR⟩:=eM.info
 have h1:a.eval x=_:=an a W s
 have a8:=s.own _ (e6 ax)
 cases key with
 | none=>
   have pJ:xs=[]:=a8.1
   subst pJ
   have vp:n=0:=by simpa using ng
   have h3:m=0:=by omega
   subst vp
   subst h3
   refine⟨.slice none 0 0,?_,rfl⟩
   have ax:(match lo.map a.eval with |some v=>Instr.sliceBound v 0 .sliceB|none=>pure 0:Sem Nat).run c.P W=.ok 0 W:=by
    cases jL with
    |none=>rfl
    |some ao=>exact si (jF _) (of_int.1 (ao a W s))
   have hH:(match au.map a.eval,(none:aA bt) with | some v,some _=>Instr.sliceBound v 0 .slice3B | some v,none=>Instr.sliceBound v 0 .sliceAcap | none,none=>pure 0 | none,some _=>stuck "Slice: max without high" :Sem Nat).run c.P W= .ok 0 W:=by
    cases gQ with
    |none=>rfl
    |some ao=>exact si (jF _) (of_int.1 (ao a W s))
   cases jL <;> cases gQ
   all_goals
    simp only[aH,execOp,Instr.sliceAt,Instr.slice,Instr.sliceBounds,h1,dU,ee hu,Result.andThen_ok,Option.map_none,Option.map_some,Option.isSome_none,sb,n0,lY,Sem.run_pure]at ax hH⊢
    try simp only[ax,hH,Result.andThen_ok,Go.sizeOf,typeInfo,dU,run_program,eo,Sem.run_pure]
    try simp[eo]
 | some p=>
   obtain⟨o,e3,cs,rfl,g1,g2,g3,g4⟩:=a8
   refine⟨_,?_,rfl⟩
   simp only[jd]
   have ax:∀v,v=Value.int .i64 m->(Instr.sliceBound v n .sliceB).run c.P W=.ok m W:=λv ba=>si wT ba
   have hH:∀v,v=Value.int .i64 n->(Instr.sliceBound v cap .sliceAcap).run c.P W=.ok n W:=λv ba=>si (by omega) ba
   generalize fQ:(n:Int)=adn at gQ
   generalize Jt:(m:Int)=ado at jL
   generalize Ca:(xs.length:Int)=adp at gQ
   generalize acE:(0:Int)=adq at jL
   cases jL with
   | none=>
     have h3:m=0:=by omega
     cases gQ with
     | none=>
       have ng:n=xs.length:=by omega
       subst ng
       subst h3
       simp[execOp,Instr.sliceAt,Instr.slice,Instr.sliceBounds,h1,aH,ee hu,Go.sizeOf,typeInfo,eo,dR,kg]
     | some cB=>
       subst fQ
       subst h3
       simp[execOp,Instr.sliceAt,Instr.slice,Instr.sliceBounds,h1,aH,ee hu,Go.sizeOf,typeInfo,eo,dR,kg,hH _ (of_int.1 (cB a W s))]
   | some ao=>
     subst Jt
     cases gQ with
     | none=>
       have ng:n=xs.length:=by omega
       subst ng
       simp[execOp,Instr.sliceAt,Instr.slice,Instr.sliceBounds,h1,aH,ee hu,Go.sizeOf,typeInfo,eo,dR,kg,ax _ (of_int.1 (ao a W s))]
       split <;> rfl
     | some cB=>
       subst fQ
       simp[execOp,Instr.sliceAt,Instr.slice,Instr.sliceBounds,h1,aH,ee hu,Go.sizeOf,typeInfo,eo,dR,kg,ax _ (of_int.1 (ao a W s)),hH _ (of_int.1 (cB a W s))]
       split <;> rfl
def bP.again{a:Act}{W:bq}(s:bP c E L a W){i:Nat}{key:aA Nat}{cp cp':eL}(ax:L[i]? =some ⟨key,cp⟩)(h:∀A W o,cp.holds A W o->cp'.holds A W o)(aM:cp.pC->cp'.pC):bP c E (L.set i ⟨key,cp'⟩) a W:=by
 have fP:ks (L.set i ⟨key,cp'⟩)=ks L:=MH (e:=⟨key,cp⟩) (cp:=cp') ax;exact
 {defers:=s.defers
  size:=s.size
  env:=λt τ ao=>by rw[fP];exact s.env t τ ao
  dI:=s.dI
  own:=λe he=>by
   rw[fP];obtain⟨j,aC⟩:=oE.1 he;rw[pR]at aC;split at aC
   ·split at aC
    ·simp only[gy]at aC;subst aC;have a8:=s.own _ (e6 ax);cases key with
     |none=>exact aM a8
     |some p=>obtain⟨o,h1,ae⟩:=a8;exact⟨o,h1,h _ _ _ ae⟩
    cases aC
   exact s.own e (e6 aC)
  nodup:=by rw[fP];exact s.nodup
  lt:=by rw[fP];exact s.lt
  fO:=by rw[fP];exact s.fO
  eG:=by rw[fP];exact s.eG}
def Mb{T cap n:Nat}{α:Type}[aj α]{xs:aa α}(aM:n<=xs.length){A W o}(h:(eL.row T xs cap).holds A W o):(eL.row T (xs.take n) cap).holds A W o:=by
 obtain⟨cs,rfl,h1,ae,az,aQ⟩:=h;have ao:(xs.take n).length=n:=by rw[fT];omega
 have hle:n*aj.size α<=xs.length*aj.size α:=hC _ aM;have NL:xs.length*aj.size α<=cap*aj.size α:=hC _ ae;refine⟨cs,rfl,h1,by omega,az,?_⟩;rw[ao];have lh:cs.toList.length=cap*aj.size α:=by simpa using h1
 refine⟨by rw[fT,ao];omega,λi au=>?_⟩;have hP:i<n:=by omega
 have fQ:=D3 (s:=aj.size α) hP;have:=aQ.2 i (by omega);rw[vL,sd,pd (by omega)]at this⊢;rw[List.getElem_take];exact this
def ad.aom{l:aa Oper}{i T cap n:Nat}{key:aA Nat}{α:Type}[aj α]{xs r:aa α}(bc:Nat)(ao:look E bc=some (.eq (jd key 0 (n-0) cap (aj.size α))))(ax:L[i]? =some ⟨key,.row T xs cap⟩)(aM:n<=xs.length)(aE:xs.take n=r)
 (k:ad c ops Q l ((bc,.eq (aH key r.length cap))::E) (L.set i ⟨key,.row T r cap⟩)):ad c ops Q l E L:=λa W s=>by
 subst aE
 have hlen:(xs.take n).length=n:=by rw[fT];omega
 have cH:=s.again ax (λ_ _ _ h=>Mb aM h) (cp':=.row T (xs.take n) cap) (λ⟨h1,ae⟩=>⟨by rw[h1];simp,ae⟩)
 refine k a W {cH with env:=λt τ fh=>?_}
 simp only[look]at fh
 by_cases e:Nat.beq bc t=true
 ·rw[e]at fh
  simp only[cond_true,gy]at fh
  subst fh
  have:=fx.1 e
  subst this
  obtain⟨v,h1,ae⟩:=s.env bc _ ao
  refine⟨v,h1,?_⟩
  have mB:v=_:=ae
  rw[Nat.sub_zero,DN]at mB
  rw[hlen]
  exact mB
 simp only[lX]at e
 rw[e]at fh
 exact cH.env t τ fh
end
def uS{α:Type}[Inhabited α](xs:aa α)(lo n:Nat):aa α:=xs.take lo++List.replicate n default++xs.drop (lo+n)
def Xi{α:Type}[aj α]{A W}{cs ds:aa bt}{xs ys:aa α}{lo:Nat}(h:hx A W cs xs)(c8:hx A W ds ys)(hk:lo+ys.length<=xs.length):
 hx A W (cs.take (lo*aj.size α)++ds++cs.drop (lo*aj.size α+ds.length)) (xs.take lo++ys++xs.drop (lo+ys.length)):=by
 have ao:=h.1
 have hle:lo*aj.size α<=xs.length*aj.size α:=hC _ (by omega)
 have t1:hx A W (cs.take (lo*aj.size α)) (xs.take lo):=by
  have e:(xs.take lo).length=lo:=by rw[fT];omega
  refine⟨by rw[fT,e];omega,λi au=>?_⟩;have hP:i<lo:=by omega
  have:=h.2 i (by omega);have fQ:=D3 (s:=aj.size α) hP;rw[vL,sd,pd (by omega),List.getElem_take];exact this
 have t3:hx A W (cs.drop (lo*aj.size α+ds.length)) (xs.drop (lo+ys.length)):=by
  have e:lo*aj.size α+ds.length=(lo+ys.length)*aj.size α:=by rw[c8.1,nu]
  rw[e];refine⟨by rw[ku,ku,ao,<-Nat.sub_mul],λi au=>?_⟩;rw[ku]at au;have:=h.2 (lo+ys.length+i) (by omega);rw[GA,<-nu,List.getElem_drop];exact this
 exact xH (xH t1 c8) t3
section
variable{c:cC}{E:aa (Nat×J)}{L:aa aI}{ops:Array Oper}{Q:Exit->Act->bq->Prop}
variable{d:aA Tmp}{ty:bF}{pos:String}{af:Array Edge}{g:aA (Nat×Bool)}{x y:ca}{t t2:bF}
def ad.clear{rest:aa Oper}{i e T cap lo n:Nat}{key:aA Nat}{α:Type}[aj α][Inhabited α]{xs r:aa α}(hu:c.P.underlying t=some (.slice e))(eM:bS c.P e α)(gT:dx c.P e (default:α))(dR:Nat.beq (aj.size α) 0=false)
 (an:aU c E L x (.eq (jd key lo n cap (aj.size α)))) (ax:L[i]? =some ⟨key,.row T xs cap⟩) (aM:lo+n<=xs.length) (aE:uS xs lo n=r)
 (k:ad c ops Q rest E (L.set i ⟨key,.row T r cap⟩)):ad c ops Q (⟨none,.call ⟨.builtin .clear,#[x],#[t]⟩,ty,pos,af,none⟩::rest) E L:=λa W s=>by
 subst aE
 have h1:a.eval x=_:=an a W s
 have a8:=s.own _ (e6 ax)
 have h2:∀cp,L.set i ⟨key,cp⟩=L.set i ⟨key,cp⟩:=λ_=>rfl
 by_cases bJ:n=0∨key=none
 ·have pJ:uS xs lo n=xs:=by
   rcases bJ with bJ|bJ
   ·subst bJ;simp[uS]
   subst bJ;have:xs=[]:=a8.1;subst this;have:n=0:=by simp at aM;omega
   subst this;simp[uS]
  have j7:(execOp a.eval ⟨none,.call ⟨.builtin .clear,#[x],#[t]⟩,ty,pos,af,none⟩).run c.P W=.ok (.value (.tuple #[])) W:=by
   rcases bJ with bJ|bJ
   ·subst bJ;cases key <;> simp[execOp,resolve,invoke,builtin,Builtin.clear_,h1,jd,ee hu]
   subst bJ;simp[execOp,resolve,invoke,builtin,Builtin.clear_,h1,jd,ee hu]
  refine iO I (R:=λv W'=>W'=W) (.mV j7 I) λv W' hw=>?_
  subst hw
  rw[pJ]at k
  have:L.set i ⟨key,.row T xs cap⟩=L:=by
   apply mL;intro j;rw[pR];split
   ·rename_i gP;subst gP;have:=(hh.1 ax).1;rw[bk this,ax]
   rfl
  rw[this]at k
  exact k _ _ s
 have vp:0<n:=by
  rcases VC n with h|h
  ·exact absurd (.inl h) bJ
  exact h
 obtain⟨p,cs,rfl,e3,g1,g2,g3,g4⟩:=s.rowAt ax (by omega)
 obtain⟨gH,ed,eo,b2,Tu⟩:=gT.zero
 have Oc:=Tu (ks L++c.b3) W
 have Jv:ed.cells.toList.length=aj.size α:=aj.len Oc.2
 have oX:aj.size α≠0:=λh=>by rw[h]at dR;cases dR
 have Jw:=HE Oc n oX
 have Cc:ed.cells.size=aj.size α:=by simpa using Jv
 have Tv:Builtin.zeroCells ed.cells n=(Array.range (n*aj.size α)).map (ed.cells[· % ed.cells.size]!):=by rw[Builtin.zeroCells,Cc]
 rw[<-Tv]at Jw
 generalize ml:(Builtin.zeroCells ed.cells n).toList=D at Jw
 have auO:D.length=n*aj.size α:=by rw[Jw.1];simp
 have jL:cap≠lo:=by omega
 have hle:(lo+n)*aj.size α<=cap*aj.size α:=hC _ (by omega)
 rw[nu]at hle
 have cv:=F6 (P:=c.P) p (lo*aj.size α) _ D 0 cs W e3 (by omega) Jw.one
 have j7:(execOp a.eval ⟨none,.call ⟨.builtin .clear,#[x],#[t]⟩,ty,pos,af,none⟩).run c.P W=.ok (.value (.tuple #[])) (W.setRow p (gV cs.toList (lo*aj.size α) D).toArray):=by
  obtain⟨m,rfl⟩:∃m,n=m+1:=⟨n-1,by omega⟩;simp only[Nat.add_zero]at cv;simp[execOp,resolve,invoke,builtin,Builtin.clear_,h1,jd,ee hu,jL,zeroValue,typeInfo,run_program,eo,b2,ml,cv,gV]
 refine iO I (R:=λv W'=>W'=W.setRow p (gV cs.toList (lo*aj.size α) D).toArray) (.mV j7 I) λv W' hw=>?_
 subst hw
 refine k _ _ (s.store ax e3 ?_)
 have lh:cs.toList.length=cap*aj.size α:=by simpa using g1
 have hlen:(uS xs lo n).length=xs.length:=by simp[uS];omega
 have vr:(cs.toList.take (xs.length*aj.size α)).length=xs.length*aj.size α:=by
  rw[fT];have:xs.length*aj.size α<=cap*aj.size α:=hC _ g2;omega
 have aqA:(lo+n)*aj.size α<=xs.length*aj.size α:=hC _ aM
 rw[nu]at aqA
 have aut:xs.length*aj.size α<=cap*aj.size α:=hC _ g2
 refine⟨_,rfl,?_,by rw[hlen];exact g2,g3,?_⟩
 ·simp only[F5,gV,gj,fT,ku];omega
 rw[hlen,List.toList_toArray]
 have g5:=Xi (lo:=lo) g4 Jw (by simpa using aM)
 have e:(gV cs.toList (lo*aj.size α) D).take (xs.length*aj.size α)=(cs.toList.take (xs.length*aj.size α)).take (lo*aj.size α)++D++(cs.toList.take (xs.length*aj.size α)).drop (lo*aj.size α+D.length):=by
  have ar:(cs.toList.take (lo*aj.size α)).length=lo*aj.size α:=by rw[fT];omega
  have aK:(cs.toList.take (lo*aj.size α)++D).length=lo*aj.size α+D.length:=by rw[gj,ar]
  rw[gV,K3,aK,s6 (by omega),sd,pd (by omega),vL]
 rw[e]
 simpa[uS]using g5
def bP.share{a:Act}{W:bq}(s:bP c E L a W){i gh p:Nat}{α:Type}[aj α]{z:α}(ao:look E gh=some (.eq (.pointer (some ⟨p,0,none⟩))))(ax:L[i]? =some ⟨some p,.var z⟩):bP c ((gh,.ptr z)::E) (L.set i ⟨none,.dead⟩) a W:=by
 have hk:=s.kill i;refine {hk with env:=λt τ fh=>?_};simp only[look]at fh;by_cases e:Nat.beq gh t=true
 ·rw[e]at fh;simp only[cond_true,gy]at fh;subst fh;have:=fx.1 e;subst this;obtain⟨v,h1,ae⟩:=s.env gh _ ao;have mB:v=_:=ae;subst mB;obtain⟨o,e3,cs,T,rfl,aE⟩:=s.own _ (e6 ax);have hlen:cs.toList.length=aj.size α:=aj.len aE;refine⟨_,h1,p,0,cs,T,(0,0),rfl,s.HL ax,e3,by simp at hlen;omega,?_⟩;rw[vM,<-hlen,k4];have oc:=Dx (L:=L) (i:=i) (cp:=.dead);exact aj.mono (.drop λk hm=>by
   rcases cz.1 hm with hm|hm
   ·exact cz.2 (.inl (oc.subset hm))
   exact cz.2 (.inr hm)) aE
 simp only[lX]at e;rw[e]at fh;exact hk.env t τ fh
def ad.share{l:aa Oper}{p:Nat}{α:Type}[aj α]{z:α}(i gh:Nat)(ao:look E gh=some (.eq (.pointer (some ⟨p,0,none⟩))))(ax:L[i]? =some ⟨some p,.var z⟩)(k:ad c ops Q l ((gh,.ptr z)::E) (L.set i ⟨none,.dead⟩)):ad c ops Q l E L:=
 λa W s=>k a W (s.share ao ax)
def Al{α β:Type}[aj α][aj β]{F:α->aA β}{f:FuncId}{xs:aa ca}{τs:aa J}(cj:bL c.P f)(an:iF c E L xs τs)(h:∀x r,F x=some r->cE c.P f (.of x::τs) (.of r)):
 bj c E L ⟨d,.makeFunc (.func f) #[] xs.toArray,ty,pos,af,g⟩ (.tB c.P F):=.pure λa W s=>by
 have cB:=an.holds a W s
 refine⟨.func (.func f) #[] (xs.map a.eval).toArray,by simp[execOp,Instr.makeFunc],f,_,_,rfl,cj,λcR W' e eB x r ox lP ba=>?_⟩
 simpa using h x r lP cR W' (ox::xs.map a.eval) eB (.cons ba (cB.mono e))
def J.Flat(τ:J):Prop:=∀A W cR W' v,τ.holds A W v->τ.holds cR W' v
def HD{b:Bool}:(J.of b).Flat:=λ_ _ _ _ _ h=>h
def Ad{b:Int}:(J.of b).Flat:=λ_ _ _ _ _ h=>h
def bj.abA{o:Oper}{τ:J}{T cap:Nat}{key:aA Nat}{α:Type}[aj α]{xs:aa α}(i s:Nat)(ao:look E s=some (.eq (aH key xs.length cap)))(ax:L[i]? =some ⟨key,.row T xs cap⟩)(aW:τ.Flat)
 (h:bj c ((s,.of xs)::E) (L.set i ⟨none,.dead⟩) o τ):bj c E L o τ:=λa W st=>by
 have:=h a W (st.freeze ao ax)
 unfold h0 at this⊢
 exact vP (λiw W' ⟨v,h1,ae,az⟩=>⟨v,h1,ae,aW _ _ _ _ _ az⟩) this
def J.abM{α:Type}(xs:aa α):J where
 holds _ _ v:=∃b:Bool,v=.bool b∧(b=true->xs=[])
 mono _ h:=h
def WT{P:Program}{e:bF}(W:bq)(d:Nat){t:bF}(a:aA Addr)(l cp:Nat)(h:P.underlying t=some (.slice e)):(Op.equalIn (d+1) t (.slice a l cp) (.slice none 0 0)).run P W=.ok a.isNone W:=by
 cases a <;> simp[Op.equalIn,ee h]
def M1{α:Type}[aj α]{xs:aa α}{e:bF}(hu:c.P.underlying t=some (.slice e))(an:aU c E L x (.of xs)):bj c E L ⟨d,.binOp .eql t x (.const (.slice none 0 0)) t2,ty,pos,af,g⟩ (.abM xs):=.pure λa W s=>by
 have aM:a.eval (.const (.slice none 0 0))=.slice none 0 0:=rfl;rcases p3.1 (an a W s)with⟨h1,rfl⟩|⟨b,off,cap,cur,T,jl,h1,ae⟩
 ·exact⟨.bool true,by
   simp only[execOp,eqGuard,binOp,h1,aM,Op.equal,Op.maxDepth];simp[WT W 9999 none 0 0 hu],true,rfl,λ_=>rfl⟩
 exact⟨.bool false,by
  simp only[execOp,eqGuard,binOp,h1,aM,Op.equal,Op.maxDepth];simp[WT W 9999 (some ⟨b,off,none⟩) xs.length cap hu],false,rfl,λh=>by cases h⟩
def ay.M3{α:Type}{y z:Code}{xs:aa α}(ao:aU c E L x (.abM xs))(bE:xs=[]->ay c Q y E L)(aW:ay c Q z E L):ay c Q (.cond x y z) E L:=λa W s=>by
 obtain⟨b,h1,ae⟩:=ao a W s;exact wpIn_cond_split h1 (λh=>bE (ae h) a W s) (λ_=>aW a W s)
end
def bn(c:cC)(ops:Array Oper)(Q:Exit->Act->bq->Prop)(f:Nat)(cb:Array Bool)(E:aa (Nat×J))(L:aa aI):Prop:=
 ∀a W,bP c E L a W->wpAnyIn c.F 9 c.P .any ops Q f cb a W
def pQ(K:Act->bq->Prop)(Q:Exit->Act->bq->Prop):Exit->Act->bq->Prop
 | .normal,a,W=>K a W
 |x,a,W=>Q x a W
def abN:Nat->Nat->aa Bool
 |0,_=>[]
 |n+1,k=>Nat.beq (k % 2) 1::abN n (k/2)
def cu(n k:Nat):Array Bool:=Array.mk (abN n k)
section
variable{c:cC}{E:aa (Nat×J)}{L:aa aI}{ops:Array Oper}{Q:Exit->Act->bq->Prop}
def Oper.ah6{F:Fence}{n:Nat}{P:Program}{o:Oper}{a:Act}{K:Act->bq->Prop}{r:Result Next}(h:o.uponIn F n P a K (pQ K Q) r):o.uponIn F n P a K Q r:=by
 cases r with
 | ok m rf=>
   cases m <;> simp only[Oper.uponIn]at h⊢ <;>
    first
     |exact h
     |exact⟨h.1,CallsIn.mono h.2 (λe vo he=>by cases e <;> exact he)⟩
     |exact⟨h.1,RoundIn.mono h.2 (λe vo he=>by cases e <;> exact he)⟩
 |halt x rf=>cases x <;> simp only[Oper.uponIn]at h⊢ <;> exact h
def Qa{i:Nat}{o:Oper}{K:Act->bq->Prop}{a:Act}{W:bq}(au:ops[i]? =some o)(h:c.tG ops (pQ K Q) [o] a W):wpOpIn c.F 9 c.P ops Q i K a W:=by
 unfold wpOpIn;simp only[au];simp only[cC.tG,wpListIn]at h;split
 ·rename_i hw;rw[bk hw]at h;exact⟨h.1,Oper.ah6 h.2⟩
 rename_i hw;rw[bf hw]at h;exact h
def En(c:cC)(ops:Array Oper)(Q:Exit->Act->bq->Prop)(f:Nat)(cb:Array Bool)(E:aa (Nat×J))(L:aa aI):aa Nat->Prop
 |[]=>True
 |i::r=>(∃o,ops[i]? =some o∧ad c ops (pQ (wpAnyIn c.F 9 c.P .any ops Q f (cb.setIfInBounds i true)) Q) [o] E L)∧En c ops Q f cb E L r
def En.get{f:Nat}{cb:Array Bool}:∀{oy:aa Nat},En c ops Q f cb E L oy->∀i∈oy,∃o,ops[i]? =some o∧ad c ops (pQ (wpAnyIn c.F 9 c.P .any ops Q f (cb.setIfInBounds i true)) Q) [o] E L
 | _::_,h,i,au=>by
   rcases dW.1 au with rfl|au
   ·exact h.1
   exact En.get h.2 i au
def bn.step{f:Nat}{cb:Array Bool}(oy:aa Nat)(aE:Region.ready .any ops cb=oy)(dm:oy.isEmpty=false)(h:En c ops Q f cb E L oy):bn c ops Q (f+1) cb E L:=λa W s=>
 ⟨λbJ=>(by rw[<-aE,bJ]at dm;exact absurd dm (by simp)),λi au=>(by
  rw[aE]at au;obtain⟨o,h1,ae⟩:=h.get i au;exact Qa h1 (ae a W s))⟩
def bn.last{f:Nat}{cb:Array Bool}(aE:Region.ready .any ops cb=[])(h:aq c Q .normal E L):bn c ops Q f cb E L:=λa W s=>by
 cases f with
 |zero=>exact⟨aE,h a W s⟩
 |succ f=>exact⟨λ_=>h a W s,λi au=>(by rw[aE]at au;exact absurd au (by simp))⟩
def bn.le{f:Nat}{cb:Array Bool}{E':aa (Nat×J)}(h:eZ E E')(k:bn c ops Q f cb E' L):bn c ops Q f cb E L:=λa W s=>k a W (s.less h.look)
def aq.any{f:Nat}{cb tg:Array Bool}(ao:cb=tg)(k:bn c ops Q f tg E L):aq c (pQ (wpAnyIn c.F 9 c.P .any ops Q f cb) Q) .normal E L:=λa W s=>by
 subst ao;exact k a W s
def aq.bo{f:Nat}{cb tg:Array Bool}{E':aa (Nat×J)}(k:bn c ops Q f tg E' L)(h:eZ E E':=by repeat (first|exact eZ.nil|refine eZ.same I ?_))(ao:cb=tg:=by kernel_rfl):aq c (pQ (wpAnyIn c.F 9 c.P .any ops Q f cb) Q) .normal E L:=.any ao (.le h k)
def bn.gD{f:Nat}{cb:Array Bool}(oy:aa Nat)(h:En c ops Q f cb E L oy)(aE:Region.ready .any ops cb=oy:=by kernel_rfl)(dm:oy.isEmpty=false:=by rfl):bn c ops Q (f+1) cb E L:=.step oy aE dm h
def ay.MW{kj:Nat}{l:aa Oper}(hm:c.P.follows .mixedOrders=true)(n:Nat)(ls:Array Bool)(aM:l.length=n)(Jx:Array.replicate n false=ls)(h:bn c l.toArray Q n ls E L):ay c Q (.region kj l.toArray true) E L:=λa W s=>by
 subst aM Jx;refine wpIn_region_any hm ?_;have:=h a W.drew (s.world (Fr.drew W));simpa using this
end
section
variable{c:cC}{E:aa (Nat×J)}{L:aa aI}{ops:Array Oper}{Q:Exit->Act->bq->Prop}
variable{d:aA Tmp}{ty:bF}{pos:String}{af:Array Edge}{g:aA (Nat×Bool)}{x y:ca}{t t2:bF}
def ad.qd{α:Type}[aj α]{rest:aa Oper}{bc e n:Nat}{z:α}{r:aa α}{ec:aa (Nat×ca)}(hu:c.P.underlying t=some (.slice e))(eM:bS c.P e α)(gT:dx c.P e z)(hs:Nat.beq (aj.size α) 0=false)(aM:Nat.ble (n*aj.size α) 16777216=true)
 (aW:pv c E L (List.replicate n z) ec r) (kc:Nat.blt bc c.n=true) (k:∀p,ad c ops Q rest ((bc,.eq (aH p r.length n))::E) (⟨p,.row e r n⟩::L)):
 ad c ops Q (⟨some bc,.buildSlice t n ec.toArray,ty,pos,af,none⟩::rest) E L:=λa W s=>by
 obtain⟨gH,ed,eo,b2,vq⟩:=gT.zero
 have qj:gH.size=aj.size α:=by
  obtain⟨i2,h1,ae⟩:=eM.info;rw[eo]at h1;cases h1;exact ae
 have jX:aj.size α≠0:=λh=>by rw[h]at hs;cases hs
 have tJ:=HE (vq (ks L++c.b3) W) n jX
 obtain⟨eW,az,aQ,a7⟩:=aW.run a W s _ tJ
 have hlen:r.length=n:=by rw[a7];simp
 have hm:(ec.toArray.map λ(x:Nat×ca)=>(x.1,a.eval x.2)).toList=ec.map λ(i,x)=>(i,a.eval x):=by simp
 have aqw:=pb aM
 refine iO I (R:=λv W'=>v=.slice (some ⟨W.heap.size,0,none⟩) n n∧W'=W.alloc (.cells eW e)) (.mV (v:=.slice (some ⟨W.heap.size,0,none⟩) n n) (W':=W.alloc (.cells eW e)) ?_ ⟨rfl,rfl⟩) λv W' ⟨h1,ae⟩=>?_
 ·simp only[execOp,Instr.buildSlice,dU,ee hu,Result.andThen_ok,Go.sizeOf,typeInfo,run_program,eo,Sem.run_pure,qj]
  rw[bf (by omega)]
  try simp only[Sem.run_pure,Result.andThen_ok,dU]
  by_cases bJ:n*aj.size α=0
  ·have vp:n=0:=by
    rcases Nat.mul_eq_zero.1 bJ with h|h
    ·exact h
    exact absurd h jX
   subst vp
   simp only[zG,lY,Sem.run_pure,Result.andThen_ok]
   try simp only[zG]at az
   have fo:((Array.range 0).map (λx=>(#[]:Array bt)[x % (#[]:Array bt).size]!))=((Array.range 0).map (ed.cells[· % ed.cells.size]!)):=by simp
   simp only[pure_bind]
   rw[fo,hm,az]
   simp[newRow]
  simp only[bJ,n0,dU,zeroValue,typeInfo,run_program,Result.andThen_ok,eo,b2,Sem.run_pure]
  rw[hm,az]
  simp[newRow]
 subst h1 ae
 have yi:n<=maxLen:=by
  have:n*1<=n*aj.size α:=KR _ (by omega);have:maxLen=9223372036854775807:=rfl;omega
 have dR:eW.size=n*aj.size α:=by have:=aQ.1;rw[hlen]at this;simpa using this
 have cH:=s.alloc (o:=.cells eW e) (cp:=.row e r n) ⟨eW,rfl,dR,by omega,yi,by
  have bp:=aQ.1;rw[<-bp,k4];exact aQ⟩
 refine k (some W.heap.size) _ _ (cH.put (τ:=.eq (aH (some W.heap.size) r.length n)) (by simpa using kc) ?_)
 show _=_
 rw[hlen];rfl
def ad.hv{l:aa Oper}{key:aA Nat}{n m cap:Nat}(gh:Nat)(ao:look E gh=some (.eq (aH key n cap)))(aM:n=m)(k:ad c ops Q l ((gh,.eq (aH key m cap))::E) L):ad c ops Q l E L:=λa W s=>by
 subst aM;refine k a W (s.less λt τ h=>?_);simp only[look]at h;by_cases e:Nat.beq gh t=true
 ·rw[e]at h;simp only[cond_true]at h;have:=fx.1 e;subst this;exact⟨τ,by rw[ao,h],λ_ _ _ h=>h⟩
 simp only[lX]at e;rw[e]at h;exact⟨τ,h,λ_ _ _ h=>h⟩
end
def hW{α:Type}{xs r:aa α}{k:Nat}{v:α}(h:dr xs k v=r):xs.length=r.length:=by rw[<-h];simp[dr]
def L5{α:Type}{b:Nat}{r:aa α}(h:((e8 b [] ([]:aa α)).bind λy=>some y)=some r):r=[]:=by
 obtain⟨y,h1,ae⟩:=bind_some h;obtain⟨_,_,az⟩:=Xf h1;rw[az]at ae;exact(di ae).symm
def l7:bt:=.slice none 0 0
def blank:aa (Nat×bt)->aa bt->aa bt
 |[],cs=>cs
 |o::r,cs=>blank r (cs.set o.1 l7)
def Hw:∀{os:aa (Nat×bt)} {cs:aa bt},(blank os cs).length=cs.length
 |[],_=>rfl
 |o::r,cs=>by rw[blank,Hw,pe]
def uG:∀{os:aa (Nat×bt)} {cs:aa bt} (i:Nat),(blank os cs)[i]? =if os.any (λh=>Nat.beq h.1 i)=true then cs[i]?.map (λ_=>l7)else cs[i]?
 |[],_,i=>by simp[blank]
 | o::r,cs,i=>by
   rw[blank,uG i,List.any_cons];by_cases h:o.1=i
   ·subst h;simp only[nZ,PU,lY,pR];by_cases ao:o.1<cs.length
    ·simp[ao]
    simp[ao]
   have hb:Nat.beq o.1 i=false:=by
    cases hb:Nat.beq o.1 i
    ·rfl
    exact absurd (fx.1 hb) h
   rw[hb,vN,vG h]
def uW(os:aa (Nat×bt))(off n:Nat):Bool:=os.all λh=>Nat.blt h.1 off||Nat.ble (off+n) h.1
def WU{os:aa (Nat×bt)}{off n i:Nat}(h:uW os off n=true)(h1:off<=i)(ae:i<off+n):os.any (λh=>Nat.beq h.1 i)=false:=by
 rw[xp];intro x an hb;have az:=ns.1 h x an;have aQ:=fx.1 hb;simp only[nW,Nat.blt_eq,Nat.ble_eq]at az;omega
def ah7{os:aa (Nat×bt)}{off n:Nat}{cs:aa bt}(h:uW os off n=true):((blank os cs).drop off).take n=(cs.drop off).take n:=by
 apply mL;intro i;simp only[k3,mo];split
 ·rw[uG,WU h (by omega) (by omega)];rfl
 rfl
def zZ{cs ds:aa bt}{off:Nat}(h:off+ds.length<=cs.length)(i:Nat):(gV cs off ds)[i]? =if i<off then cs[i]? else if i<off+ds.length then ds[i-off]? else cs[i]? :=by
 have h1:(cs.take off).length=off:=by rw[fT];omega
 unfold gV;rw[jE];by_cases au:i<off
 ·rw[bk au,KG (by omega),k3,bk au]
 rw[bf au,US (by omega),h1];by_cases ae:i<off+ds.length
 ·rw[bk ae,KG (by omega)]
 rw[bf ae,US (by omega),mo];congr 1;omega
def agw{os:aa (Nat×bt)}{off:Nat}{cs ds:aa bt}(h:uW os off ds.length=true)(hs:off+ds.length<=cs.length):blank os (gV cs off ds)=gV (blank os cs) off ds:=by
 apply mL;intro i;rw[uG,zZ hs,zZ (by rw[Hw];exact hs),uG];by_cases h1:i<off
 ·simp only[bk h1]
 simp only[bf h1];by_cases ae:i<off+ds.length
 ·simp only[bk ae,WU h (Nat.not_lt.1 h1) ae];rfl
 simp only[bf ae]
def xO(os:aa (Nat×bt))(o:Nat)(u:bt):aa (Nat×bt):=
 bif os.any (λh=>Nat.beq h.1 o)then os.map (λh=>bif Nat.beq h.1 o then(o,u)else h)else(o,u)::os
def agY{os:aa (Nat×bt)}{o:Nat}{u:bt}{h:Nat×bt}(hm:h∈xO os o u):h=(o,u)∨(h∈os∧h.1≠o):=by
 unfold xO at hm;cases hb:os.any (λh=>Nat.beq h.1 o)
 ·rw[hb]at hm;simp only[cond_false]at hm;rcases dW.1 hm with hm|hm
  ·exact .inl hm
  refine .inr ⟨hm,λe=>?_⟩;have:=xp.1 hb h hm;exact this (fx.2 e)
 rw[hb]at hm;simp only[cond_true]at hm;obtain⟨x,an,he⟩:=gJ.1 hm;cases h1:Nat.beq x.1 o
 ·rw[h1]at he;simp only[cond_false]at he;subst he;exact .inr ⟨an,λe=>by rw[fx.2 e]at h1;cases h1⟩
 rw[h1]at he;exact .inl he.symm
def agZ{os:aa (Nat×bt)}{o i:Nat}{u:bt}:(xO os o u).any (λh=>Nat.beq h.1 i)=(Nat.beq o i||os.any (λh=>Nat.beq h.1 i)):=by
 unfold xO;cases hb:os.any (λh=>Nat.beq h.1 o)
 ·simp only[cond_false,List.any_cons]
 simp only[cond_true,List.any_map];rw[oG,nW,pc,pc];constructor
 ·rintro ⟨x,an,he⟩;simp only[Function.comp]at he;cases h1:Nat.beq x.1 o
  ·rw[h1]at he;exact .inr ⟨x,an,he⟩
  rw[h1]at he;exact .inl he
 rintro (h|⟨x,an,he⟩)
 ·obtain⟨x,an,h1⟩:=pc.1 hb;exact⟨x,an,by simp only[Function.comp,h1,cond_true];exact h⟩
 refine⟨x,an,?_⟩;simp only[Function.comp];cases h1:Nat.beq x.1 o
 ·exact he
 have ar:=fx.1 h1;have aK:=fx.1 he;simp only[cond_true];exact fx.2 (by omega)
def uM(os:aa (Nat×bt))(o:Nat):aa (Nat×bt):=os.filter (λh=> !Nat.beq h.1 o)
def ag0{os:aa (Nat×bt)}{o i:Nat}:(uM os o).any (λh=>Nat.beq h.1 i)=(!(Nat.beq o i)&&os.any (λh=>Nat.beq h.1 i)):=by
 rw[oG];simp only[pc,gq,zq,uM,uw];constructor
 ·rintro ⟨x,⟨h1,ae⟩,az⟩;refine⟨?_,x,h1,az⟩;cases hb:Nat.beq o i
  ·rfl
  have:=fx.1 hb;have aQ:=fx.1 az;rw[aQ,<-this,nZ]at ae;cases ae
 rintro ⟨bJ,x,h1,az⟩;refine⟨x,⟨h1,?_⟩,az⟩;cases hb:Nat.beq x.1 o
 ·rfl
 have:=fx.1 hb;have aQ:=fx.1 az;rw[<-this,aQ,nZ]at bJ;cases bJ
def nF{α:Type}[aj α](A:aa Nat)(W:bq)(cs:aa bt)(x:α)(os:aa (Nat×bt)):Prop:=aj.rep A W (blank os cs) x∧∀h∈os,cs[h.1]? =some h.2∧h.2.oneCell'=true
def nF.len{α:Type}[aj α]{A W}{cs:aa bt}{x:α}{os:aa (Nat×bt)}(h:nF A W cs x os):cs.length=aj.size α:=by rw[<-Hw (os:=os)];exact aj.len h.1
def nF.mono{α:Type}[aj α]{A W cR W'}{cs:aa bt}{x:α}{os:aa (Nat×bt)}(e:Ext A W cR W')(h:nF A W cs x os):nF cR W' cs x os:=⟨aj.mono e h.1,h.2⟩
def nF.one{α:Type}[aj α]{A W}{cs:aa bt}{x:α}{os:aa (Nat×bt)}(h:nF A W cs x os):∀u∈cs,u.oneCell'=true:=by
 intro u hu;obtain⟨i,au⟩:=oE.1 hu;by_cases hb:os.any (λh=>Nat.beq h.1 i)=true
 ·obtain⟨o,a8,he⟩:=pc.1 hb;have he:=fx.1 he;obtain⟨h1,ae⟩:=h.2 o a8;rw[he,au]at h1;cases h1;exact ae
 have h1:=uG (os:=os) (cs:=cs) i;rw[bf hb,au]at h1;exact aj.one h.1 u (e6 h1)
def eL.bX{α:Type}[aj α](x:α)(os:aa (Nat×bt)):eL where
 holds A W o:=∃cs T,o=.cells cs T (0,0)∧nF A W cs.toList x os
 pC:=False
 mono e h:=let⟨cs,T,a8,aE⟩:=h; ⟨cs,T,a8,aE.mono e⟩
def J.B5{α:Type}[aj α](x:α)(os:aa (Nat×bt)):J where
 holds A W v:=shaped (aj.agg α) v∧nF A W v.cells.toList x os
 mono e h:=⟨h.1,h.2.mono e⟩
structure eJ where
 v:Value
instance:aj eJ where
 size:=1
 agg:=false
 rep _ _ cs x:=cs=[x.v]∧x.v.oneCell'=true
 len h:=by rw[h.1];rfl
 one h:=by rw[h.1];intro u hu;rw[hi.1 hu];exact h.2
 flat _:=rfl
 mono _ h:=h
def yb{A W v}{u:bt}:(J.of (⟨u⟩:eJ)).holds A W v↔v=u∧u.oneCell'=true:=by
 constructor
 ·rintro ⟨h1,ae,az⟩;have h1:v.oneCell'=true:=h1;exact⟨oJ h1 ae,az⟩
 rintro ⟨rfl,h⟩;exact⟨h,by show v.cells.toList=[v]∧_;rw[cells_one h];exact⟨rfl,h⟩⟩
theorem bS.ex{P:Program}{t:bF}{γ:Type}[aj γ](h:bS P t (aa γ)):bS P t eJ:=⟨h.size,h.acD⟩
def ho{key:aA Nat}{n cap:Nat}:(aH key n cap).oneCell'=true:=by cases key <;> rfl
def akq{A W}{γ:Type}[aj γ]:aj.rep A W [l7] ([]:aa γ):=⟨l7,rfl,.inl ⟨rfl,rfl⟩⟩
def XQ{α γ:Type}[aj α][aj γ]{A W}{cs ds:aa bt}{x:α}{v:γ}{os:aa (Nat×bt)}(l:aP α γ)(h:nF A W cs x os)(hd:aj.rep A W ds v)(aY:uW os l.off (aj.size γ)=true):nF A W (gV cs l.off ds) (l.set x v) os:=by
 have h1:=h.len;have fQ:=l.ha;have ao:=aj.len hd;refine⟨?_,λo hm=>?_⟩
 ·have bp:=l.n1 h.1 hd;rw[agw (by rw[ao];exact aY) (by rw[ao];omega)];simpa[gV,ao]using bp
 refine⟨?_,(h.2 o hm).2⟩;rw[zZ (by rw[ao];omega)];have cO:=ns.1 aY o hm;simp only[nW,Nat.blt_eq,Nat.ble_eq]at cO;rw[ao];by_cases dJ:o.1<l.off
 ·rw[bk dJ];exact(h.2 o hm).1
 rw[bf dJ,bf (by omega)];exact(h.2 o hm).1
def Xj{α γ:Type}[aj α][aj γ]{A W}{cs:aa bt}{x:α}{u:bt}{os:aa (Nat×bt)}(l:aP α (aa γ))(h:nF A W cs x os)(hu:u.oneCell'=true):nF A W (gV cs l.off [u]) (l.set x []) (xO os l.off u):=by
 have h1:=h.len;have fQ:l.off+1<=aj.size α:=l.ha;refine⟨?_,λo hm=>?_⟩
 ·have bp:aj.rep A W ((blank os cs).take l.off++[l7]++(blank os cs).drop (l.off+1)) (l.set x []):=l.n1 h.1 (akq (γ:=γ));have e:blank (xO os l.off u) (gV cs l.off [u])=gV (blank os cs) l.off [l7]:=by
   apply mL;intro i;rw[uG,zZ (by simp;omega),zZ (by rw[Hw];simp;omega),uG];rw[agZ];by_cases au:l.off=i
   ·subst au;simp
   have hb:Nat.beq l.off i=false:=by
    cases hb:Nat.beq l.off i
    ·rfl
    exact absurd (fx.1 hb) au
   rw[hb];simp only[vN,List.length_singleton];by_cases ae:i<l.off
   ·simp only[bk ae]
   have e5: ¬i<l.off+1:=by omega
   simp only[bf ae,bf e5]
  rw[e];simpa[gV]using bp
 rw[zZ (by simp;omega)];rcases agY hm with rfl|⟨az,dm⟩
 ·exact⟨by simp,hu⟩
  
 simp only[List.length_singleton]
 refine⟨?_,(h.2 o az).2⟩
 by_cases dJ:o.1<l.off
 ·rw[bk dJ];exact(h.2 o az).1
 rw[bf dJ,bf (by omega)];exact(h.2 o az).1
def Xk{α γ:Type}[aj α][aj γ]{A W}{cs:aa bt}{x:α}{u:bt}{xs:aa γ}{os:aa (Nat×bt)}(l:aP α (aa γ))(h:nF A W cs x os)(hm:(l.off,u)∈os)(hs:ri A W u xs):nF A W cs (l.set x xs) (uM os l.off):=by
 have h1:=h.len;have fQ:l.off+1<=aj.size α:=l.ha;have asl:=(h.2 _ hm).1;refine⟨?_,λo a8=>h.2 o (uw.1 a8).1⟩;have bp:aj.rep A W ((blank os cs).take l.off++[u]++(blank os cs).drop (l.off+1)) (l.set x xs):=l.n1 h.1 (ds:=[u]) (g:=xs) ⟨u,rfl,hs⟩;have e:blank (uM os l.off) cs=gV (blank os cs) l.off [u]:=by
  apply mL;intro i;rw[uG,zZ (by rw[Hw];simp;omega),uG,ag0];by_cases au:l.off=i
  ·subst au;simp[asl]
  have hb:Nat.beq l.off i=false:=by
   cases hb:Nat.beq l.off i
   ·rfl
   exact absurd (fx.1 hb) au
  rw[hb];simp only[Bool.not_false,vO,List.length_singleton];by_cases ae:i<l.off
  ·simp only[bk ae]
  have e5: ¬i<l.off+1:=by omega
  simp only[bf ae,bf e5]
 rw[e];simpa[gV]using bp
section
variable{c:cC}{E:aa (Nat×J)}{L:aa aI}{ops:Array Oper}{Q:Exit->Act->bq->Prop}
variable{d:aA Tmp}{ty:bF}{pos:String}{af:Array Edge}{g:aA (Nat×Bool)}{x y:ca}{t t2:bF}
def bP.D4{a:Act}{W:bq}(s:bP c E L a W){i:Nat}{key:aA Nat}{cp cp':eL}(ax:L[i]? =some ⟨key,cp⟩)(h:∀o,cp.holds (ks L++c.b3) W o->cp'.holds (ks L++c.b3) W o)(aM:cp.pC->cp'.pC):bP c E (L.set i ⟨key,cp'⟩) a W:=by
 have fP:ks (L.set i ⟨key,cp'⟩)=ks L:=MH (e:=⟨key,cp⟩) (cp:=cp') ax;exact
 {defers:=s.defers
  size:=s.size
  env:=λt τ ao=>by rw[fP];exact s.env t τ ao
  dI:=s.dI
  own:=λe he=>by
   rw[fP];obtain⟨j,aC⟩:=oE.1 he;rw[pR]at aC;split at aC
   ·split at aC
    ·simp only[gy]at aC;subst aC;have a8:=s.own _ (e6 ax);cases key with
     |none=>exact aM a8
     |some p=>obtain⟨o,h1,ae⟩:=a8;exact⟨o,h1,h _ ae⟩
    cases aC
   exact s.own e (e6 aC)
  nodup:=by rw[fP];exact s.nodup
  lt:=by rw[fP];exact s.lt
  fO:=by rw[fP];exact s.fO
  eG:=by rw[fP];exact s.eG}
def ad.Tl{l:aa Oper}{p:Nat}{β:Type}[aj β]{b:β}(i:Nat)(ax:L[i]? =some ⟨some p,.var b⟩)(k:ad c ops Q l E (L.set i ⟨some p,.bX b []⟩)):ad c ops Q l E L:=λa W s=>
 k a W (s.D4 ax (λo ⟨cs,T,h1,ae⟩=>⟨cs,T,h1,ae,λ_ h=>by cases h⟩) id)
def ad.n3{l:aa Oper}{p:Nat}{β:Type}[aj β]{b:β}(i:Nat)(ax:L[i]? =some ⟨some p,.bX b []⟩)(k:ad c ops Q l E (L.set i ⟨some p,.var b⟩)):ad c ops Q l E L:=λa W s=>
 k a W (s.D4 ax (λo ⟨cs,T,h1,ae⟩=>⟨cs,T,h1,ae.1⟩) id)
def aq.n3{z:Exit}{p:Nat}{β:Type}[aj β]{b:β}(i:Nat)(ax:L[i]? =some ⟨some p,.bX b []⟩)(k:aq c Q z E (L.set i ⟨some p,.var b⟩)):aq c Q z E L:=λa W s=>
 k a W (s.D4 ax (λo ⟨cs,T,h1,ae⟩=>⟨cs,T,h1,ae.1⟩) id)
def RM:aA bt->Bool
 |some (.slice none 0 0)=>true
 |_=>false
def WV{v:aA bt}(h:RM v=true):v=some l7:=by
 unfold RM at h;split at h
 ·rfl
 cases h
def jm(P:Program)(t:bF)(hs:aa Nat):Prop:=((P.info? t).bind (·.zero)).any (λv=>hs.all λo=>RM v.cells.toList[o]?)=true
def Qh:∀{os:aa (Nat×bt)} {cs:aa bt},(∀h∈os,cs[h.1]? =some l7)->blank os cs=cs
 |[],_,_=>rfl
 | o::r,cs,h=>by
   have h1:=h o (by simp);have e:cs.set o.1 l7=cs:=by
    apply mL;intro i;rw[pR];split
    ·rename_i he;subst he;have:=(hh.1 h1).1;rw[bk this,h1]
    rfl
   rw[blank,e];exact Qh λx an=>h x (by simp[an])
def ad.oL{rest:aa Oper}{bc:Nat}{α:Type}[aj α]{z:α}(hs:aa Nat)(xc:jm c.P t hs)(gT:dx c.P t z)(aM:Nat.blt bc c.n=true)
 (k:∀p,ad c ops Q rest ((bc,.eq (.pointer (some ⟨p,0,none⟩)))::E) (⟨some p,.bX z (hs.map λo=>(o,l7))⟩::L)):ad c ops Q (⟨some bc,.alloc t,ty,pos,af,none⟩::rest) E L:=λa W s=>by
 obtain⟨i,ed,h1,ae,az⟩:=gT.zero
 have cB:∀o∈hs,ed.cells.toList[o]? =some l7:=λo a8=>by
  unfold jm at xc;rw[h1]at xc;simp only[Option.bind_some,ae,Option.any_some]at xc;exact WV (ns.1 xc o a8)
 have acI:∀h∈hs.map (λo=>(o,l7)),ed.cells.toList[h.1]? =some h.2:=λh hm=>by
  obtain⟨o,a8,rfl⟩:=gJ.1 hm;exact cB o a8
 refine iO I (R:=λv W'=>v=.pointer (some ⟨W.heap.size,0,none⟩)∧W'=W.alloc (.cells ed.cells t)) (.mV ?_ ⟨rfl,rfl⟩) λv W' ⟨ba,hw⟩=>?_
 ·simp[execOp,Instr.alloc,zeroValue,typeInfo,h1,ae,newVar,newRow]
 subst ba
 subst hw
 refine k _ _ _ ((s.alloc (cp:=.bX z (hs.map λo=>(o,l7))) ⟨ed.cells,t,rfl,?_,λh hm=>⟨acI h hm,by obtain⟨o,_,rfl⟩:=gJ.1 hm;rfl⟩⟩).put (by simpa using aM) I)
 rw[Qh λh hm=>by rw[acI h hm];obtain⟨o,_,rfl⟩:=gJ.1 hm;rfl]
 exact(az _ _).2
def ad.aa9{rest:aa Oper}{bc:Nat}{α:Type}[aj α]{z:α}{os:aa (Nat×bt)}(an:aU c E L x (.B5 z os))(aM:Nat.blt bc c.n=true)
 (k:∀p,ad c ops Q rest ((bc,.eq (.pointer (some ⟨p,0,none⟩)))::E) (⟨some p,.bX z os⟩::L)):ad c ops Q (⟨some bc,.box t x,ty,pos,af,none⟩::rest) E L:=λa W s=>by
 refine iO I (R:=λv W'=>v=.pointer (some ⟨W.heap.size,0,none⟩)∧W'=W.alloc (.cells (a.eval x).cells t)) (.mV ?_ ⟨rfl,rfl⟩) λv W' ⟨ba,hw⟩=>?_
 ·simp[execOp,Instr.box,newVar,newRow]
 subst ba
 subst hw
 obtain⟨h1,ae⟩:=an a W s
 exact k _ _ _ ((s.alloc (cp:=.bX z os) ⟨_,t,rfl,ae⟩).put (by simpa using aM) I)
def Ml{t:bF}{i p o:Nat}{β γ:Type}[aj β][aj γ]{b:β}{os:aa (Nat×bt)}(l:aP β γ){r:γ}(dP:bS c.P t γ)(an:aU c E L x (.eq (.pointer (some ⟨p,o,none⟩))))
 (ax:L[i]? =some ⟨some p,.bX b os⟩) (a8:o=l.off) (aE:l.get b=r) (aY:uW os l.off (aj.size γ)=true):bj c E L ⟨d,.load t x,ty,pos,af,g⟩ (.of r):=.pure λa W s=>by
 subst a8
 subst aE
 obtain⟨pO,e3,cs,T,rfl,fV⟩:=s.own _ (e6 ax)
 have h1:cs.toList.length=aj.size β:=fV.len
 have a7:=l.jT fV.1
 rw[ah7 aY]at a7
 obtain⟨v,ae,az⟩:=zM (A:=ks L++c.b3) dP e3 (by have:=l.ha;simp at h1;omega) a7
 refine⟨v,?_,az⟩
 have aQ:a.eval x=_:=an a W s
 simp[execOp,Instr.loadAt,Instr.sureAddr,aQ,ae]
def akr{cs:aa bt}{o:Nat}{u:bt}(h:cs[o]? =some u):(cs.drop o).take 1=[u]:=by
 apply mL;intro i;rw[k3,mo];cases i with
 |zero=>simpa using h
 |succ i=>simp
def dn{t:bF}{i p o q:Nat}{β γ:Type}[aj β][aj γ]{b:β}{os:aa (Nat×bt)}{u:bt}(dP:bS c.P t (aa γ))(an:aU c E L x (.eq (.pointer (some ⟨p,o,none⟩))))
 (ax:L[i]? =some ⟨some p,.bX b os⟩) (hq:os[q]? =some (o,u)):bj c E L ⟨d,.load t x,ty,pos,af,g⟩ (.eq u):=.pure λa W s=>by
 obtain⟨pO,e3,cs,T,rfl,fV,cB⟩:=s.own _ (e6 ax)
 obtain⟨a7,hu⟩:=cB _ (e6 hq)
 have ch:o<cs.size:=by have:=(hh.1 a7).1;simpa using this
 obtain⟨v,ae,az⟩:=zM (α:=eJ) (x:=⟨u⟩) (A:=ks L++c.b3) dP.ex e3 (show o+1<=cs.size by omega) ⟨akr a7,hu⟩
 refine⟨v,?_,(yb.1 az).1⟩
 have aQ:a.eval x=_:=an a W s
 simp[execOp,Instr.loadAt,Instr.sureAddr,aQ,ae]
def ad.p5{t:bF}{rest:aa Oper}{i p o:Nat}{β γ:Type}[aj β][aj γ]{b b':β}{v:γ}{os:aa (Nat×bt)}(l:aP β γ)(dP:bS c.P t γ)(an:aU c E L x (.eq (.pointer (some ⟨p,o,none⟩))))
 (hy:aU c E L y (.of v)) (ax:L[i]? =some ⟨some p,.bX b os⟩) (a8:o=l.off) (hb:l.set b v=b') (aY:uW os l.off (aj.size γ)=true)
 (k:ad c ops Q rest E (L.set i ⟨some p,.bX b' os⟩)):ad c ops Q (⟨none,.store t x y,ty,pos,af,none⟩::rest) E L:=λa W s=>by
 subst a8
 subst hb
 obtain⟨pO,e3,cs,T,rfl,fV⟩:=s.own _ (e6 ax)
 have h1:cs.toList.length=aj.size β:=fV.len
 have fQ:=l.ha
 have ba:=hy a W s
 have ae:=LG (A:=ks L++c.b3) dP e3 (off:=l.off) (by simp at h1;omega) ba
 have aQ:a.eval x=_:=an a W s
 refine iO I (R:=λv W'=>W'=W.setRow p (gV cs.toList l.off (a.eval y).cells.toList).toArray) (.DV ?_ I) λv W' hw=>?_
 ·simp[execOp,Instr.storeAt,Instr.sureAddr,aQ,ae]
 subst hw
 exact k _ _ (s.store ax e3 ⟨_,T,rfl,by rw[List.toList_toArray];exact XQ l fV ba.2 aY⟩)
def ad.ik{t:bF}{rest:aa Oper}{i p o:Nat}{β γ:Type}[aj β][aj γ]{b b':β}{u:bt}{os os':aa (Nat×bt)}(l:aP β (aa γ))(dP:bS c.P t (aa γ))(an:aU c E L x (.eq (.pointer (some ⟨p,o,none⟩))))
 (hy:aU c E L y (.eq u)) (hu:u.oneCell'=true) (ax:L[i]? =some ⟨some p,.bX b os⟩) (a8:o=l.off) (hb:l.set b []=b') (rW:xO os o u=os')
 (k:ad c ops Q rest E (L.set i ⟨some p,.bX b' os'⟩)):ad c ops Q (⟨none,.store t x y,ty,pos,af,none⟩::rest) E L:=λa W s=>by
 subst a8
 subst hb
 subst rW
 obtain⟨pO,e3,cs,T,rfl,fV⟩:=s.own _ (e6 ax)
 have h1:cs.toList.length=aj.size β:=fV.len
 have fQ:l.off+1<=aj.size β:=l.ha
 have acJ:a.eval y=u:=hy a W s
 have ba:(J.of (⟨u⟩:eJ)).holds (ks L++c.b3) W (a.eval y):=yb.2 ⟨acJ,hu⟩
 have ae:=LG (A:=ks L++c.b3) dP.ex e3 (off:=l.off) (show l.off+1<=cs.size by simp at h1;omega) ba
 have aQ:a.eval x=_:=an a W s
 have lh:(a.eval y).cells.toList=[u]:=by rw[acJ,cells_one hu]
 rw[lh]at ae
 refine iO I (R:=λv W'=>W'=W.setRow p (gV cs.toList l.off [u]).toArray) (.DV ?_ I) λv W' hw=>?_
 ·simp[execOp,Instr.storeAt,Instr.sureAddr,aQ,ae]
 subst hw
 exact k _ _ (s.store ax e3 ⟨_,T,rfl,by rw[List.toList_toArray];exact Xj l fV hu⟩)
def af2{P:Program}{W:bq}{b off:Nat}{cur:Array bt}{T t:bF}{α:Type}[aj α]{v:bt}(ty:bS P t α)
 (hb:W.heap[b]? =some (.cells cur T (0,0))) (hs:off+aj.size α<=cur.size) (ao:v.cells.toList.length=aj.size α) (h1:∀u∈v.cells.toList,u.oneCell'=true):
 (storeVar t ⟨b,off,none⟩ v).run P W=.ok () (W.setRow b (gV cur.toList off v.cells.toList).toArray):=by
 have ae:=F6 P b off T v.cells.toList 0 cur W hb (by rw[ao];omega) h1
 have dR:v.cells.size=aj.size α:=by simpa using ao
 simp only[Nat.add_zero]at ae
 simp only[storeVar,dU,ty.sizeOf,Result.andThen_ok,dR]
 simp only[ne_eq,not_true_eq_false,↓reduceIte,Sem.run_pure,dU,Result.andThen_ok]
 simpa[gV]using ae
def ad.rE{t:bF}{rest:aa Oper}{i p:Nat}{β:Type}[aj β]{b b':β}{os os':aa (Nat×bt)}(dP:bS c.P t β)(an:aU c E L x (.eq (.pointer (some ⟨p,0,none⟩))))
 (hy:aU c E L y (.B5 b' os')) (ax:L[i]? =some ⟨some p,.bX b os⟩)
 (k:ad c ops Q rest E (L.set i ⟨some p,.bX b' os'⟩)):ad c ops Q (⟨none,.store t x y,ty,pos,af,none⟩::rest) E L:=λa W s=>by
 obtain⟨pO,e3,cs,T,rfl,fV⟩:=s.own _ (e6 ax)
 have h1:cs.toList.length=aj.size β:=fV.len
 obtain⟨g1,g2⟩:=hy a W s
 have ao:=g2.len
 have ae:=af2 dP e3 (off:=0) (by simp at h1;omega) ao g2.one
 have aQ:a.eval x=_:=an a W s
 have e:gV cs.toList 0 (a.eval y).cells.toList=(a.eval y).cells.toList:=by
  unfold gV;rw[List.take_zero,List.nil_append,jQ,ao,<-h1,xq,mM]
 rw[e]at ae
 refine iO I (R:=λv W'=>W'=W.setRow p (a.eval y).cells.toList.toArray) (.DV ?_ I) λv W' hw=>?_
 ·simp[execOp,Instr.storeAt,Instr.sureAddr,aQ,ae]
 subst hw
 exact k _ _ (s.store ax e3 ⟨_,T,rfl,by rw[List.toList_toArray];exact g2⟩)
def ajW{t:bF}{i p:Nat}{β:Type}[aj β]{b:β}{os:aa (Nat×bt)}(dP:bS c.P t β)(aY:aj.agg β=true)(an:aU c E L x (.eq (.pointer (some ⟨p,0,none⟩))))
 (ax:L[i]? =some ⟨some p,.bX b os⟩):bj c E L ⟨d,.load t x,ty,pos,af,g⟩ (.B5 b os):=.pure λa W s=>by
 obtain⟨pO,e3,cs,T,rfl,fV⟩:=s.own _ (e6 ax)
 have tk:∀j v,cs.toList[j]? =some v->W.cell? ((⟨p,0,none⟩:Addr).add j)=some v:=by
  intro j v ba;rw[kg,zI W p (0+j) cs T (0,0) e3,jQ];simpa using ba
 have h1:=CT (P:=c.P) W ⟨p,0,none⟩ _ tk
 rw[fV.len]at h1
 have aQ:a.eval x=_:=an a W s
 refine⟨.agg cs.toList.toArray,?_,by simp[shaped,aY],by simpa[Value.cells]using fV⟩
 simp[execOp,Instr.loadAt,Instr.sureAddr,aQ,loadVar,dP.isAgg,dP.sizeOf,aY,h1]
def mr{p:Addr}(an:aU c E L x (.eq (.pointer (some p)))):bj c E L ⟨d,.nilCheck x,ty,pos,af,g⟩ (.eq (.pointer (some p))):=.pure λa W s=>by
 have aQ:a.eval x=_:=an a W s;exact⟨_,by simp[execOp,aQ],rfl⟩
def als{γ:Type}[aj γ]{r:γ}(an:aU c E L x (.ptr r)):bj c E L ⟨d,.nilCheck x,ty,pos,af,g⟩ (.ptr r):=.pure λa W s=>by
 have hp:=an a W s;obtain⟨b,off,cur,T,jl,aQ,a7⟩:=hp;exact⟨_,by simp[execOp,aQ],b,off,cur,T,jl,rfl,a7⟩
def bP.kF{a:Act}{W:bq}(s:bP c E L a W){i j p cap T:Nat}{key:aA Nat}{β γ:Type}[aj β][aj γ]{b b':β}{xs:aa γ}{os os':aa (Nat×bt)}(l:aP β (aa γ))(gP:i≠j)(ax:L[i]? =some ⟨some p,.bX b os⟩)(sU:L[j]? =some ⟨key,.row T xs cap⟩)
 (q:Nat) (hq:os[q]? =some (l.off,aH key xs.length cap)) (hb:l.set b xs=b') (rW:uM os l.off=os'):bP c E ((L.set j ⟨none,.dead⟩).set i ⟨some p,.bX b' os'⟩) a W:=by
 subst hb
 subst rW
 have hk:=s.kill j
 have au:(L.set j ⟨none,.dead⟩)[i]? =some ⟨some p,.bX b os⟩:=by rw[vG (λe=>gP e.symm)];exact ax
 have oc:=Dx (L:=L) (i:=j) (cp:=.dead)
 have qt:ri (ks (L.set j ⟨none,.dead⟩)++c.b3) W (aH key xs.length cap) xs:=by
  have a8:=s.own _ (e6 sU);cases key with
  |none=>exact .inl ⟨rfl,a8.1⟩
  | some p=>
    obtain⟨o,e3,cs,rfl,dR,aM,B3,aE⟩:=a8
    obtain⟨az,aQ⟩:=Qb dR aM aE
    refine .inr ⟨p,0,cap,cs,T,(0,0),rfl,s.HL sU,e3,aM,by omega,az,?_⟩
    exact aQ.mono (.drop λk hm=>by
     rcases cz.1 hm with hm|hm
     ·exact cz.2 (.inl (oc.subset hm))
     exact cz.2 (.inr hm))
 exact hk.D4 au (λo ⟨cs,T,h1,ae⟩=>⟨cs,T,h1,Xk l ae (e6 hq) qt⟩) id
def ad.kF{Kk:aa Oper}{p cap T:Nat}{key:aA Nat}{β γ:Type}[aj β][aj γ]{b b':β}{xs:aa γ}{os os':aa (Nat×bt)}(l:aP β (aa γ))(i j q:Nat)(gP:Nat.beq i j=false)(ax:L[i]? =some ⟨some p,.bX b os⟩)(sU:L[j]? =some ⟨key,.row T xs cap⟩)
 (hq:os[q]? =some (l.off,aH key xs.length cap)) (hb:l.set b xs=b') (rW:uM os l.off=os') (k:ad c ops Q Kk E ((L.set j ⟨none,.dead⟩).set i ⟨some p,.bX b' os'⟩)):ad c ops Q Kk E L:=
 λa W s=>k a W (s.kF l (λe=>by rw[e,nZ]at gP;cases gP) ax sU q hq hb rW)
def bP.Nj{a:Act}{W:bq}(s:bP c E L a W){i j p cap T gh:Nat}{key:aA Nat}{β γ:Type}[aj β][aj γ]{b b':β}{xs:aa γ}{os os':aa (Nat×bt)}(l:aP β (aa γ))(gP:i≠j)(ax:L[i]? =some ⟨some p,.bX b os⟩)(sU:L[j]? =some ⟨key,.row T xs cap⟩)
 (q:Nat) (hq:os[q]? =some (l.off,aH key xs.length cap)) (hb:l.set b xs=b') (rW:uM os l.off=os') (qt:look E gh=some (.eq (aH key xs.length cap))):bP c ((gh,.of xs)::E) ((L.set j ⟨none,.dead⟩).set i ⟨some p,.bX b' os'⟩) a W:=by
 have h1:=s.freeze qt sU
 subst hb
 subst rW
 have au:(L.set j ⟨none,.dead⟩)[i]? =some ⟨some p,.bX b os⟩:=by rw[vG (λe=>gP e.symm)];exact ax
 obtain⟨v,ae,az⟩:=h1.env gh (.of xs) (by simp[look,nZ])
 obtain⟨Fi,aQ,a7⟩:=s.env gh _ qt
 rw[ae]at aQ
 cases aQ
 have a7:v=_:=a7
 subst a7
 exact h1.D4 au (λo ⟨cs,T,g1,g2⟩=>⟨cs,T,g1,Xk l g2 (e6 hq) (p3.1 az)⟩) id
def aq.Nj{z:Exit}{p cap T:Nat}{key:aA Nat}{β γ:Type}[aj β][aj γ]{b b':β}{xs:aa γ}{os os':aa (Nat×bt)}(l:aP β (aa γ))(i j q gh:Nat)(gP:Nat.beq i j=false)(ax:L[i]? =some ⟨some p,.bX b os⟩)(sU:L[j]? =some ⟨key,.row T xs cap⟩)
 (hq:os[q]? =some (l.off,aH key xs.length cap)) (hb:l.set b xs=b') (rW:uM os l.off=os') (qt:look E gh=some (.eq (aH key xs.length cap))) (k:aq c Q z ((gh,.of xs)::E) ((L.set j ⟨none,.dead⟩).set i ⟨some p,.bX b' os'⟩)):aq c Q z E L:=
 λa W s=>k a W (s.Nj l (λe=>by rw[e,nZ]at gP;cases gP) ax sU q hq hb rW qt)
inductive x0(c:cC)(E:List (Nat×J))(L:List aI)(place:Nat->Option (Nat×Nat)){β:Type}[aj β]:β->List (Nat×Value)->List (Nat×Operand)->β->List (Nat×Value)->Prop
 |nil {b os}:x0 c E L place b os [] b os
 |cons {b dD b':β} {os os':List (Nat×Value)} {γ:Type} [aj γ] {v:γ} {i:Nat} {x:Operand} {r:List (Nat×Operand)} (l:aP β γ):place i=some (l.off,aj.size γ)->aU c E L x (.of v)->l.set b v=dD->uW os l.off (aj.size γ)=true->x0 c E L place dD os r b' os'->x0 c E L place b os ((i,x)::r) b' os'
 |hole {b dD b':β} {os Tw os':List (Nat×Value)} {γ:Type} [aj γ] {u:Value} {i:Nat} {x:Operand} {r:List (Nat×Operand)} (l:aP β (List γ)):place i=some (l.off,1)->aU c E L x (.eq u)->u.oneCell'=true->l.set b []=dD->xO os l.off u=Tw->x0 c E L place dD Tw r b' os'->x0 c E L place b os ((i,x)::r) b' os'
def x0.run{place:Nat->aA (Nat×Nat)}{β:Type}[aj β]{b b':β}{os os':aa (Nat×bt)}{ec:aa (Nat×ca)}(h:x0 c E L place b os ec b' os'):∀a W,bP c E L a W->∀cs:Array bt,nF (ks L++c.b3) W cs.toList b os->
 ∃eW,Instr.fill place cs (ec.map λ(i,x)=>(i,a.eval x))=some eW∧nF (ks L++c.b3) W eW.toList b' os':=by
 induction h with
 |nil=>intro a W s cs aE;exact⟨cs,rfl,aE⟩
 | @cons b dD b' os os' γ _ v i x r l h1 ae az aQ _ b6=>
   intro a W s cs aE
   subst az
   have ba:=ae a W s
   have dR:(a.eval x).cells.size=aj.size γ:=by have:=aj.len ba.2;simpa using this
   have ao:cs.toList.length=aj.size β:=aE.len
   have fQ:=l.ha
   rw[oH,Mc h1 dR (by simp at ao;omega)]
   refine b6 a W s _ ?_
   have:=XQ l aE ba.2 aQ
   simpa[gV,aj.len ba.2]using this
 | @hole b dD b' os Tw os' γ _ u i x r l h1 ae az aQ a7 _ b6=>
   intro a W s cs aE
   subst aQ
   subst a7
   have ba:a.eval x=u:=ae a W s
   have ak:(a.eval x).cells.toList=[u]:=by rw[ba,cells_one az]
   have dR:(a.eval x).cells.size=1:=by have:=ev List.length ak;simpa using this
   have ao:cs.toList.length=aj.size β:=aE.len
   have fQ:l.off+1<=aj.size β:=l.ha
   rw[oH,Mc h1 dR (by simp at ao;omega)]
   refine b6 a W s _ ?_
   have:=Xj l aE az
   simpa[gV,ak]using this
def tb{β:Type}[aj β]{z b:β}{ec:aa (Nat×ca)}{pl:Array (Nat×Nat)}{os:aa (Nat×bt)}(oX:aa Nat)(xc:jm c.P t oX)(aY:aj.agg β=true)(Kg:fS c.P t pl)(gT:dx c.P t z)
 (aW:x0 c E L (pl[·]?) z (oX.map λo=>(o,l7)) ec b os):bj c E L ⟨d,.build t ec.toArray,ty,pos,af,g⟩ (.B5 b os):=.pure λa W s=>by
 obtain⟨fs,hu,hs,rfl⟩:=Kg.at_
 obtain⟨i,ed,h1,ae,az⟩:=gT.zero
 have cB:∀o∈oX,ed.cells.toList[o]? =some l7:=λo a8=>by
  unfold jm at xc;rw[h1]at xc;simp only[Option.bind_some,ae,Option.any_some]at xc;exact WV (ns.1 xc o a8)
 obtain⟨eW,aQ,a7⟩:=aW.run a W s ed.cells ⟨by
  rw[Qh λh hm=>by obtain⟨o,a8,rfl⟩:=gJ.1 hm;exact cB o a8];exact(az _ _).2,λh hm=>by obtain⟨o,a8,rfl⟩:=gJ.1 hm;exact⟨cB o a8,rfl⟩⟩
 refine⟨.agg eW,?_,by simp[shaped,aY],by simpa[Value.cells]using a7⟩
 have hm:(ec.toArray.map λ(x:Nat×ca)=>(x.1,a.eval x.2)).toList=ec.map λ(i,x)=>(i,a.eval x):=by simp
 simp only[execOp,Instr.build,dU,zeroValue,typeInfo,run_program,Result.andThen_ok,h1,ae,Sem.run_pure,ee hu,Wp fs hs]
 rw[hm,aQ]
 rfl
def wW{α:Type}[Inhabited α](bytes:Nat)(n:Int):aA (aa α):=if 0<=n∧n<=140737488355328∧bytes*n<=140737488355328 then some (List.replicate n.toNat default)else none
def XR{α:Type}[Inhabited α]{bytes:Nat}{n:Int}{r:aa α}(h:wW bytes n=some r):0<=n∧n<=140737488355328∧bytes*n<=140737488355328∧List.replicate n.toNat default=r:=by
 unfold wW at h;split at h
 ·rename_i ak;exact⟨ak.1,ak.2.1,ak.2.2,di h⟩
 cases h
def ad.acm{α:Type}[aj α][Inhabited α]{rest:aa Oper}{bc e bytes:Nat}{r:aa α}{n:Int}(hu:c.P.underlying t=some (.slice e))(eM:bS c.P e α)(gT:dx c.P e (default:α))(hs:Nat.beq (aj.size α) 0=false)(hb:(c.P.info? e).map (·.bytes)=some bytes)
 (an:aU c E L x (.of n)) (hy:aU c E L y (.of n)) (hm:wW bytes n=some r) (kc:Nat.blt bc c.n=true) (k:∀p,ad c ops Q rest ((bc,.eq (aH p r.length r.length))::E) (⟨p,.row e r r.length⟩::L)):
 ad c ops Q (⟨some bc,.makeSlice t x y,ty,pos,af,none⟩::rest) E L:=λa W s=>by
 obtain⟨bJ,aM,auP,rfl⟩:=XR hm
 obtain⟨m,rfl⟩:=qE bJ
 obtain⟨gH,ed,eo,b2,vq⟩:=gT.zero
 have qj:gH.size=aj.size α:=by
  obtain⟨i2,h1,ae⟩:=eM.info;rw[eo]at h1;cases h1;exact ae
 have Cb:gH.bytes=bytes:=by rw[eo]at hb;simpa using hb
 have jX:aj.size α≠0:=λh=>by rw[h]at hs;cases hs
 have tJ:=HE (vq (ks L++c.b3) W) m jX
 have h1:=of_int.1 (an a W s)
 have ae:=of_int.1 (hy a W s)
 have hw:IntKind.i64.wrap (m:Int)=m:=by have:bu (m:Int)=m:=hX (by omega) (by omega);exact this
 have hp:(2:Int)^48=281474976710656:=by decide
 simp only[Int.toNat_natCast,CN]at k
 generalize ml:(Array.range (m*aj.size α)).map (ed.cells[· % ed.cells.size]!)=D at tJ
 refine iO I (R:=λv W'=>v=.slice (some ⟨W.heap.size,0,none⟩) m m∧W'=W.alloc (.cells D e)) (.mV (v:=.slice (some ⟨W.heap.size,0,none⟩) m m) (W':=W.alloc (.cells D e)) ?_ ⟨rfl,rfl⟩) λv W' ⟨az,aQ⟩=>?_
 ·have dF:((decide ((m:Int)<0)||decide ((gH.bytes:Int)*m>2^48))||decide ((m:Int)<0)||decide ((m:Int)>m))=false:=by
   rw[Cb,hp];simp;omega
  have Od:((Array.range (m*gH.size)).map λi=>(if m*gH.size=0 then(#[]:Array bt)else ed.cells)[i % (if m*gH.size=0 then(#[]:Array bt)else ed.cells).size]!)=D:=by
   rw[<-ml,qj];by_cases h3:m*aj.size α=0
   ·rw[h3];simp
   simp only[bf h3]
  have aY:(asInt (.int .i64 (m:Int)):Sem Int).run c.P W=.ok (m:Int) W:=by simp[asInt,asIntOf]
  simp only[execOp,Instr.makeSlice,dU,ee hu,Result.andThen_ok,h1,ae,aY,Sem.run_pure,typeInfo,run_program,eo,hw,dF,sb,n0,run_askRoom,Go.sizeOf,Int.toNat_natCast]
  by_cases h3:m*gH.size=0
  ·simp only[h3,lY,Sem.run_pure,Result.andThen_ok,dU,newRow]at Od⊢
   rw[Od]
   simp
  simp only[h3,n0,Sem.run_pure,Result.andThen_ok,dU,newRow,zeroValue,typeInfo,run_program,eo,b2]at Od⊢
  rw[Od]
  simp
 subst az aQ
 have yi:m<=maxLen:=by
  have:maxLen=9223372036854775807:=rfl;omega
 have dR:D.size=m*aj.size α:=by have:=tJ.1;simpa using this
 have cH:=s.alloc (o:=.cells D e) (cp:=.row e (List.replicate m (default:α)) m) ⟨D,rfl,dR,by simp,yi,by
  have bp:=tJ.1;rw[CN]at bp⊢;rw[<-bp,k4];exact tJ⟩
 exact k (some W.heap.size) _ _ (cH.put (τ:=.eq (aH (some W.heap.size) m m)) (by simpa using kc) I)
def aq.mX{fn:Func}{δ:Type}{ρ:δ->J}{Lo:δ->aa aI}(bc:δ)(hs:(Lo bc).Sublist L)(aE:fn.results= #[])(rV:ρ bc=.b7 [])(et:c.ds=[]:=by rfl):aq c (bodyPost c.P fn (kB c.X c.b3 c.j1 ρ Lo)) .ret E L:=λa W s=>
 ⟨s.Ae et,.tuple #[],by simp[zY,aE],s.ends bc hs (by rw[rV];exact⟨_,rfl,.nil⟩)⟩
end
abbrev Hid:=Nat->aA Nat
def ez(l:aa (aA Nat)):Hid:=λi=>(l[i]?).getD none
structure dK where
 slot:Option Nat
 up:List Nat
 rd:List Nat
 wr:List Nat
 τ:(Nat->Hid)->J
 gf:(Nat->Hid)->Nat->aI
def hQ(up:aa Nat)(i:Nat)(hd:Nat->Hid):Nat->Hid:=λj=>bif Nat.beq j i||up.any (λk=>Nat.beq k j)then hd j else λ_=>none
def nh(hd:Nat->Hid)(i:Nat)(x:Hid):Nat->Hid:=λj=>bif Nat.beq j i then x else hd j
def ah8{up:aa Nat}{i:Nat}{hd hd':Nat->Hid}(h:hd i=hd' i)(c8:∀k∈up,hd k=hd' k):hQ up i hd=hQ up i hd':=by
 funext j;unfold hQ;cases h1:Nat.beq j i
 ·cases ae:up.any (λk=>Nat.beq k j)
  ·rfl
  obtain⟨k,hk,he⟩:=pc.1 ae;have:=fx.1 he;subst this;simp only[vN,cond_true];exact c8 k hk
 have:=fx.1 h1;subst this;simp only[PU,cond_true];exact h
def pE:aa aI->(Nat->aI)->aa Nat->aa aI
 |L,_,[]=>L
 |L,f,j::r=>pE (L.set j (f j)) f r
def WC:∀{L:aa aI} {f:Nat->aI} {cn:aa Nat},(pE L f cn).length=L.length
 |_,_,[]=>rfl
 |L,f,j::r=>by rw[pE,WC,pe]
def QM:∀{L:aa aI} {f:Nat->aI} {cn:aa Nat} (i:Nat),(pE L f cn)[i]? =if cn.contains i=true then L[i]?.map (λ_=>f i)else L[i]?
 |_,_,[],i=>by simp[pE]
 | L,f,j::r,i=>by
   rw[pE,QM i];by_cases h:j=i
   ·subst h;simp only[Vz,BEq.rfl,PU,lY,pR];by_cases ao:j<L.length
    ·simp[ao]
    simp[ao]
   have hb:(i==j)=false:=by simp;exact λe=>h e.symm
   rw[Vz,hb,vN,vG h]
def gx(ls:Nat->Bool)(hd:Nat->Hid):Nat->aa dK->aa aI->aa aI
 |_,[],L=>L
 |k,h::r,L=>gx ls hd (k+1) r (bif ls k then pE L (h.gf (hQ h.up k hd)) h.wr else L)
def im(ls:Nat->Bool)(hd:Nat->Hid)(E:aa (Nat×J)):Nat->aa dK->aa (Nat×J)
 |_,[]=>E
 | k,h::r=>match ls k,h.slot with
   |true,some s=>(s,h.τ (hQ h.up k hd))::im ls hd E (k+1) r
   |_,_=>im ls hd E (k+1) r
def od(ls:Nat->Bool)(hd:Nat->Hid)(j:Nat):Nat->aa dK->aA aI->aA aI
 |_,[],v=>v
 |k,h::r,v=>od ls hd j (k+1) r (bif ls k&&h.wr.contains j then v.map (λ_=>h.gf (hQ h.up k hd) j)else v)
def MJ{ls:Nat->Bool}{hd:Nat->Hid}(j:Nat):∀{k:Nat} {hs:aa dK} {L:aa aI},(gx ls hd k hs L)[j]? =od ls hd j k hs L[j]?
 |_,[],_=>rfl
 | k,h::r,L=>by
   rw[gx,od,MJ j];congr 1;cases ls k
   ·rfl
   simp only[cond_true,vO];rw[QM];cases h.wr.contains j <;> rfl
def Qv{ls:Nat->Bool}{hd:Nat->Hid}{j:Nat}:∀{k:Nat} {hs:aa dK} {v:aA aI},(∀m h,hs[m]? =some h->h.wr.contains j=true->ls (k+m)=false)->od ls hd j k hs v=v
 |_,[],_,_=>rfl
 | k,h::r,v,aM=>by
   rw[od,Qv λm x hm an=>by have:=aM (m+1) x (by simpa using hm) an;rw[<-this];congr 1;omega];cases hw:h.wr.contains j
   ·simp
   have:=aM 0 h I hw;simp only[Nat.add_zero]at this;rw[this];rfl
def Qc{ls:Nat->Bool}{hd:Nat->Hid}{j:Nat}:∀{k:Nat} {hs rs:aa dK} {v:aA aI},od ls hd j k (hs++rs) v=od ls hd j (k+hs.length) rs (od ls hd j k hs v)
 |_,[],_,_=>rfl
 | k,h::r,rs,v=>by
   rw[List.cons_append,od,Qc,od,List.length_cons];congr 1;omega
def L3{ls ls':Nat->Bool}{hd hd':Nat->Hid}{j:Nat}:∀{k:Nat} {hs:aa dK} {v:aA aI},(∀m h,hs[m]? =some h->h.wr.contains j=true->ls (k+m)=ls' (k+m)∧(ls (k+m)=true->hQ h.up (k+m) hd=hQ h.up (k+m) hd'))->od ls hd j k hs v=od ls' hd' j k hs v
 |_,[],_,_=>rfl
 | k,h::r,v,aM=>by
   have b6:=L3 (ls:=ls) (ls':=ls') (hd:=hd) (hd':=hd') (j:=j) (k:=k+1) (hs:=r) (v:=bif ls k&&h.wr.contains j then v.map (λ_=>h.gf (hQ h.up k hd) j)else v) λm x hm an=>by
    have:=aM (m+1) x (by simpa using hm) an;rw[show k+1+m=k+(m+1) by omega];exact this
   rw[od,od,b6];congr 1;cases hw:h.wr.contains j
   ·simp
   have:=aM 0 h I hw;simp only[Nat.add_zero]at this;rw[<-this.1];cases ao:ls k
   ·rfl
   rw[this.2 ao]
def Qw{ls:Nat->Bool}{hd:Nat->Hid}{E:aa (Nat×J)}{t:Nat}:∀{k:Nat} {hs:aa dK},(∀(m:Nat) (h:dK),hs[m]? =some h->ls (k+m)=true->h.slot≠some t)->look (im ls hd E k hs) t=look E t
 |_,[],_=>rfl
 | k,h::r,aM=>by
   have b6:=Qw (ls:=ls) (hd:=hd) (E:=E) (t:=t) (k:=k+1) (hs:=r) λm x hm ao=>aM (m+1) x (by simpa using hm) (by rw[<-ao];congr 1;omega);unfold im;split
   ·rename_i s h1 ae;have dm:Nat.beq s t=false:=by
     cases hb:Nat.beq s t
     ·rfl
     have:=fx.1 hb;subst this;exact absurd ae (aM 0 h I h1)
    simp only[look,dm,cond_false];exact b6
   exact b6
def QN{ls:Nat->Bool}{hd:Nat->Hid}{E:aa (Nat×J)}{s:Nat}:∀{k:Nat} {hs:aa dK} {j:Nat} {h:dK},hs[j]? =some h->ls (k+j)=true->h.slot=some s->(∀m x,hs[m]? =some x->x.slot=some s->m=j)->look (im ls hd E k hs) s=some (h.τ (hQ h.up (k+j) hd))
 |_,[],_,_,h,_,_,_=>by simp at h
 | k,x::r,0,h,aC,ao,hs,_=>by
   simp only[List.getElem?_cons_zero,gy]at aC;subst aC;simp only[Nat.add_zero]at ao;unfold im;rw[ao,hs];simp[look,nZ]
 | k,x::r,j+1,h,aC,ao,hs,hu=>by
   have b6:=QN (ls:=ls) (hd:=hd) (E:=E) (s:=s) (k:=k+1) (hs:=r) (j:=j) (h:=h) (by simpa using aC) (by rw[<-ao];congr 1;omega) hs λm y hm hy=>by
    have:=hu (m+1) y (by simpa using hm) hy;omega
   rw[show k+1+j=k+(j+1) by omega]at b6;unfold im;split
   ·rename_i cH h1 ae;have dm:Nat.beq cH s=false:=by
     cases hb:Nat.beq cH s
     ·rfl
     have:=fx.1 hb;subst this;have:=hu 0 x I ae;omega
    simp only[look,dm,cond_false];exact b6
   exact b6
def XS{ls:Nat->Bool}{hd:Nat->Hid}{E:aa (Nat×J)}{t:Nat}{τ:J}:∀{k:Nat} {hs:aa dK},look (im ls hd E k hs) t=some τ->(∃(j:Nat) (h:dK),hs[j]? =some h∧ls (k+j)=true∧h.slot=some t∧τ=h.τ (hQ h.up (k+j) hd))∨(look E t=some τ∧∀(m:Nat) (h:dK),hs[m]? =some h->ls (k+m)=true->h.slot≠some t)
 |_,[],h=>.inr ⟨h,λm h hm=>by simp at hm⟩
 | k,x::r,h=>by
   unfold im at h;have go:(ls k=true->x.slot≠some t)->look (im ls hd E (k+1) r) t=some τ->(∃(j:Nat) (h:dK),(x::r)[j]? =some h∧ls (k+j)=true∧h.slot=some t∧τ=h.τ (hQ h.up (k+j) hd))∨(look E t=some τ∧∀(m:Nat) (h:dK),(x::r)[m]? =some h->ls (k+m)=true->h.slot≠some t):=λan h=>by
    rcases XS h with⟨j,y,h1,ae,az,aQ⟩|⟨h1,ae⟩
    ·exact .inl ⟨j+1,y,by simpa using h1,by rw[<-ae];congr 1;omega,az,by rw[aQ];congr 2;omega⟩
    refine .inr ⟨h1,λm y hm ao=>?_⟩;cases m with
    |zero=>simp only[List.getElem?_cons_zero,gy]at hm;subst hm;exact an ao
    |succ m=>exact ae m y (by simpa using hm) (by rw[<-ao];congr 1;omega)
   split at h
   ·rename_i s h1 ae;simp only[look]at h;by_cases e:Nat.beq s t=true
    ·rw[e]at h;simp only[cond_true,gy]at h;have:=fx.1 e;subst this;exact .inl ⟨0,x,rfl,h1,ae,h.symm⟩
    rw[lX]at e;rw[e]at h;exact go (λ_ jX=>by rw[ae]at jX;cases jX;rw[nZ]at e;cases e) h
   rename_i fb;exact go (λao jX=>fb t ao jX) h
def kR(hd:Nat->Hid)(hs:aa dK)(E:aa (Nat×J)):aa Nat->aa (Nat×J)
 |[]=>E
 | j::r=>match hs[j]? with
   | some h=>match h.slot with
     |some s=>(s,h.τ (hQ h.up j hd))::kR hd hs E r
     |none=>kR hd hs E r
   |none=>kR hd hs E r
def YC{hd:Nat->Hid}{hs:aa dK}{E:aa (Nat×J)}{t:Nat}{τ:J}:∀{ds:aa Nat},look (kR hd hs E ds) t=some τ->(∃j∈ds,∃h:dK,hs[j]? =some h∧h.slot=some t∧τ=h.τ (hQ h.up j hd))∨look E t=some τ
 |[],h=>.inr h
 | j::r,h=>by
   have go:look (kR hd hs E r) t=some τ->(∃i∈j::r,∃h:dK,hs[i]? =some h∧h.slot=some t∧τ=h.τ (hQ h.up i hd))∨look E t=some τ:=λh=>by
    rcases YC h with⟨i,h1,ae⟩|h1
    ·exact .inl ⟨i,by simp[h1],ae⟩
    exact .inr h1
   unfold kR at h;split at h
   ·rename_i x an;split at h
    ·rename_i s qt;simp only[look]at h;by_cases e:Nat.beq s t=true
     ·rw[e]at h;simp only[cond_true,gy]at h;have:=fx.1 e;subst this;exact .inl ⟨j,by simp,x,an,qt,h.symm⟩
     simp only[lX]at e;rw[e]at h;exact go h
    exact go h
   exact go h
def BE(E:aa (Nat×J))(v:bt):aa Nat->Prop
 |[]=>True
 |s::r=>look E s=some (.eq v)∧BE E v r
def BE.get{E:aa (Nat×J)}{v:bt}:∀{fL:aa Nat},BE E v fL->∀s∈fL,look E s=some (.eq v)
 | _::_,h,s,hs=>by
   rcases dW.1 hs with rfl|hs
   ·exact h.1
   exact BE.get h.2 s hs
def EV(τ:J)(E:aa (Nat×J)):aa Nat->aa (Nat×J)
 |[]=>E
 |s::r=>(s,τ)::EV τ E r
def XT{τ:J}{E:aa (Nat×J)}{t:Nat}{σ:J}:∀{fL:aa Nat},look (EV τ E fL) t=some σ->(t∈fL∧σ=τ)∨look E t=some σ
 |[],h=>.inr h
 | s::r,h=>by
   simp only[EV,look]at h;by_cases e:Nat.beq s t=true
   ·rw[e]at h;simp only[cond_true,gy]at h;have:=fx.1 e;subst this;exact .inl ⟨by simp,h.symm⟩
   simp only[lX]at e;rw[e]at h;rcases XT h with⟨h1,ae⟩|h1
   ·exact .inl ⟨by simp[h1],ae⟩
   exact .inr h1
def BQ{w:Nat}(a b:BitVec w):BitVec w:=if a<=b then a else b
def rO:aA Nat->J->aa (Nat×J)->aa (Nat×J)
 |some s,τ,E=>(s,τ)::E
 |none,_,E=>E
section
variable{c:cC}{E:aa (Nat×J)}{L:aa aI}{ops:Array Oper}{Q:Exit->Act->bq->Prop}
def bP.k8{a:Act}{W:bq}{α:Type}[aj α]{i cap T:Nat}{fL:aa Nat}{key:aA Nat}{xs:aa α}(h:bP c E L a W)(ao:BE E (aH key xs.length cap) fL)(ax:L[i]? =some ⟨key,.row T xs cap⟩):
 bP c (EV (.of xs) E fL) (L.set i ⟨none,.dead⟩) a W:=by
 have hk:=h.kill i
 refine {hk with env:=λt τ fh=>?_}
 rcases XT fh with⟨hm,rfl⟩|h1
 ·obtain⟨v,h1,ae⟩:=h.env t _ (ao.get t hm)
  refine⟨v,h1,p3.2 ?_⟩
  have mB:v=aH key xs.length cap:=ae
  subst mB
  have a8:=h.own _ (e6 ax)
  cases key with
  |none=>exact .inl ⟨rfl,a8.1⟩
  | some p=>
    obtain⟨o,e3,cs,rfl,dR,aM,B3,aE⟩:=a8
    obtain⟨az,aQ⟩:=Qb dR aM aE
    refine .inr ⟨p,0,cap,cs,T,(0,0),rfl,h.HL ax,e3,aM,by omega,az,?_⟩
    have oc:=Dx (L:=L) (i:=i) (cp:=.dead)
    exact aQ.mono (.drop λk hm=>by
     rcases cz.1 hm with hm|hm
     ·exact cz.2 (.inl (oc.subset hm))
     exact cz.2 (.inr hm))
 exact hk.env t τ h1
def ad.k8{l:aa Oper}{α:Type}[aj α]{key:aA Nat}{xs:aa α}{cap T:Nat}(i:Nat)(fL:aa Nat)(ao:BE E (aH key xs.length cap) fL)(ax:L[i]? =some ⟨key,.row T xs cap⟩)
 (k:ad c ops Q l (EV (.of xs) E fL) (L.set i ⟨none,.dead⟩)):ad c ops Q l E L:=λa W st=>k a W (st.k8 ao ax)
def aq.k8{x:Exit}{α:Type}[aj α]{key:aA Nat}{xs:aa α}{cap T:Nat}(i:Nat)(fL:aa Nat)(ao:BE E (aH key xs.length cap) fL)(ax:L[i]? =some ⟨key,.row T xs cap⟩)
 (k:aq c Q x (EV (.of xs) E fL) (L.set i ⟨none,.dead⟩)):aq c Q x E L:=λa W st=>k a W (st.k8 ao ax)
def fq(c:cC)(ops:Array Oper)(Q:Exit->Act->bq->Prop)(hs:aa dK)(E:aa (Nat×J))(L:aa aI)(i:Nat)(o:Oper)(h:dK):Prop:=
 ∀ (hd:Nat->Hid) (E':aa (Nat×J)) (L':aa aI),(∀t τ,look (kR hd hs E h.up) t=some τ->look E' t=some τ)->
   (∀j e,(gx (λ_=>true) hd 0 (hs.take i) L)[j]? =some e->h.rd.contains j=true->L'[j]? =some e)->
   ad c ops (pQ (λa W=> ∃x,bP c (rO h.slot (h.τ (hQ h.up i (nh hd i x))) E') (pE L' (h.gf (hQ h.up i (nh hd i x))) h.wr) a W) Q) [o] E' L'
def D5(c:cC)(ops:Array Oper)(Q:Exit->Act->bq->Prop)(hs:aa dK)(E:aa (Nat×J))(L:aa aI):Nat->aa Oper->aa dK->Prop
 |_,[],[]=>True
 |i,o::os,h::r=>fq c ops Q hs E L i o h∧D5 c ops Q hs E L (i+1) os r
 |_,_,_=>False
def WW{ls ls':Nat->Bool}{hd:Nat->Hid}:∀{k:Nat} {hs:aa dK},(∀m,m<hs.length->ls (k+m)=ls' (k+m))->im ls hd E k hs=im ls' hd E k hs
 |_,[],_=>rfl
 | k,h::r,aM=>by
   have b6:=WW (ls:=ls) (ls':=ls') (hd:=hd) (k:=k+1) (hs:=r) λm hm=>by
    have:=aM (m+1) (by simp;omega);rw[show k+1+m=k+(m+1) by omega];exact this
   have bJ:=aM 0 (by simp);simp only[Nat.add_zero]at bJ;unfold im;rw[bJ,b6]
def XU{ls ls':Nat->Bool}{hd:Nat->Hid}:∀{k:Nat} {hs:aa dK} {L:aa aI},(∀m,m<hs.length->ls (k+m)=ls' (k+m))->gx ls hd k hs L=gx ls' hd k hs L
 |_,[],_,_=>rfl
 | k,h::r,L,aM=>by
   have bJ:=aM 0 (by simp);simp only[Nat.add_zero]at bJ;rw[gx,gx,bJ];exact XU λm hm=>by
    have:=aM (m+1) (by simp;omega);rw[show k+1+m=k+(m+1) by omega];exact this
def lI(hs:aa dK):aa (aA Nat×aa Nat×aa Nat×aa Nat):=hs.map λh=>(h.slot,h.up,h.rd,h.wr)
def Ra{hs:aa dK}{i:Nat}{h:dK}(au:hs[i]? =some h):(lI hs)[i]? =some (h.slot,h.up,h.rd,h.wr):=by simp[lI,au]
def x1(c:cC)(ops:Array Oper)(Q:Exit->Act->bq->Prop)(hs:aa dK)(E:aa (Nat×J))(L:aa aI)(np:Nat)(i:Nat)(o:Oper)(h:dK):Prop:=
 ∀ (hd:Nat->Hid) (E':aa (Nat×J)) (L':aa aI),(∀t τ,look (kR hd hs E h.up) t=some τ->look E' t=some τ)->
   (∀j e,(gx (λ_=>true) hd 0 (hs.take i) L)[j]? =some e->h.rd.contains j=true->L'[j]? =some e)->L'.drop np=L.drop np->
   ad c ops (pQ (λa W=> ∃x,bP c (rO h.slot (h.τ (hQ h.up i (nh hd i x))) E') (pE L' (h.gf (hQ h.up i (nh hd i x))) h.wr) a W) Q) [o] E' L'
def p4(c:cC)(ops:Array Oper)(Q:Exit->Act->bq->Prop)(hs:aa dK)(E:aa (Nat×J))(L:aa aI)(np:Nat):Nat->aa Oper->aa dK->Prop
 |_,[],[]=>True
 |i,o::os,h::r=>x1 c ops Q hs E L np i o h∧p4 c ops Q hs E L np (i+1) os r
 |_,_,_=>False
def p4.get{hs:aa dK}{np:Nat}:∀{k:Nat} {os:aa Oper} {rs:aa dK},p4 c ops Q hs E L np k os rs->∀i h o,rs[i]? =some h->os[i]? =some o->x1 c ops Q hs E L np (k+i) o h
 |k,[],[],_,i,h,o,au,_=>by simp at au
 | k,avs::os,bJ::r,cB,i,h,o,au,a8=>by
   cases i with
   | zero=>
     simp only[List.getElem?_cons_zero,gy]at au a8
     subst au;subst a8;exact cB.1
   | succ i=>
     have:=p4.get cB.2 i h o (by simpa using au) (by simpa using a8)
     rw[show k+1+i=k+(i+1) by omega]at this
     exact this
 |k,[],_::_,cB,_,_,_,_,_=>cB.elim
 |k,_::_,[],cB,_,_,_,_,_=>cB.elim
def D5.Jy{hs:aa dK}{np:Nat}:∀{k:Nat} {os:aa Oper} {rs:aa dK},D5 c ops Q hs E L k os rs->p4 c ops Q hs E L np k os rs
 |_,[],[],_=>trivial
 |_,_::_,_::_,h=>⟨λhd E' L' h1 ae _=>h.1 hd E' L' h1 ae,D5.Jy h.2⟩
 |_,[],_::_,h=>h.elim
 |_,_::_,[],h=>h.elim
def Xl{n:Nat}:∀{L:aa aI} {f:Nat->aI} {cn:aa Nat},(∀j∈cn,j<n∨L.length<=j)->(pE L f cn).drop n=L.drop n
 |_,_,[],_=>rfl
 | L,f,j::r,h=>by
   rw[pE,Xl (λk hk=>by rw[pe];exact h k (by simp[hk]))];rcases h j (by simp)with h1|h1
   ·rw[List.drop_set_of_lt h1]
   rw[List.set_eq_of_length_le h1]
def Rb{ls:Nat->Bool}{hd:Nat->Hid}{n:Nat}:∀{k:Nat} {hs:aa dK} {L:aa aI},(∀h∈hs,∀j∈h.wr,j<n∨L.length<=j)->(gx ls hd k hs L).drop n=L.drop n
 |_,[],_,_=>rfl
 | k,h::r,L,hw=>by
   rw[gx];cases ao:ls k
   ·exact Rb λx an=>hw x (by simp[an])
   simp only[cond_true];rw[Rb (λx an j aC=>by rw[WC];exact hw x (by simp[an]) j aC),Xl (hw h (by simp))]
def aaI{hs:aa dK}{ds:aa (aA Nat×aa Nat×aa Nat×aa Nat)}{np:Nat}(et:lI hs=ds)(h:(ds.all λd=>d.2.2.2.all λj=>Nat.blt j np)=true):∀h∈hs,∀j∈h.wr,j<np∨L.length<=j:=λx an j aC=>by
 subst et;have h1:=ns.1 h (x.slot,x.up,x.rd,x.wr) (gJ.2 ⟨x,an,rfl⟩);have ae:=ns.1 h1 j aC;exact .inl (Nat.blt_eq.mp ae)
def aq.fin{slot:aA Nat}{up wr:aa Nat}{i:Nat}{hd:Nat->Hid}{τ:(Nat->Hid)->J}{gf:(Nat->Hid)->Nat->aI}{E' iv:aa (Nat×J)}{L' L2:aa aI}(x:Hid)(aJ:iv=rO slot (τ (hQ up i (nh hd i x))) E')(ax:L2=pE L' (gf (hQ up i (nh hd i x))) wr):
 aq c (pQ (λa W=> ∃x,bP c (rO slot (τ (hQ up i (nh hd i x))) E') (pE L' (gf (hQ up i (nh hd i x))) wr) a W) Q) .normal iv L2:=λa W s=>by
 subst aJ ax
 exact⟨x,s⟩
def aq.place{z:Exit}{e:aI}(j:Nat)(aC:L[j]? =some ⟨none,.dead⟩)(k:aq c Q z E (L.set j e)):aq c Q z E (e::L):=λa W s=>by
 refine k a W (s.sub (λx an=>?_) ?_)
 ·rcases UW an with h|h
  ·exact dW.2 (.inr h)
  exact dW.2 (.inl h)
 have h1:=xK aC;have ae:(L.set j e).Perm (e::L.eraseIdx j):=by
  have az:(L.set j e)[j]? =some e:=by rw[CM (hh.1 aC).1]
  have aQ:=xK az;rwa[O7]at aQ
 have a7:=Ai (h1.cons e);have bp:ks (e::⟨none,.dead⟩::L.eraseIdx j)=ks (e::L.eraseIdx j):=by cases hk:e.key <;> simp[ks,hk]
 rw[bp]at a7;exact(Ai ae).nodup_iff.2 (a7.nodup_iff.1 s.nodup)
def aq.back{z:Exit}{e fo:aI}(j:Nat)(aC:L[j]? =some fo)(k:aq c Q z E (L.set j e)):aq c Q z E (e::L.eraseIdx j):=λa W s=>by
 have az:(L.set j e)[j]? =some e:=by rw[CM (hh.1 aC).1]
 have aQ:=xK az;rw[O7]at aQ;exact k a W (s.perm aQ.symm)
def ay.qT{z:Code}(n:Nat)(k:ay c Q z E (L++List.replicate n ⟨none,.dead⟩)):ay c Q z E L:=λa W s=>by
 refine k a W ?_;have hk:ks (L++List.replicate n ⟨none,.dead⟩)=ks L:=by
  rw[e1];have:∀n,ks (List.replicate n (⟨none,.dead⟩:aI))=[]:=λn=>by
   induction n with
   |zero=>rfl
   |succ n b6=>rw[List.replicate_succ];simp[ks,b6]
  rw[this,mM]
 exact
 {defers:=s.defers
  size:=s.size
  env:=λt τ ao=>by rw[hk];exact s.env t τ ao
  dI:=s.dI
  own:=λe he=>by
   rw[hk];rcases cz.1 he with he|he
   ·exact s.own e he
   rw[(List.mem_replicate.1 he).2];trivial
  nodup:=by rw[hk];exact s.nodup
  lt:=by rw[hk];exact s.lt
  fO:=by rw[hk];exact s.fO
  eG:=by rw[hk];exact s.eG}
def ay.Ir{z:Code}(n m:Nat)(k:ay c Q z E (L.take m++(List.replicate n ⟨none,.dead⟩++L.drop m))):ay c Q z E L:=by
 refine ay.qT n λa W s=>k a W (s.perm ?_);have e:L=L.take m++L.drop m:=(gp m L).symm;conv=>lhs;rw[e]
 rw[jE];exact oF.append_left _
def aq.ey{z:Exit}{L2:aa aI}(h:L=L2)(k:aq c Q z E L2):aq c Q z E L:=by subst h;exact k
def aq.hv{z:Exit}{key:aA Nat}{n m cap:Nat}(gh:Nat)(ao:look E gh=some (.eq (aH key n cap)))(aM:n=m)(k:aq c Q z ((gh,.eq (aH key m cap))::E) L):aq c Q z E L:=λa W s=>by
 subst aM;refine k a W (s.less λt τ h=>?_);simp only[look]at h;by_cases e:Nat.beq gh t=true
 ·rw[e]at h;simp only[cond_true]at h;have:=fx.1 e;subst this;exact⟨τ,by rw[ao,h],λ_ _ _ h=>h⟩
 simp only[lX]at e;rw[e]at h;exact⟨τ,h,λ_ _ _ h=>h⟩
variable{hs:aa dK}{i d:Nat}{up rd:aa Nat}{gf:(Nat->Hid)->Nat->aI}{o:Oper}
def j6{τ:J}(bH:o.guard=none)(hd:o.dst=some d)(aM:Nat.blt d c.n=true)
 (h:∀(hd:Nat->Hid) (E':aa (Nat×J)) (L':aa aI),(∀t τ,look (kR hd hs E up) t=some τ->look E' t=some τ)->(∀j e,(gx (λ_=>true) hd 0 (hs.take i) L)[j]? =some e->rd.contains j=true->L'[j]? =some e)->bj c E' L' o τ):
 fq c ops Q hs E L i o ⟨some d,up,rd,[],λ_=>τ,gf⟩:=λJz E' L' aJ ax=>
 ad.v (h Jz E' L' aJ ax) bH hd aM (ad.nil (aq.fin (λ_=>none) I I))
def ap5{j g:Nat}{b want:Bool}{τ:J}(bH:o.guard=some (j,want))(aC:(ops[j]?).bind (·.dst)=some g)(hd:o.dst=some d)(aM:Nat.blt d c.n=true)
 (ao:∀hd,look (kR hd hs E up) g=some (.of b))
 (h:∀(hd:Nat->Hid) (E':aa (Nat×J)) (L':aa aI),(∀t τ,look (kR hd hs E up) t=some τ->look E' t=some τ)->(∀j e,(gx (λ_=>true) hd 0 (hs.take i) L)[j]? =some e->rd.contains j=true->L'[j]? =some e)->b=want->bj c E' L' o τ):
 fq c ops Q hs E L i o ⟨some d,up,rd,[],λ_=>.cond (b=want) τ,gf⟩:=λJz E' L' aJ ax=>
 ad.g (h Jz E' L' aJ ax) bH aC (aJ _ _ (ao Jz)) hd aM (ad.nil (aq.fin (λ_=>none) I I))
variable{ty t:bF}{pos:String}{af:Array Edge}
def ad.abo{α:Type}[aj α]{rest:aa Oper}{bc e n:Nat}{z:α}{r0 r:aa α}{ec:aa (Nat×ca)}(hu:c.P.underlying t=some (.slice e))(eM:bS c.P e α)(gT:dx c.P e z)(hs:Nat.beq (aj.size α) 0=false)(aM:Nat.ble (n*aj.size α) 16777216=true)
 (aW:pv c E L (List.replicate n z) ec r0) (aE:r0=r) (kc:Nat.blt bc c.n=true) (k:∀p,ad c ops Q rest ((bc,.eq (aH p r.length n))::E) (⟨p,.row e r n⟩::L)):
 ad c ops Q (⟨some bc,.buildSlice t n ec.toArray,ty,pos,af,none⟩::rest) E L:=by subst aE;exact ad.qd hu eM gT hs aM aW kc k
variable{g:aA (Nat×Bool)}{x y:ca}
def aiU{a b:BitVec 64}{bc:aA Tmp}{ats:Array bF}(an:aU c E L x (.of a))(hy:aU c E L y (.of b)):bj c E L ⟨bc,.call ⟨.builtin .min,#[x,y],ats⟩,ty,pos,af,g⟩ (.of (BQ a b)):=.pure λA W s=>
 ⟨.int .u64 (BQ a b).toNat,by
   simp[execOp,resolve,invoke,builtin,Builtin.min_,Builtin.min2,hJ.1 (an A W s),hJ.1 (hy A W s)];unfold BQ;split <;> split <;> first|rfl|(rename_i h1 ae;simp only[GL]at *;omega),hJ.2 I⟩
end
section
variable{c:cC}{E:aa (Nat×J)}{L:aa aI}{ops:Array Oper}{Q:Exit->Act->bq->Prop}
variable{d:aA Tmp}{ty:bF}{pos:String}{af:Array Edge}{g:aA (Nat×Bool)}{x y:ca}{t t2:bF}
def Src(c:cC)(E:aa (Nat×J))(L:aa aI)(y:ca)(N:Nat){α:Type}[aj α](vs:aa α):Prop:=
 ∀a W,bP c E L a W->(Builtin.lenOf (a.eval y)).run c.P W=.ok N W∧∃cells:aa bt,(Builtin.firstCells (aj.size α) vs.length (a.eval y)).run c.P W=.ok cells.toArray W∧hx (ks L++c.b3) W cells vs∧∀v∈cells,v.oneCell'=true
def ad.Nl{rest:aa Oper}{i e p off bc dLen dCap N T:Nat}{cp cp':eL}{α:Type}[aj α]{vs:aa α}(hu:c.P.underlying t=some (.slice e))(eM:bS c.P e α)
 (an:aU c E L x (.eq (.slice (some ⟨p,off,none⟩) dLen dCap))) (hy:Src c E L y N vs) (aqB:Nat.min N dLen=vs.length) (ax:L[i]? =some ⟨some p,cp⟩) (aM:Nat.blt bc c.n=true)
 (asm:∀A W o cells,cp.holds A W o->hx A W cells vs->∃cs,o=.cells cs T (0,0)∧off+cells.length<=cs.size∧cp'.holds A W (.cells (cs.toList.take off++cells++cs.toList.drop (off+cells.length)).toArray T (0,0)))
 (k:ad c ops Q rest ((bc,.of (vs.length:Int))::E) (L.set i ⟨some p,cp'⟩)):
 ad c ops Q (⟨some bc,.call ⟨.builtin .copy,#[x,y],#[t,t2]⟩,ty,pos,af,none⟩::rest) E L:=λa W s=>by
 have kc:bc<c.n:=by simpa using aM
 have h1:a.eval x=_:=an a W s
 obtain⟨ao,cells,ak,aE,ET⟩:=hy a W s
 obtain⟨o,a8,cB⟩:=s.own _ (e6 ax)
 obtain⟨cs,rfl,NM,rN⟩:=asm _ _ _ _ cB aE
 obtain⟨gH,eo,dR⟩:=eM.info
 have cv:=F6 (P:=c.P) p off T cells 0 cs W a8 (by omega) ET
 simp only[Nat.add_zero]at cv
 have j7:(execOp a.eval ⟨some bc,.call ⟨.builtin .copy,#[x,y],#[t,t2]⟩,ty,pos,af,none⟩).run c.P W=.ok (.value (goInt vs.length)) (W.setRow p (cs.toList.take off++cells++cs.toList.drop (off+cells.length)).toArray):=by
  simp[execOp,resolve,invoke,builtin,Builtin.copy_,h1,ee hu,ao,aqB,Go.sizeOf,typeInfo,eo,dR,ak,cv]
 refine iO I (R:=λv ix=>v=goInt vs.length∧ix=W.setRow p (cs.toList.take off++cells++cs.toList.drop (off+cells.length)).toArray) (.mV j7 ⟨rfl,rfl⟩) λv ix ⟨ba,hw⟩=>?_
 subst ba
 subst hw
 exact k _ _ ((s.store ax a8 rN).put kc (of_int.2 I))
def Mn{i T cap lo N k:Nat}{key:aA Nat}{α:Type}[aj α]{xs:aa α}(hy:aU c E L y (.eq (jd key lo N cap (aj.size α))))(ax:L[i]? =some ⟨key,.row T xs cap⟩)(hk:0<k)(jL:lo+k<=xs.length):
 Src c E L y N ((xs.drop lo).take k):=λa W s=>by
 obtain⟨p,cs,rfl,e3,g1,g2,g3,g4⟩:=s.rowAt ax (by omega)
 have h1:a.eval y=_:=hy a W s
 have lh:cap≠lo:=by omega
 have ba:a.eval y=.slice (some ⟨p,lo*aj.size α,none⟩) N (cap-lo):=by rw[h1];simp[jd,lh]
 have hlen:((xs.drop lo).take k).length=k:=by rw[fT,ku];omega
 have tI:cs.toList.length=cap*aj.size α:=by simpa using g1
 have aqC:(lo+k)*aj.size α<=xs.length*aj.size α:=hC _ jL
 have NL:xs.length*aj.size α<=cap*aj.size α:=hC _ g2
 rw[nu]at aqC
 have abO:((cs.toList.drop (lo*aj.size α)).take (k*aj.size α)).length=k*aj.size α:=by rw[fT,ku];omega
 have fV:hx (ks L++c.b3) W ((cs.toList.drop (lo*aj.size α)).take (k*aj.size α)) ((xs.drop lo).take k):=by
  refine⟨by rw[abO,hlen],λj aC=>?_⟩;rw[hlen]at aC;have a7:=g4.2 (lo+j) (by omega);have fQ:=D3 (s:=aj.size α) aC;have auu:=D3 (s:=aj.size α) (show lo+j<xs.length by omega);rw[vL,sd,pd (by omega)]at a7;rw[vL,sd,pd (by omega),GA,<-nu];simpa using a7
 have e5:=CT (P:=c.P) W ⟨p,lo*aj.size α,none⟩ ((cs.toList.drop (lo*aj.size α)).take (k*aj.size α)) λj v ba=>by
  rw[kg,zI W p _ cs T (0,0) e3];rw[k3]at ba;split at ba
  ·rw[mo]at ba;simpa using ba
  cases ba
 rw[abO]at e5
 refine⟨by rw[ba];rfl,(cs.toList.drop (lo*aj.size α)).take (k*aj.size α),?_,fV,fV.one⟩
 rw[ba]
 simp only[Builtin.firstCells]
 rw[hlen]
 exact e5
def Q5{p lo n cap size:Nat}(h:cap≠lo):jd (some p) lo n cap size=Value.slice (some ⟨p,lo*size,none⟩) n (cap-lo):=by simp[jd,h]
def Yy{i T cap:Nat}{key:aA Nat}{α:Type}[aj α]{xs:aa α}(hy:aU c E L y (.eq (aH key xs.length cap)))(ax:L[i]? =some ⟨key,.row T xs cap⟩)(an:0<xs.length):Src c E L y xs.length xs:=by
 have:=Mn (lo:=0) (k:=xs.length) (N:=xs.length) (by rw[DN];exact hy) ax an (by omega);simpa using this
def MG{key:aA Nat}{n cap size:Nat}(h:aU c E L x (.eq (jd key 0 n cap size))):aU c E L x (.eq (aH key n cap)):=by rw[<-DN (size:=size)];exact h
def RC{p lo n cap size:Nat}(ak:cap≠lo)(h:aU c E L x (.eq (jd (some p) lo n cap size))):aU c E L x (.eq (.slice (some ⟨p,lo*size,none⟩) n (cap-lo))):=by rw[<-Q5 ak];exact h
def eL.Jj{α:Type}[aj α](T:bF)(xs:aa α)(i m cap:Nat):eL where
 holds A W o:=∃cs,o=.cells cs T (0,0)∧cs.size=cap*aj.size α∧xs.length+m<=cap∧cap<=maxLen∧hx A W (cs.toList.take (i*aj.size α)) (xs.take i)∧
  hx A W ((cs.toList.drop ((i+m)*aj.size α)).take ((xs.length-i)*aj.size α)) (xs.drop i)
 pC:=False
 mono e h:=let⟨cs,h1,ae,az,aQ,a7,bp⟩:=h; ⟨cs,h1,ae,az,aQ,a7.mono e,bp.mono e⟩
def ajY{α:Type}[aj α]{T i m cap:Nat}{xs:aa α}(au:i<=xs.length)(hm:xs.length+m<=cap){A W o cells}(h:(eL.row T xs cap).holds A W o)(ak:hx A W cells (xs.drop i)):
 ∃cs,o=.cells cs T (0,0)∧(i+m)*aj.size α+cells.length<=cs.size∧(eL.Jj T xs i m cap).holds A W (.cells (cs.toList.take ((i+m)*aj.size α)++cells++cs.toList.drop ((i+m)*aj.size α+cells.length)).toArray T (0,0)):=by
 obtain⟨cs,rfl,g1,g2,g3,g4⟩:=h
 have tI:cs.toList.length=cap*aj.size α:=by simpa using g1
 have lh:cells.length=(xs.length-i)*aj.size α:=by rw[ak.1,ku]
 have ar:(i+m)*aj.size α+(xs.length-i)*aj.size α=(xs.length+m)*aj.size α:=by rw[<-nu];congr 1;omega
 have aK:(xs.length+m)*aj.size α<=cap*aj.size α:=hC _ hm
 have cr:i*aj.size α<=(i+m)*aj.size α:=hC _ (by omega)
 have e4:i*aj.size α<=xs.length*aj.size α:=hC _ au
 have hT:(cs.toList.take ((i+m)*aj.size α)).length=(i+m)*aj.size α:=by rw[fT];omega
 refine⟨cs,rfl,by omega,_,rfl,?_,hm,g3,?_,?_⟩
 ·simp only[F5,gj,fT,ku];omega
 ·rw[List.toList_toArray,jE,CI (by rw[hT];omega),sd,pd cr]
  have:=Mb au (⟨cs,rfl,g1,g2,g3,g4⟩:(eL.row T xs cap).holds A W (.cells cs T (0,0)))
  obtain⟨asn,h1,_,_,_,a7⟩:=this
  cases h1
  rwa[fT,pd au]at a7
 rw[List.toList_toArray,jE,List.drop_left' hT,<-lh,Lh]
 exact ak
def aiL{α:Type}[aj α]{T i cap:Nat}{xs vs:aa α}(au:i<=xs.length){A W o cells}(h:(eL.Jj T xs i vs.length cap).holds A W o)(ak:hx A W cells vs):
 ∃cs,o=.cells cs T (0,0)∧i*aj.size α+cells.length<=cs.size∧(eL.row T (xs.take i++vs++xs.drop i) cap).holds A W (.cells (cs.toList.take (i*aj.size α)++cells++cs.toList.drop (i*aj.size α+cells.length)).toArray T (0,0)):=by
 obtain⟨cs,rfl,g1,g2,g3,g4,g5⟩:=h
 have tI:cs.toList.length=cap*aj.size α:=by simpa using g1
 have lh:cells.length=vs.length*aj.size α:=ak.1
 have fo:i*aj.size α+vs.length*aj.size α=(i+vs.length)*aj.size α:=by rw[<-nu]
 have ar:(i+vs.length)*aj.size α+(xs.length-i)*aj.size α=(xs.length+vs.length)*aj.size α:=by rw[<-nu];congr 1;omega
 have aK:(xs.length+vs.length)*aj.size α<=cap*aj.size α:=hC _ g2
 have hlen:(xs.take i++vs++xs.drop i).length=xs.length+vs.length:=by simp;omega
 refine⟨cs,rfl,by omega,_,rfl,?_,by rw[hlen];exact g2,g3,?_⟩
 ·simp only[F5,gj,fT,ku];omega
 rw[List.toList_toArray,hlen]
 have qi:=xH (xH g4 ak) g5
 have hT:(cs.toList.take (i*aj.size α)++cells).length=(i+vs.length)*aj.size α:=by rw[gj,fT];omega
 have lq:(cs.toList.take (i*aj.size α)++cells++cs.toList.drop (i*aj.size α+cells.length)).take ((xs.length+vs.length)*aj.size α)=cs.toList.take (i*aj.size α)++cells++(cs.toList.drop ((i+vs.length)*aj.size α)).take ((xs.length-i)*aj.size α):=by
  rw[K3,hT,s6 (by omega),lh,fo];congr 2;omega
 rw[lq]
 exact qi
def QJ{α:Type}[aj α]{T lo cap:Nat}{xs vs:aa α}(hk:lo+vs.length<=xs.length){A W o cells}(h:(eL.row T xs cap).holds A W o)(ak:hx A W cells vs):
 ∃cs,o=.cells cs T (0,0)∧lo*aj.size α+cells.length<=cs.size∧(eL.row T (xs.take lo++vs++xs.drop (lo+vs.length)) cap).holds A W (.cells (cs.toList.take (lo*aj.size α)++cells++cs.toList.drop (lo*aj.size α+cells.length)).toArray T (0,0)):=by
 obtain⟨cs,rfl,g1,g2,g3,g4⟩:=h
 have tI:cs.toList.length=cap*aj.size α:=by simpa using g1
 have lh:cells.length=vs.length*aj.size α:=ak.1
 have fo:lo*aj.size α+vs.length*aj.size α=(lo+vs.length)*aj.size α:=by rw[<-nu]
 have ar:(lo+vs.length)*aj.size α<=xs.length*aj.size α:=hC _ hk
 have aK:xs.length*aj.size α<=cap*aj.size α:=hC _ g2
 have hlen:(xs.take lo++vs++xs.drop (lo+vs.length)).length=xs.length:=by simp;omega
 refine⟨cs,rfl,by omega,_,rfl,?_,by rw[hlen];exact g2,g3,?_⟩
 ·simp only[F5,gj,fT,ku];omega
 rw[List.toList_toArray,hlen]
 have g5:=Xi (lo:=lo) g4 ak hk
 have e:(cs.toList.take (lo*aj.size α)++cells++cs.toList.drop (lo*aj.size α+cells.length)).take (xs.length*aj.size α)=(cs.toList.take (xs.length*aj.size α)).take (lo*aj.size α)++cells++(cs.toList.take (xs.length*aj.size α)).drop (lo*aj.size α+cells.length):=by
  have cr:(cs.toList.take (lo*aj.size α)++cells).length=lo*aj.size α+cells.length:=by rw[gj,fT];omega
  rw[K3,cr,s6 (by omega),sd,pd (by omega),vL]
 rw[e]
 exact g5
def ald{p n cap e:Nat}(hu:c.P.underlying t=some (.slice e))(an:aU c E L x (.eq (aH (some p) n cap))):bj c E L ⟨d,.call ⟨.builtin .cap,#[x],#[t]⟩,ty,pos,af,g⟩ (.of (cap:Int)):=.pure λa W s=>by
 have h1:a.eval x=_:=an a W s;exact⟨.int .i64 cap,by simp[execOp,resolve,invoke,builtin,Builtin.cap_,h1,aH,ee hu,goInt],of_int.2 I⟩
def v8{p n cap:Nat}{α:Type}[aj α]{e:bF}{lo au:aA ca}{m h:Nat}{Ki Kj:Int}(hu:c.P.underlying t=some (.slice e))(eM:bS c.P e α)(an:aU c E L x (.eq (aH (some p) n cap)))
 (jL:y4 c E L lo Ki 0) (gQ:y4 c E L au Kj n) (hm:Ki=m) (aM:Kj=h) (cB:m<=h∧h<=cap):
 bj c E L ⟨d,.slice t x lo au none,ty,pos,af,g⟩ (.eq (jd (some p) m (h-m) cap (aj.size α))):=.pure λa W s=>by
 subst hm;subst aM
 obtain⟨wT,ng⟩:=cB
 obtain⟨gH,eo,dR⟩:=eM.info
 have h1:a.eval x=_:=an a W s
 refine⟨_,?_,rfl⟩
 simp only[jd]
 have ax:∀v,v=Value.int .i64 m->(Instr.sliceBound v h .sliceB).run c.P W=.ok m W:=λv ba=>si wT ba
 have hH:∀v,v=Value.int .i64 h->(Instr.sliceBound v cap .sliceAcap).run c.P W=.ok h W:=λv ba=>si (by omega) ba
 generalize fQ:(h:Int)=adn at gQ
 generalize Jt:(m:Int)=ado at jL
 generalize Ca:(n:Int)=adp at gQ
 generalize acE:(0:Int)=adq at jL
 cases jL with
 | none=>
   have h3:m=0:=by omega
   cases gQ with
   | none=>
     have ng:h=n:=by omega
     subst ng
     subst h3
     simp[execOp,Instr.sliceAt,Instr.slice,Instr.sliceBounds,h1,aH,ee hu,Go.sizeOf,typeInfo,eo,dR,kg]
   | some cB=>
     subst fQ
     subst h3
     simp[execOp,Instr.sliceAt,Instr.slice,Instr.sliceBounds,h1,aH,ee hu,Go.sizeOf,typeInfo,eo,dR,kg,hH _ (of_int.1 (cB a W s))]
 | some ao=>
   subst Jt
   cases gQ with
   | none=>
     have ng:h=n:=by omega
     subst ng
     simp[execOp,Instr.sliceAt,Instr.slice,Instr.sliceBounds,h1,aH,ee hu,Go.sizeOf,typeInfo,eo,dR,kg,ax _ (of_int.1 (ao a W s))]
     split <;> rfl
   | some cB=>
     subst fQ
     simp[execOp,Instr.sliceAt,Instr.slice,Instr.sliceBounds,h1,aH,ee hu,Go.sizeOf,typeInfo,eo,dR,kg,ax _ (of_int.1 (ao a W s)),hH _ (of_int.1 (cB a W s))]
     split <;> rfl
def anW{f:FuncId}{fn:Func}{p q T U cap cap' i j e tR c6 adt fu Cz adu pO:Nat}{α:Type}[aj α]{xs vs:aa α}(I1:Nat.beq (aj.size α) 0=false)
 (aW:c.P.funcs[f]? =some fn) (aov:(fn.name== "runtime.NumGoroutine")=false) (hb:fn.body.isNone=true) (aM:Extern.findNext fn=none)
 (he:Extern.find fn=some (Extern.SlicesOverlaps.overlaps #[t,t] #[tR])) (hu:c.P.underlying t=some (.slice e)) (eM:bS c.P e α)
 (an:aU c E L x (.eq (.slice (some ⟨q,adu,none⟩) c6 adt))) (hy:aU c E L y (.eq (.slice (some ⟨p,pO,none⟩) fu Cz)))
 (au:L[i]? =some ⟨some p,.row T xs cap⟩) (aC:L[j]? =some ⟨some q,.row U vs cap'⟩) (yH:p≠q) (yi:0<cap):
 bj c E L ⟨d,.call ⟨.value (.func f),#[x,y],#[t,t]⟩,ty,pos,af,g⟩ (.of false):=.pure λa W s=>by
 obtain⟨o,a8,cs,rfl,g1,g2,g3,g4⟩:=s.own _ (e6 au)
 obtain⟨o',qo,eW,rfl,aR,bD,cf,c0⟩:=s.own _ (e6 aC)
 obtain⟨gH,eo,dR⟩:=eM.info
 have h1:a.eval x=_:=an a W s
 have ae:a.eval y=_:=hy a W s
 have oX:aj.size α≠0:=λh=>by rw[h]at I1;cases I1
 have dm:cs.size≠0:=by rw[g1];exact Nat.mul_ne_zero (by omega) oX
 have JA:=Lib.run_overlaps_apart (P:=c.P) W t tR e hu (aj.size α) (λw=>by simp[Go.sizeOf,typeInfo,eo,dR]) ⟨q,adu,none⟩ ⟨p,pO,none⟩ c6 adt fu Cz (λh=>yH h.symm) U T eW.size cs.size
  (by simp[World.shape?,qo]) (by simp[World.shape?,a8]) dm (by simp[World.frozen?,qo]) (by simp[World.frozen?,qo])
 refine⟨.bool false,?_,by exact of_bool.2 I⟩
 have bJ:a.eval (.func f)=.func (.func f) #[] #[]:=rfl
 simp[execOp,resolve,Deferred.ofValue,bJ,invoke,run_callFunc_extern aW aov hb aM he,h1,ae,JA]
def ad.aqh{α:Type}[aj α]{rest:aa Oper}{bc i e bytes cap m k p T:Nat}{kn:IntKind}{xs:aa α}{z:α}(hu:c.P.underlying t=some (.slice e))(l9:c.P.underlying t2=some (.int kn))(eM:bS c.P e α)(gT:dx c.P e z)(I1:Nat.beq (aj.size α) 0=false)
 (Cb:(c.P.info? e).map (·.bytes)=some bytes) (an:aU c E L x (.eq (jd (some p) 0 m cap (aj.size α)))) (hy:aU c E L y (.of (k:Int))) (ax:L[i]? =some ⟨some p,.row T xs cap⟩) (hm:m<=xs.length) (hk:0<k) (bH:cap<m+k)
 (oW:(m+k)*bytes<=140737488355328) (rU:m+k<=maxLen) (aM:Nat.blt bc c.n=true)
 (nm:∀q cap',ad c ops Q rest ((bc,.eq (aH (some q) (m+k) cap'))::E) (⟨some q,.row e (xs.take m++List.replicate k z) cap'⟩::L)):
 ad c ops Q (⟨some bc,.call ⟨.builtin .append,#[x,y],#[t,t2]⟩,ty,pos,af,none⟩::rest) E L:=λa W s=>by
 obtain⟨gH,ed,eo,b2,vq⟩:=gT.zero
 have qj:gH.size=aj.size α:=by
  obtain⟨i2,h1,ae⟩:=eM.info;rw[eo]at h1;cases h1;exact ae
 have RL:gH.bytes=bytes:=by simpa[eo]using Cb
 subst RL
 have Cc:ed.cells.size=aj.size α:=by have:=aj.len (vq [] W).2;simpa using this
 have oX:aj.size α≠0:=λh=>by rw[h]at I1;cases I1
 have kc:bc<c.n:=by simpa using aM
 have h1:a.eval x=.slice (some ⟨p,0,none⟩) m cap:=by
  have:=an a W s;rw[DN]at this;exact this
 obtain⟨o,a8,cs,rfl,g1,g2,g3,g4⟩:=s.own _ (e6 ax)
 have pI:maxLen=9223372036854775807:=rfl
 have ae:a.eval y=.int .i64 k:=of_int.1 (hy a W s)
 have aqD:=Mb hm (⟨cs,rfl,g1,g2,g3,g4⟩:(eL.row T xs cap).holds (ks L++c.b3) W (.cells cs T (0,0)))
 obtain⟨asn,ar,_,_,_,JB⟩:=aqD
 cases ar
 have S8:(xs.take m).length=m:=by rw[fT];omega
 rw[S8]at JB
 have tk:∀(j:Nat) u,(cs.toList.take (m*aj.size α))[j]? =some u->W.drew.cell? ((⟨p,0,none⟩:Addr).add j)=some u:=by
  intro j u o1;rw[k3]at o1;split at o1
  ·rw[kg,jQ,zI W.drew p j cs T (0,0) a8];simpa using o1
  cases o1
 have hold:=CT (P:=c.P) W.drew ⟨p,0,none⟩ _ tk
 rw[JB.1,S8]at hold
 have aE:=Lib.run_append_grow_zeros (P:=c.P) W t t2 ty e gH ed .i64 kn hu l9 eo b2 (some ⟨p,0,none⟩) m cap _ (by simp only[Builtin.firstCells];rw[qj];exact hold) k hk (by omega) bH (by omega)
  (by have:k*gH.bytes<=(m+k)*gH.bytes:=hC _ (by omega)
      omega) (growslice_fits bH oW)
 have wZ:=grownCap_ge W (m+k) cap e
 have hle:=grownCap_le_maxLen W (m+k) cap e rU
 have Oc:=vq (ks L++c.b3) W
 have tJ:=HE Oc k oX
 have Tv:Builtin.zeroCells ed.cells k=(Array.range (k*aj.size α)).map (ed.cells[· % ed.cells.size]!):=by rw[Builtin.zeroCells,Cc]
 rw[<-Tv]at tJ
 have Ev:=(xH JB tJ).mono (Ext.dI (Fr.drew W))
 have hlen:(xs.take m++List.replicate k z).length=m+k:=by rw[gj,S8,CN]
 have cv:=(s.world (Fr.drew W)).alloc (o:=.cells ((cs.toList.take (m*aj.size α)).toArray++Builtin.zeroCells ed.cells k++Builtin.zeroCells ed.cells (grownCap W (m+k) cap e-(m+k))) e)
  (cp:=.row e (xs.take m++List.replicate k z) (grownCap W (m+k) cap e))
  (Q8 (T:=e) Ev (ds:=(Builtin.zeroCells ed.cells (grownCap W (m+k) cap e-(m+k))).toList) (by rw[Array.length_toList,size_zeroCells,Cc,hlen]) (by rw[hlen];exact wZ) hle (by simp))
 refine iO I (R:=λv ix=>v=aH (some W.heap.size) (m+k) (grownCap W (m+k) cap e)∧ix=W.drew.alloc (.cells ((cs.toList.take (m*aj.size α)).toArray++Builtin.zeroCells ed.cells k++Builtin.zeroCells ed.cells (grownCap W (m+k) cap e-(m+k))) e)) (.mV ?_ ⟨rfl,rfl⟩) λv ix ⟨ba,hw⟩=>?_
 ·simp only[execOp,resolve,invoke,builtin,dU,Sem.run_pure,Result.andThen_ok]
  have ar:(#[x,y]:Array ca).map a.eval= #[a.eval x,a.eval y]:=by simp
  rw[ar,h1,ae,aE]
  rfl
 subst ba
 subst hw
 exact nm _ _ _ _ (cv.put kc I)
def ay.some{code:Code}{i T cap:Nat}{key:aA Nat}{α:Type}[aj α]{xs:aa α}(ax:L[i]? =Option.some ⟨key,.row T xs cap⟩)(an:0<xs.length)(k:∀p,key=Option.some p->xs.length<=cap->cap<=maxLen->ay c Q code E L):ay c Q code E L:=λa W s=>by
 obtain⟨p,cs,rfl,e3,g1,g2,g3,g4⟩:=s.rowAt ax an;exact k p I g2 g3 a W s
def ay.apart{code:Code}{p q:Nat}{cp cp':eL}{L':aa aI}(ax:L=⟨Option.some p,cp⟩::⟨Option.some q,cp'⟩::L')(k:p≠q->ay c Q code E L):ay c Q code E L:=λa W s=>by
 refine k (λe=>?_) a W s;have:=s.nodup;rw[ax,e]at this;simp[ks]at this
def alb{t:Nat}{ty:bF}{i p:Nat}{α:Type}[aj α]{x:α}{os:aa (Nat×bt)}(dP:bS c.P ty α)(aY:aj.agg α=true)(h:look E t=some (.eq (.pointer (some ⟨p,0,none⟩))))(ax:L[i]? =some ⟨some p,.bX x os⟩):qq c E L (.cell t ty) (.B5 x os):=λa W s=>by
 obtain⟨v,h1,ae⟩:=s.env t _ h;subst ae;obtain⟨pO,e3,cs,T,rfl,fV⟩:=s.own _ (e6 ax);have tk:∀j v,cs.toList[j]? =some v->W.cell? ((⟨p,0,none⟩:Addr).add j)=some v:=by
  intro j v ba;rw[kg,zI W p (0+j) cs T (0,0) e3,jQ];simpa using ba
 have az:=CT (P:=c.P) W ⟨p,0,none⟩ _ tk;rw[fV.len]at az;refine⟨.agg cs.toList.toArray,?_,by simp[shaped,aY],by simpa[Value.cells]using fV⟩;simp[xZ,h1,asAddr,loadVar,dP.isAgg,dP.sizeOf,aY,az]
def XV{α γ:Type}[aj α][aj γ]{A W}{cs:aa bt}{x:α}{os:aa (Nat×bt)}{u:bt}(l:aP α (aa γ))(h:nF A W cs x os)(hq:(l.off,u)∈os):nF A W cs (l.set x []) os:=by
 refine⟨?_,h.2⟩;have h1:=l.n1 (ds:=[l7]) (g:=([]:aa γ)) h.1 (show aj.rep A W [l7] ([]:aa γ)from by
  have:=(p3 (A:=A) (W:=W) (v:=l7) (xs:=([]:aa γ))).2 (.inl ⟨rfl,rfl⟩);exact this.2)
 have hb:(blank os cs)[l.off]? =some l7:=by
  rw[uG,bk (pc.2 ⟨_,hq,by simp⟩),(h.2 _ hq).1];rfl
 have ch:l.off<(blank os cs).length:=(hh.1 hb).1;have he:(blank os cs).take l.off++[l7]++(blank os cs).drop (l.off+aj.size (aa γ))=blank os cs:=by
  show(blank os cs).take l.off++[l7]++(blank os cs).drop (l.off+1)=blank os cs;have ae:(blank os cs)[l.off]=l7:=(hh.1 hb).2;rw[<-ae,jE,List.singleton_append,OY,gp]
 rwa[he]at h1
def ad.Jd{Kk:aa Oper}{p:Nat}{β γ:Type}[aj β][aj γ]{b b':β}{os:aa (Nat×bt)}{u:bt}(l:aP β (aa γ))(i q:Nat)(ax:L[i]? =some ⟨some p,.bX b os⟩)(hq:os[q]? =some (l.off,u))(hb:l.set b []=b')
 (k:ad c ops Q Kk E (L.set i ⟨some p,.bX b' os⟩)):ad c ops Q Kk E L:=λa W s=>
 k a W (s.again ax (λA W o ⟨cs,T,h1,ae⟩=>⟨cs,T,h1,hb▸XV l ae (e6 hq)⟩) id)
def aq.Jd{z:Exit}{p:Nat}{β γ:Type}[aj β][aj γ]{b b':β}{os:aa (Nat×bt)}{u:bt}(l:aP β (aa γ))(i q:Nat)(ax:L[i]? =some ⟨some p,.bX b os⟩)(hq:os[q]? =some (l.off,u))(hb:l.set b []=b')
 (k:aq c Q z E (L.set i ⟨some p,.bX b' os⟩)):aq c Q z E L:=λa W s=>
 k a W (s.again ax (λA W o ⟨cs,T,h1,ae⟩=>⟨cs,T,h1,hb▸XV l ae (e6 hq)⟩) id)
end
def IY{α:Type}(bytes:Nat)(xs:aa α)(i:Int)(vs:aa α):aA (aa α):=
 if 0<=i∧i<=xs.length∧0<vs.length∧(xs.length+vs.length)*bytes<=140737488355328∧xs.length+vs.length<=maxLen then some (xs.take i.toNat++vs++xs.drop i.toNat)else none
def ahT{α:Type}{bytes:Nat}{xs vs r:aa α}{i:Int}(h:IY bytes xs i vs=some r):
 ∃k:Nat,i=k∧k<=xs.length∧0<vs.length∧(xs.length+vs.length)*bytes<=140737488355328∧xs.length+vs.length<=maxLen∧r=xs.take k++vs++xs.drop k:=by
 unfold IY at h
 split at h
 ·rename_i ak
  obtain⟨h1,ae,az,aQ,a7⟩:=ak
  exact⟨i.toNat,by omega,by omega,az,aQ,a7,(by simp only[gy]at h;exact h.symm)⟩
 cases h
end Gv
