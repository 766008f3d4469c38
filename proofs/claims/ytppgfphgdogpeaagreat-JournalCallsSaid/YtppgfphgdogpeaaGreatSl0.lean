/-
  The library of the decompiler, as far as it is needed here. Conditions: none.
-/
import Derived.WalkKit
import Derived.StillTail
import Derived.OwnWalkIn
import Derived.RangeFuncNested
import Derived.RangeFuncLeaves
import Derived.RangeFuncCalls
import Derived.ChangeSame
import Derived.OpenShut
import Derived.Carry
import Derived.DataReads
import Derived.Lib.AppendZerosOnto
import Derived.Lib.Overlaps
set_option linter.defProp false
set_option linter.unusedVariables false
set_option linter.unusedSimpArgs false
namespace Gv
open Go
def I{α:Sort _}{a:α}:a=a:=rfl
def lJ:True:=trivial
abbrev aa:=@List
abbrev aE:=@Option
abbrev bo:=@Go.World
abbrev br:=@Go.Value
abbrev bJ:=@Go.TypeId
abbrev cw:=@Go.Operand
def UJ:=@Array.getD_eq_getD_getElem?
def v8:=@Array.getElem?_append_left
def Kl:=@Array.getElem?_eq_getElem
def UU:=@Array.getElem?_eq_none
def sP:=@Array.getElem?_eq_some_iff
def Ou:=@Array.getElem?_modify
def Oh:=@Array.getElem?_setIfInBounds_ne
def zA:=@Array.getElem?_toList
def On:=@Array.size_setIfInBounds
def Ve:=@Array.toList_filter
def zy:=@BitVec.eq_of_getLsbD_eq
def zB:=@BitVec.eq_of_toNat_eq
def Cq:=@BitVec.getLsbD_and
def zD:=@BitVec.getLsbD_of_ge
def OQ:=@BitVec.getLsbD_or
def UQ:=@BitVec.getLsbD_shiftLeft
def Oj:=@BitVec.getLsbD_ushiftRight
def Cp:=@BitVec.getLsbD_zero
def CS:=@BitVec.le_def
def zU:=@BitVec.lt_def
def KA:=@BitVec.toNat_ofNat
def UW:=@BitVec.toNat_shiftLeft
def Ko:=@BitVec.toNat_ushiftRight
def gm:=@Bool.and_eq_true
def zV:=@Bool.and_true
def pN:=@Bool.eq_false_iff
def kQ:=@Bool.eq_iff_iff
def sR:=@Bool.false_eq_true
def r3:=@Bool.false_or
def KB:=@Bool.not_eq_false'
def jk:=@Bool.not_eq_true
def r1:=@Bool.not_eq_true'
def KY:=@Bool.not_false
def OA:=@Bool.or_eq_false_iff
def qo:=@Bool.or_eq_true
def qp:=@Bool.true_and
def Pq:=@Bool.true_or
def UN:=@Classical.byContradiction
def Hg:=@Eq.trans
def pK:=@Int.eq_ofNat_of_zero_le
def xY:=@Int.le_refl
def Vk:=@Int.natCast_nonneg
def FB:=@Int.tmod_lt_of_pos
def O3:=@Int.tmod_nonneg
def Ov:=@List.Perm.append_left
def KZ:=@List.Perm.refl
def zL:=@List.Sublist.refl
def lk:=@List.all_eq_true
def wc:=@List.any_eq_false
def oo:=@List.any_eq_true
def iJ:=@List.append_assoc
def Kp:=@List.append_cancel_left
def Ow:=@List.append_inj_left'
def ot:=@List.append_nil
def Vl:=@List.contains_cons
def Ox:=@List.contains_iff_mem
def U2:=@List.contains_toArray
def OM:=@List.countP_append
def U3:=@List.countP_le_length
def Oy:=@List.countP_singleton
def OR:=@List.count_append
def Vm:=@List.count_eq_zero
def zE:=@List.count_le_length
def OT:=@List.drop_append
def UI:=@List.drop_append_of_le_length
def Gr:=@List.drop_drop
def q4:=@List.drop_eq_getElem_cons
def Kt:=@List.drop_eq_nil_iff
def zz:=@List.drop_eq_nil_of_le
def r2:=@List.drop_length
def Cj:=@List.drop_of_length_le
def Vf:=@List.drop_succ_cons
def wg:=@List.drop_take
def wh:=@List.drop_zero
def Oi:=@List.eq_nil_of_length_eq_zero
def OB:=@List.eraseIdx_set_eq
def FV:=@List.ext_getElem
def nR:=@List.ext_getElem?
def U4:=@List.filterMap_append
def mG:=@List.filter_append
def vb:=@List.filter_cons_of_neg
def xI:=@List.filter_cons_of_pos
def UX:=@List.filter_eq_nil_iff
def sQ:=@List.filter_eq_self
def O4:=@List.filter_map
def Kv:=@List.filter_sublist
def FL:=@List.find?_append
def Ck:=@List.find?_cons_of_neg
def Fh:=@List.find?_cons_of_pos
def xL:=@List.find?_eq_none
def O5:=@List.find?_some
def OF:=@List.flatMap_append
def KU:=@List.forIn_cons
def OC:=@List.getElem?_append
def Om:=@List.getElem?_append_left
def UL:=@List.getElem?_append_right
def mH:=@List.getElem?_drop
def o4:=@List.getElem?_eq_getElem
def Oz:=@List.getElem?_eq_none
def ir:=@List.getElem?_eq_some_iff
def UY:=@List.getElem?_eraseIdx
def qn:=@List.getElem?_set
def xJ:=@List.getElem?_set_ne
def Fi:=@List.getElem?_set_self
def lE:=@List.getElem?_take
def Oq:=@List.getElem_cons_drop
def pO:=@List.getElem_map
def j0:=@List.getElem_mem
def FC:=@List.getElem_of_eq
def Kw:=@List.getElem_of_mem
def ON:=@List.getElem_range
def KI:=@List.getElem_take
def gH:=@List.length_append
def ke:=@List.length_drop
def UZ:=@List.length_eq_one_iff
def Fe:=@List.length_eq_zero_iff
def UR:=@List.length_erase_of_mem
def vc:=@List.length_filter_le
def k1:=@List.length_map
def U0:=@List.length_pos_of_mem
def Fj:=@List.length_replicate
def xP:=@List.length_set
def e8:=@List.length_take
def mI:=@List.map_append
def Fu:=@List.map_congr_left
def nS:=@List.map_cons
def KJ:=@List.map_inj_left
def sV:=@List.map_map
def K8:=@List.map_nil
def Pe:=@List.map_take
def cF:=@List.mem_append
def Fo:=@List.mem_append_left
def Cl:=@List.mem_append_right
def dP:=@List.mem_cons
def gx:=@List.mem_cons_of_mem
def jC:=@List.mem_cons_self
def Va:=@List.mem_erase_of_ne
def tV:=@List.mem_filter
def OO:=@List.mem_filterMap
def xK:=@List.mem_iff_getElem
def o5:=@List.mem_iff_getElem?
def ic:=@List.mem_map
def Ch:=@List.mem_of_find?_eq_some
def fB:=@List.mem_of_getElem?
def Cn:=@List.mem_of_mem_drop
def UO:=@List.mem_or_eq_of_mem_set
def lF:=@List.mem_range
def hT:=@List.mem_singleton
def q6:=@List.nil_sublist
def q5:=@List.nodup_append
def pP:=@List.nodup_cons
def Pa:=@List.nodup_nil
def vd:=@List.not_mem_nil
def wa:=@List.pairwise_append
def kz:=@List.pairwise_cons
def UP:=@List.pairwise_iff_getElem
def Cs:=@List.pairwise_map
def nQ:=@List.perm_append_comm
def UM:=@List.perm_ext_iff_of_nodup
def sS:=@List.perm_middle
def F8:=@List.range_succ
def U5:=@List.set_getElem_self
def Vn:=@List.singleton_inj
def FM:=@List.size_toArray
def Pf:=@List.take_add
def Ct:=@List.take_add_one
def KP:=@List.take_append
def gw:=@List.take_append_drop
def Cg:=@List.take_append_of_le_length
def Gs:=@List.take_left
def iD:=@List.take_length
def pL:=@List.take_of_length_le
def O6:=@List.take_range
def q8:=@List.take_take
def K5:=@Nat.add_assoc
def Pr:=@Nat.add_comm
def nU:=@Nat.add_mul
def nh:=@Nat.beq_refl
def U6:=@Nat.ble_eq_true_of_le
def F9:=@Nat.div_add_mod
def U1:=@Nat.div_div_eq_div_mul
def OY:=@Nat.div_eq_of_lt
def U7:=@Nat.div_lt_iff_lt_mul
def Vb:=@Nat.div_lt_of_lt_mul
def Py:=@Nat.div_one
def U8:=@Nat.eq_of_beq_eq_true
def Vo:=@Nat.eq_zero_or_pos
def pM:=@Nat.le_of_ble_eq_true
def iS:=@Nat.le_refl
def mg:=@Nat.le_trans
def zW:=@Nat.lt_irrefl
def rZ:=@Nat.lt_of_lt_of_le
def sW:=@Nat.lt_or_ge
def OS:=@Nat.lt_trichotomy
def oq:=@Nat.min_eq_left
def OU:=@Nat.min_eq_right
def zO:=@Nat.mod_eq_of_lt
def GZ:=@Nat.mod_lt
def sX:=@Nat.mul_comm
def Kx:=@Nat.mul_le_mul_left
def iu:=@Nat.mul_le_mul_right
def Ps:=@Nat.ne_of_lt
def Lb:=@Nat.one_mul
def FD:=@Nat.pos_of_ne_zero
def Vc:=@Nat.pow_le_pow_right
def Vd:=@Nat.pow_lt_pow_right
def Km:=@Nat.shiftRight_eq_div_pow
def sY:=@Nat.succ_mul
def US:=@Nat.testBit_div_two_pow
def kR:=@Nat.zero_add
def vg:=@Nat.zero_le
def zY:=@Nat.zero_mul
def x4:=@Ne.symm
def Pg:=@Go.Oper.semAt_eq
def tY:=@Go.Oper.wp_mono
def UT:=@Option.bind_eq_some_iff
def Kn:=@Option.isNone_iff_eq_none
def Ci:=@Option.isSome_iff_exists
def CA:=@Option.some.inj
def gl:=@Option.some.injEq
def K6:=@Prod.mk.injEq
def OD:=@Go.Region.waitsFor_spec
def eg:=@Go.Sem.run_bind
def Og:=@Std.Legacy.Range.forIn_eq_forIn_range'
def Ph:=@Go.StepsIn.trans
def Oo:=@Go.World.putObj_heap_other
def KQ:=@Go.World.size_alloc
def Hh:=@and_true
def Fp:=@beq_eq_false_iff_ne
def ni:=@beq_iff_eq
def FW:=@beq_self_eq_true
def GU:=@Go.calls_of_wp
def C0:=@Go.cell_of_row
def eG:=@congrArg
def q7:=@decide_eq_decide
def sT:=@decide_eq_false
def nP:=@decide_eq_false_iff_not
def q9:=@decide_eq_true
def e2:=@decide_eq_true_eq
def Pt:=@decide_false
def GV:=@decide_true
def C1:=@Go.fenced_calm
def ou:=@if_false
def bf:=@if_neg
def bh:=@if_pos
def lX:=@if_true
def x1:=@Go.mem_ready
def x5:=@not_or
def KC:=@of_decide_eq_false
def xM:=@of_decide_eq_true
def vh:=@or_false
def Lc:=@Go.run_endLoop
def O7:=@Go.run_eqGuard_agg
def KD:=@Go.run_loadCells_list
def FN:=@Go.run_storeCells_at
def ep:=@Go.run_underlying
def Ml(w:bo)(o:Obj)(i:Nat)(h:i<w.heap.size):(w.alloc o).heap[i]? =w.heap[i]? :=by
 show(w.heap.push o)[i]? =w.heap[i]?;rw[Array.getElem?_push,bf (Ps h)]
def Ry(w:bo)(o:Obj):(w.alloc o).heap[w.heap.size]? =some o:=by
 show(w.heap.push o)[w.heap.size]? =some o;simp
structure Fr(X:List Nat)(W W':World):Prop where
 os:W'.os=W.os
 tape:W'.tape=W.tape
 output:W'.output=W.output
 drawn:W.drawn<=W'.drawn
 size:W.heap.size<=W'.heap.size
 block:∀k,k<W.heap.size->k∉X->W'.heap[k]? =W.heap[k]?
def Fr.refl(X:aa Nat)(W:bo):Fr X W W:=⟨rfl,rfl,rfl,iS _,iS _,λ_ _ _=>rfl⟩
def Fr.trans{X:aa Nat}{A B C:bo}(h:Fr X A B)(k:Fr X B C):Fr X A C:=
 ⟨k.os.trans h.os,k.tape.trans h.tape,k.output.trans h.output,mg h.drawn k.drawn,mg h.size k.size,
   λi aq au=>(k.block i (rZ aq h.size) au).trans (h.block i aq au)⟩
def Fr.weaken{X Y:aa Nat}{A B:bo}(h:Fr X A B)(s:∀k∈X,k∈Y):Fr Y A B:=
 ⟨h.os,h.tape,h.output,h.drawn,h.size,λi aq au=>h.block i aq λhm=>au (s _ hm)⟩
def Fr.nil{X:aa Nat}{A B:bo}(h:Fr [] A B):Fr X A B:=h.weaken (by simp)
def Fr.alloc{X:aa Nat}(W:bo)(o:Obj):Fr X W (W.alloc o):=
 ⟨rfl,rfl,rfl,iS _,by simp,λk hk _=>Ml W o k hk⟩
def Fr.drew{X:aa Nat}(W:bo):Fr X W W.drew:=⟨rfl,rfl,rfl,Nat.le_succ _,iS _,λ_ _ _=>rfl⟩
def Fr.setRow{X:aa Nat}(W:bo)(g:Nat)(cs:Array br)(h:g∈X):Fr X W (W.setRow g cs):=
 ⟨rfl,rfl,rfl,iS _,by simp,λk _ au=>setRow_other W g k cs (λe=>au (e▸h))⟩
structure Ext(A:List Nat)(W:World)(cV:List Nat)(W':World):Prop where
 size:W.heap.size<=W'.heap.size
 block:∀k,k<W.heap.size->k∉A->W'.heap[k]? =W.heap[k]?
 new:∀k∈cV,k<W.heap.size->k∈A
def Ext.refl(A:aa Nat)(W:bo):Ext A W A W:=⟨iS _,λ_ _ _=>rfl,λ_ h _=>h⟩
def Ext.trans{A B C:aa Nat}{U V W:bo}(h:Ext A U B V)(k:Ext B V C W):Ext A U C W:=
 ⟨mg h.size k.size,
  λi aq aY=>(k.block i (rZ aq h.size) (λhb=>aY (h.new i hb aq))).trans (h.block i aq aY),
  λi ag aq=>h.new i (k.new i ag (rZ aq h.size)) aq⟩
def Ext.aav{A X:aa Nat}{W W':bo}(h:Fr X W W')(s:∀k∈X,k∈A):Ext A W A W':=
 ⟨h.size,λk hk aY=>h.block k hk λau=>aY (s k au),λ_ h _=>h⟩
def Ext.ef{A:aa Nat}{W W':bo}(h:Fr [] W W'):Ext A W A W':=.aav h (by simp)
def Ext.drop{A cV:aa Nat}{W:bo}(s:∀k∈cV,k∈A):Ext A W cV W:=⟨iS _,λ_ _ _=>rfl,λk h _=>s k h⟩
structure J where
 holds:List Nat->World->Value->Prop
 mono:∀{A W cV W' v},Ext A W cV W'->holds A W v->holds cV W' v
class ak (α:Type)where
 size:Nat
 agg:Bool
 rep:aa Nat->bo->aa br->α->Prop
 len:∀{A W cs x},rep A W cs x->cs.length=size
 one:∀{A W cs x},rep A W cs x->∀v∈cs,v.oneCell'=true
 flat:agg=false->size=1
 mono:∀{A W cV W' cs x},Ext A W cV W'->rep A W cs x->rep cV W' cs x
def shaped(b:Bool)(v:br):Prop:=if b=true then ∃cs,v=.agg cs else v.oneCell'=true
def cells_one{v:br}(h:v.oneCell'=true):v.cells= #[v]:=by cases v <;> first|rfl|simp[Value.oneCell']at h
def J.of{α:Type}[ak α](x:α):J where
 holds A W v:=shaped (ak.agg α) v∧ak.rep A W v.cells.toList x
 mono e h:=⟨h.1,ak.mono e h.2⟩
def J.eq(u:br):J where
 holds _ _ v:=v=u
 mono _ h:=h
def J.cond(c:Prop)(τ:J):J where
 holds A W v:=(c->τ.holds A W v)∧(¬c->v=undef)
 mono e h:=⟨λag=>τ.mono e (h.1 ag),h.2⟩
def J.any:J where
 holds _ _ _:=True
 mono _ h:=h
inductive hJ(A:List Nat)(W:World):List J->List Value->Prop
 |nil:hJ A W [] []
 |cons {τ v τs vs}:τ.holds A W v->hJ A W τs vs->hJ A W (τ::τs) (v::vs)
def hJ.mono{A W cV W'}(e:Ext A W cV W'):∀{τs vs},hJ A W τs vs->hJ cV W' τs vs
 |_,_,.nil=>.nil
 |_,_,.cons h r=>.cons (J.mono _ e h) (r.mono e)
def hJ.length{A W}:∀{τs vs},hJ A W τs vs->vs.length=τs.length
 |_,_,.nil=>rfl
 |_,_,.cons _ r=>by simp[r.length]
def J.bW(τs:aa J):J where
 holds A W v:=∃vs:Array br,v=.tuple vs∧hJ A W τs vs.toList
 mono e h:=let⟨vs,bc,bT⟩:=h; ⟨vs,bc,bT.mono e⟩
def J.ptr{α:Type}[ak α](x:α):J where
 holds A W v:=∃b off cur T il,v=.pointer (some ⟨b,off,none⟩)∧b∉A∧W.heap[b]? =some (.cells cur T il)∧off+ak.size α<=cur.size∧ak.rep A W ((cur.toList.drop off).take (ak.size α)) x
 mono e h:=by
  obtain⟨b,off,cur,T,il,rfl,hb,bT,hs,aG⟩:=h;have b9:b<_:=(sP.1 bT).1;exact⟨b,off,cur,T,il,rfl,λhm=>hb (e.new b hm b9),by rw[e.block b b9 hb];exact bT,hs,ak.mono e aG⟩
structure e0 where
 holds:List Nat->World->Obj->Prop
 pY:Prop
 mono:∀{A W cV W' o},Ext A W cV W'->holds A W o->holds cV W' o
def e0.var{α:Type}[ak α](x:α):e0 where
 holds A W o:=∃cs T,o=.cells cs T (0,0)∧ak.rep A W cs.toList x
 pY:=False
 mono e h:=let⟨cs,T,a6,aG⟩:=h; ⟨cs,T,a6,ak.mono e aG⟩
def ig{α:Type}[ak α](A:aa Nat)(W:bo)(cs:aa br)(xs:aa α):Prop:=
 cs.length=xs.length*ak.size α∧∀i (h:i<xs.length),ak.rep A W ((cs.drop (i*ak.size α)).take (ak.size α)) xs[i]
def ig.mono{α:Type}[ak α]{A W cV W'}{cs:aa br}{xs:aa α}(e:Ext A W cV W')(h:ig A W cs xs):ig cV W' cs xs:=
 ⟨h.1,λi aq=>ak.mono e (h.2 i aq)⟩
def e0.row{α:Type}[ak α](T:bJ)(xs:aa α)(cap:Nat):e0 where
 holds A W o:=∃cs,o=.cells cs T (0,0)∧cs.size=cap*ak.size α∧xs.length<=cap∧cap<=maxLen∧ig A W (cs.toList.take (xs.length*ak.size α)) xs
 pY:=xs=[]∧cap=0
 mono e h:=let⟨cs,h1,ad,aB,aV,ba⟩:=h; ⟨cs,h1,ad,aB,aV,ba.mono e⟩
def e0.dead:e0 where
 holds _ _ _:=True
 pY:=True
 mono _ h:=h
structure aK where
 key:Option Nat
 cp:e0
def aK.ok(A:aa Nat)(W:bo)(e:aK):Prop:=
 match e.key with
 |some p=> ∃o,W.heap[p]? =some o∧e.cp.holds A W o
 |none=>e.cp.pY
def ks:aa aK->aa Nat
 |[]=>[]
 | e::r=>match e.key with
   |some p=>p::ks r
   |none=>ks r
def ta{L:aa aK}{k:Nat}:k∈ks L↔∃e∈L,e.key=some k:=by
 induction L with
 |nil=>simp[ks]
 | cons e r cg=>
   cases hk:e.key with
   |none=>simp[ks,hk,cg]
   |some p=>simp[ks,hk,cg,eq_comm]
structure cP where
 P:Program
 n:Nat
 kc:World
 X:List Nat
 b8:List Nat
 rd:Option Nat
 ds:List Nat
def M6(D:Nat):Deferred:= {target:=.collected D,args:= #[]}
abbrev cP.F(c:cP):Fence:= {fn:=λ_=>True,depth:=none,alive:=false,round:=c.rd}
abbrev cP.wp(c:cP)(y:Code)(Q:Exit->Act->bo->Prop):Act->bo->Prop:=y.wpIn c.F 9 c.P Q
abbrev cP.sw(c:cP)(ops:Array Oper)(Q:Exit->Act->bo->Prop):aa Oper->Act->bo->Prop:=wpListIn c.F 9 c.P ops Q
def look:aa (Nat×J)->Nat->aE J
 |[],_=>none
 |(s,τ)::r,t=>bif Nat.beq s t then some τ else look r t
structure bO(c:cP)(E:List (Nat×J))(L:List aK)(a:Act)(W:World):Prop where
 defers:a.defers=c.ds.map M6
 size:a.tmps.size=c.n
 env:∀t τ,look E t=some τ->∃v,a.tmps[t]? =some v∧τ.holds (ks L++c.b8) W v
 ef:Fr c.X c.kc W
 own:∀e∈L,e.ok (ks L++c.b8) W
 nodup:(ks L).Nodup
 lt:∀k∈ks L,k<W.heap.size
 hh:∀k∈ks L,k<c.kc.heap.size->k∈c.X
 fe:∀k∈c.b8,k<W.heap.size∧k∉ks L
def fa{s t:Nat}:Nat.beq s t=true↔s=t:=by
 constructor
 ·exact U8
 rintro rfl;exact nh s
def bO.Mm{c E L a W}(h:bO c E L a W):∀k∈ks L++c.b8,k<W.heap.size:=by
 intro k hk;rcases cF.1 hk with hk|hk
 ·exact h.lt k hk
 exact(h.fe k hk).1
def bO.world{c E L a W W'}(h:bO c E L a W)(f:Fr [] W W'):bO c E L a W' where
 defers:=h.defers
 size:=h.size
 env t τ an:=let⟨v,h1,ad⟩:=h.env t τ an; ⟨v,h1,τ.mono (.ef f) ad⟩
 ef:=h.ef.trans f.nil
 own e he:=by
  have h1:=h.own e he;unfold aK.ok at *;split at h1
  ·rename_i p hp;obtain⟨o,a6,bT⟩:=h1;have b9:=h.lt p (ta.2 ⟨e,he,hp⟩);exact⟨o,by rw[f.block p b9 (by simp)];exact a6,e0.mono _ (.ef f) bT⟩
  exact h1
 nodup:=h.nodup
 lt k hk:=rZ (h.lt k hk) f.size
 hh:=h.hh
 fe k hk:=⟨rZ (h.fe k hk).1 f.size,(h.fe k hk).2⟩
def bO.put{c E L a W}(h:bO c E L a W){d:Nat}(hd:d<c.n){v:br}{τ:J}(bc:τ.holds (ks L++c.b8) W v):
 bO c ((d,τ)::E) L (a.put (some d) v) W where
 defers:=h.defers
 size:=by simp[Act.put,h.size]
 env t oO an:=by
  simp only[look]at an;simp only[Act.put];by_cases e:Nat.beq d t=true
  ·rw[e]at an;simp only[cond_true,gl]at an;subst an;have:=fa.1 e;subst this;exact⟨v,by simp[h.size,hd],bc⟩
  simp only[jk]at e;rw[e]at an;simp only[cond_false]at an;obtain⟨u,h1,ad⟩:=h.env t oO an;have di:d≠t:=λh=>by rw[fa.2 h]at e;cases e
  exact⟨u,by rw[Oh di];exact h1,ad⟩
 ef:=h.ef
 own:=h.own
 nodup:=h.nodup
 lt:=h.lt
 hh:=h.hh
 fe:=h.fe
def bO.Ax{c E L a W}(s:bO c E L a W)(h:c.ds=[]):a.defers=[]:=by rw[s.defers,h];rfl
def bO.less{c E E' L a W}(h:bO c E L a W)(aD:∀t τ,look E' t=some τ->∃σ,look E t=some σ∧∀A W v,σ.holds A W v->τ.holds A W v):bO c E' L a W:=
 {h with env:=λt τ an=>let⟨_,h1,ad⟩:=aD t τ an;let⟨v,aB,aV⟩:=h.env t _ h1; ⟨v,aB,ad _ _ _ aV⟩}
def bO.alloc{c E L a W}(h:bO c E L a W){o:Obj}{cp:e0}(ag:cp.holds (ks L++c.b8) W o):
 bO c E (⟨some W.heap.size,cp⟩::L) a (W.alloc o):=by
 have tt:W.heap.size∉ks L:=λhm=>zW _ (h.lt _ hm)
 have jd:Ext (ks L++c.b8) W (ks (⟨some W.heap.size,cp⟩::L)++c.b8) (W.alloc o):=
  ⟨by simp,λk hk _=>Ml W o k hk,λk hk b9=>by
   simp only[ks,List.cons_append,dP]at hk;rcases hk with rfl|hk
   ·exact absurd b9 (zW _)
   exact hk⟩
 exact
 {defers:=h.defers
  size:=h.size
  env:=λt τ an=>let⟨v,h1,ad⟩:=h.env t τ an; ⟨v,h1,τ.mono jd ad⟩
  ef:=h.ef.trans (Fr.alloc W o)
  own:=λe he=>by
   rcases dP.1 he with rfl|he
   ·exact⟨o,Ry W o,cp.mono jd ag⟩
   have h1:=h.own e he;unfold aK.ok at *;split at h1
   ·rename_i p hp;obtain⟨o',a6,bT⟩:=h1;exact⟨o',by rw[Ml W o p (h.lt p (ta.2 ⟨e,he,hp⟩))];exact a6,e0.mono _ jd bT⟩
   exact h1
  nodup:=by simp only[ks];exact pP.2 ⟨tt,h.nodup⟩
  lt:=λk hk=>by
   simp only[ks,dP]at hk;rw[KQ];rcases hk with rfl|hk
   ·omega
   have:=h.lt k hk;omega
  hh:=λk hk b9=>by
   simp only[ks,dP]at hk;rcases hk with rfl|hk
   ·have:=h.ef.size;omega
   exact h.hh k hk b9
  fe:=λk hk=>by
   obtain⟨h1,ad⟩:=h.fe k hk;refine⟨by rw[KQ];omega,λhm=>?_⟩;simp only[ks,dP]at hm;rcases hm with rfl|hm
   ·omega
   exact ad hm}
def bO.sub{c E L L' a W}(h:bO c E L a W)(ar:∀e∈L',e∈L)(aM:(ks L').Nodup):bO c E L' a W:=by
 have hk:∀k∈ks L',k∈ks L:=λk hk=>by
  obtain⟨e,he,ad⟩:=ta.1 hk;exact ta.2 ⟨e,ar e he,ad⟩
 have jd:Ext (ks L++c.b8) W (ks L'++c.b8) W:=.drop λk hm=>by
  rcases cF.1 hm with hm|hm
  ·exact cF.2 (.inl (hk k hm))
  exact cF.2 (.inr hm)
 exact
 {defers:=h.defers
  size:=h.size
  env:=λt τ an=>let⟨v,h1,ad⟩:=h.env t τ an; ⟨v,h1,τ.mono jd ad⟩
  ef:=h.ef
  own:=λe he=>by
   have h1:=h.own e (ar e he);unfold aK.ok at *;split at h1
   ·obtain⟨o',a6,bT⟩:=h1;exact⟨o',a6,e0.mono _ jd bT⟩
   exact h1
  nodup:=aM
  lt:=λk hm=>h.lt k (hk k hm)
  hh:=λk hm=>h.hh k (hk k hm)
  fe:=λk hm=>⟨(h.fe k hm).1,λad=>(h.fe k hm).2 (hk k ad)⟩}
def fL(L R:aa aK):ks (L++R)=ks L++ks R:=by
 induction L with
 |nil=>rfl
 |cons e r cg=>cases hk:e.key <;> simp[ks,hk,cg]
def Mn{L:aa aK}{i:Nat}{e:aK}{cp:e0}(aq:L[i]? =some e):ks (L.set i ⟨e.key,cp⟩)=ks L:=by
 induction L generalizing i with
 |nil=>simp at aq
 | cons x r cg=>
   cases i with
   |zero=>simp only[List.getElem?_cons_zero,gl]at aq;subst aq;simp[ks]
   |succ i=>simp only[List.getElem?_cons_succ]at aq;simp[ks,cg aq]
def Rz{L:aa aK}(aM:(ks L).Nodup){i j:Nat}{e f:aK}{p:Nat}(aq:L[i]? =some e)(aC:L[j]? =some f)(he:e.key=some p)(aW:f.key=some p):i=j:=by
 induction L generalizing i j with
 |nil=>simp at aq
 | cons x r cg=>
   have aG:(ks r).Nodup:=by
    cases au:x.key with
    |none=>simpa[ks,au]using aM
    |some q=>simp only[ks,au]at aM;exact(pP.1 aM).2
   have IP:∀q,x.key=some q->q∉ks r:=λq au=>by simp only[ks,au]at aM;exact(pP.1 aM).1
   cases i with
   | zero=>
     simp only[List.getElem?_cons_zero,gl]at aq
     subst aq
     cases j with
     |zero=>rfl
     | succ j=>
       simp only[List.getElem?_cons_succ]at aC
       exact absurd (ta.2 ⟨f,fB aC,aW⟩) (IP p he)
   | succ i=>
     simp only[List.getElem?_cons_succ]at aq
     cases j with
     | zero=>
       simp only[List.getElem?_cons_zero,gl]at aC
       subst aC
       exact absurd (ta.2 ⟨e,fB aq,he⟩) (IP p aW)
     | succ j=>
       simp only[List.getElem?_cons_succ]at aC
       rw[cg aG aq aC]
def bO.store{c E L a W}(h:bO c E L a W){i p:Nat}{cp cp':e0}(aq:L[i]? =some ⟨some p,cp⟩){cs ff:Array br}{T:bJ}
 (a6:W.heap[p]? =some (.cells cs T (0,0))) (ag:cp'.holds (ks L++c.b8) W (.cells ff T (0,0))):
 bO c E (L.set i ⟨some p,cp'⟩) a (W.setRow p ff):=by
 have hj:ks (L.set i ⟨some p,cp'⟩)=ks L:=Mn (cp:=cp') aq
 have hp:p∈ks L:=ta.2 ⟨_,fB aq,rfl⟩
 have jd:Ext (ks L++c.b8) W (ks L++c.b8) (W.setRow p ff):=
  ⟨by simp,λk _ aY=>setRow_other W p k ff (λe=>aY (e▸cF.2 (.inl hp))),λ_ h _=>h⟩
 exact
 {defers:=h.defers
  size:=h.size
  env:=λt τ an=>by rw[hj];exact let⟨v,h1,ad⟩:=h.env t τ an; ⟨v,h1,τ.mono jd ad⟩
  ef:=⟨h.ef.os,h.ef.tape,h.ef.output,h.ef.drawn,by simpa using h.ef.size,λk hk au=>by
   rw[setRow_other W p k ff (λe=>au (e▸h.hh p hp (e▸hk)))];exact h.ef.block k hk au⟩
  own:=λe he=>by
   rw[hj];obtain⟨j,aC⟩:=o5.1 he;rw[qn]at aC;split at aC
   ·rename_i gh;subst gh;split at aC
    ·simp only[gl]at aC;subst aC;exact⟨_,setRow_heap W p cs ff T (0,0) a6,cp'.mono jd ag⟩
    cases aC
   rename_i gh;have h1:=h.own e (fB aC);unfold aK.ok at *;split at h1
   ·rename_i q hq;obtain⟨o',qQ,bT⟩:=h1;have di:q≠p:=λe'=>gh (Rz h.nodup aq aC I (e'▸hq));exact⟨o',by rw[setRow_other W p q ff di];exact qQ,e0.mono _ jd bT⟩
   exact h1
  nodup:=by rw[hj];exact h.nodup
  lt:=by rw[hj];simpa using h.lt
  hh:=by rw[hj];exact h.hh
  fe:=by rw[hj];simpa using h.fe}
abbrev ak.scalar{α:Type}(val:α->br)(h:∀x,(val x).oneCell'=true):ak α where
 size:=1
 agg:=false
 rep _ _ cs x:=cs=[val x]
 len h:=by rw[h];rfl
 one aG:=by subst aG;intro v bc;rw[hT.1 bc];exact h _
 flat _:=rfl
 mono _ h:=h
instance:ak Bool:=.scalar Value.bool λ_=>rfl
instance:ak Int:=.scalar (Value.int .i64) λ_=>rfl
instance:ak (BitVec 64):=.scalar (λx=>Value.int .u64 (x.toNat:Int)) λ_=>rfl
instance:ak (BitVec 32):=.scalar (λx=>Value.int .u32 (x.toNat:Int)) λ_=>rfl
instance:ak (BitVec 16):=.scalar (λx=>Value.int .u16 (x.toNat:Int)) λ_=>rfl
instance:ak (BitVec 8):=.scalar (λx=>Value.int .u8 (x.toNat:Int)) λ_=>rfl
instance:ak ByteArray:=.scalar Value.string λ_=>rfl
def pS{v u:br}(h:v.oneCell'=true)(e:v.cells.toList=[u]):v=u:=by
 rw[cells_one h]at e;simpa using e
def of_bool{A W v}{b:Bool}:(J.of b).holds A W v↔v=.bool b:=
 ⟨λh=>pS h.1 h.2,λh=>by subst h;exact⟨rfl,rfl⟩⟩
def of_int{A W v}{x:Int}:(J.of x).holds A W v↔v=.int .i64 x:=
 ⟨λh=>pS h.1 h.2,λh=>by subst h;exact⟨rfl,rfl⟩⟩
def hK{A W v}{x:BitVec 64}:(J.of x).holds A W v↔v=.int .u64 (x.toNat:Int):=
 ⟨λh=>pS h.1 h.2,λh=>by subst h;exact⟨rfl,rfl⟩⟩
def MS{A W v}{x:BitVec 8}:(J.of x).holds A W v↔v=.int .u8 (x.toNat:Int):=
 ⟨λh=>pS h.1 h.2,λh=>by subst h;exact⟨rfl,rfl⟩⟩
def Y8{A W v}{x:ByteArray}:(J.of x).holds A W v↔v=.string x:=
 ⟨λh=>pS h.1 h.2,λh=>by subst h;exact⟨rfl,rfl⟩⟩
def aU(c:cP)(E:aa (Nat×J))(L:aa aK)(x:cw)(τ:J):Prop:=∀a W,bO c E L a W->τ.holds (ks L++c.b8) W (a.eval x)
section
variable{c:cP}{E:aa (Nat×J)}{L:aa aK}
def ah{t:Nat}{τ:J}(h:look E t=some τ):aU c E L (.tmp t) τ:=λa W s=>by
 obtain⟨v,h1,ad⟩:=s.env t τ h;have:a.eval (.tmp t)=v:=by simp[Act.eval,h1]
 rw[this];exact ad
def ck{t:Nat}{τ:J}{p:Prop}(h:look E t=some (.cond p τ))(hp:p):aU c E L (.tmp t) τ:=λa W s=>(ah h a W s).1 hp
def H5(v:br):aU c E L (.const v) (.eq v):=λ_ _ _=>rfl
def de(k:Int):aU c E L (.const (.int .i64 k)) (.of k):=λ_ _ _=>of_int.2 I
def iL(b:Bool):aU c E L (.const (.bool b)) (.of b):=λ_ _ _=>of_bool.2 I
def ua(x:BitVec 64){k:Int}(h:(x.toNat:Int)=k):aU c E L (.const (.int .u64 k)) (.of x):=λ_ _ _=>hK.2 (by rw[h];rfl)
def iN(s:ByteArray):aU c E L (.const (.string s)) (.of s):=λ_ _ _=>Y8.2 I
def h3(P:Program)(o:Oper)(a:Act)(W:bo)(R:br->bo->Prop):Prop:=
 o.wp P a W (λiI W'=> ∃v,iI=a.put o.dst v∧R v W') (λ_ _ _=>False)
def CallsIn.QA{rd:aE Nat}{n:Nat}{P:Program}{f:FuncId}{args:Array br}{w:bo}{R:Ending->bo->Prop}
 (h:Calls P f args w R):CallsIn {fn:=λ_=>True,depth:=none,alive:=false,round:=rd} n P f args w R:=
 (callsIn_wide (n:=n)).2 h
def RowsIn.alb{rd:aE Nat}{n:Nat}{P:Program}{row:String}{args:Array br}{w:bo}{R:br->bo->Prop}
 (h:Rows P row args w R):RowsIn {fn:=λ_=>True,depth:=none,alive:=false,round:=rd} n P row args w R:=
 λc cs _=>let⟨v,rQ,r,s⟩:=h c cs; ⟨v,rQ,r,stepsIn_wide.2 s⟩
def h3.wp{P:Program}{o:Oper}{a:Act}{W:bo}{R:br->bo->Prop}{next:Act->bo->Prop}{Q:Exit->Act->bo->Prop}
 (h:h3 P o a W R) (hk:∀v W',R v W'->next (a.put o.dst v) W'):o.wp P a W next Q:=by
 unfold h3 Oper.wp at *
 generalize (execOp a.eval o).run P W=r at *
 cases r with
 | ok n W'=>
   cases n <;> simp only[Oper.upon]at h⊢
   case value v=>obtain⟨u,h1,ad⟩:=h;rw[h1];exact hk _ _ ad
   case skip=>obtain⟨u,h1,ad⟩:=h;rw[h1];exact hk _ _ ad
   case defer d=>obtain⟨u,h1,ad⟩:=h;rw[h1];exact hk _ _ ad
   case enter f args=>
    refine h.mono λe vP he=>?_
    cases e with
    |returned v=>obtain⟨u,h1,ad⟩:=he;simp only at h1⊢;rw[h1];exact hk _ _ ad
    |panicked me=>exact he.elim
    |outgrown=>obtain⟨_,_,h1⟩:=he;exact h1.elim
   case row row args=>exact h.mono λv vP ⟨u,h1,ad⟩=>by rw[h1];exact hk _ _ ad
 |halt x W'=>cases x <;> simp only[Oper.upon]at h
def h3.aiL{P:Program}{o:Oper}{a:Act}{W:bo}{R:br->bo->Prop}(h:h3 P o a W R):∀c,o.op≠ .defer c:=by
 intro c a6;unfold h3 Oper.wp execOp at h;rw[a6]at h;simp only[eg]at h;generalize (resolve a.eval c o.type).run P W=r at h;cases r with
 | ok d W'=>
   simp only[Result.andThen,Sem.run_pure,Oper.upon]at h
   obtain⟨v,h1,_⟩:=h
   have:=eG Act.defers h1
   cases hd:o.dst <;> simp[Act.put,hd]at this
 |halt x W'=>cases x <;> simp only[Result.andThen,Oper.upon]at h
def h3.wpIn{c:cP}{n:Nat}{o:Oper}{a:Act}{W:bo}{R:br->bo->Prop}{next:Act->bo->Prop}{Q:Exit->Act->bo->Prop}
 (h:h3 c.P o a W R) (hk:∀v W',R v W'->next (a.put o.dst v) W'):o.wpIn c.F n c.P a W next Q:=by
 refine⟨λ_ _=>trivial,?_⟩
 rw[Pg _ _ _ h.aiL]
 unfold h3 Oper.wp at h
 generalize (execOp a.eval o).run c.P W=r at *
 cases r with
 | ok m W'=>
   cases m <;> simp only[Oper.upon,Oper.uponIn]at h⊢
   case value v=>obtain⟨u,h1,ad⟩:=h;rw[h1];exact hk _ _ ad
   case skip=>obtain⟨u,h1,ad⟩:=h;rw[h1];exact hk _ _ ad
   case defer d=>obtain⟨u,h1,ad⟩:=h;rw[h1];exact hk _ _ ad
   case enter f args=>
    refine⟨λh=>by simp at h,CallsIn.QA ?_⟩
    refine h.mono λe vP he=>?_
    cases e with
    |returned v=>obtain⟨u,h1,ad⟩:=he;simp only at h1⊢;rw[h1];exact hk _ _ ad
    |panicked me=>exact he.elim
    |outgrown=>obtain⟨_,_,h1⟩:=he;exact h1.elim
   case row row args=>
    refine⟨λh=>by simp at h,RowsIn.alb ?_⟩
    exact h.mono λv vP ⟨u,h1,ad⟩=>by rw[h1];exact hk _ _ ad
 |halt x W'=>cases x <;> simp only[Oper.upon]at h
def Wd{F:Fence}{n:Nat}{P:Program}{md:Region.Mode}{ops:Array Oper}{uW:Exit->Act->bo->Prop}:∀(l:aa Oper) (k:Nat) (ct:Array Bool) (a:Act) (w:bo),(∀j,l[j]? =ops[k+j]?)->
 Region.seqB md ops l.length k ct=true->wpListIn F n P ops uW l a w->wpAnyIn F n P md ops uW l.length ct a w
 |[],_,_,_,_,_,eu,h=>⟨by simpa[Region.seqB]using eu,h⟩
 | o::l,k,ct,a,w,an,eu,h=>by
   have bC:ops[k]? =some o:=by simpa using (an 0).symm
   simp only[List.length_cons,Region.seqB,gm,e2]at eu;refine⟨λh1=>(by rw[eu.1]at h1;cases h1),λi aq=>?_⟩;rw[eu.1]at aq;have mX:i=k:=by simpa using aq
   subst mX;have hw:wpOpIn F n P ops uW i (wpListIn F n P ops uW l) a w:=by unfold wpOpIn;simp only[bC];exact h
   exact wpOpIn_mono (λiI rQ cU=>Wd l (i+1) _ iI rQ (λj=>by have:=an (j+1);simpa[K5,Pr 1 j]using this) eu.2 cU) hw
def h3.mR{P:Program}{o:Oper}{a:Act}{W W':bo}{R:br->bo->Prop}{v:br}
 (h:(execOp a.eval o).run P W=.ok (.value v) W') (aG:R v W'):h3 P o a W R:=by
 unfold h3 Oper.wp
 rw[h]
 exact⟨v,rfl,aG⟩
def h3.DE{P:Program}{o:Oper}{a:Act}{W W':bo}{R:br->bo->Prop}
 (h:(execOp a.eval o).run P W=.ok .skip W') (aG:R undef W'):h3 P o a W R:=by
 unfold h3 Oper.wp
 rw[h]
 exact⟨undef,rfl,aG⟩
def h3.yd{P:Program}{o:Oper}{a:Act}{W W':bo}{R:br->bo->Prop}{f:FuncId}{args:Array br}
 (h:(execOp a.eval o).run P W=.ok (.enter f args) W') (aG:Calls P f args W' λe vP=> ∃v,e=.returned v∧R v vP):h3 P o a W R:=by
 unfold h3 Oper.wp
 rw[h]
 exact aG.mono λe vP ⟨v,he,ad⟩=>by subst he;exact⟨v,rfl,ad⟩
def bj(c:cP)(E:aa (Nat×J))(L:aa aK)(o:Oper)(τ:J):Prop:=
 ∀a W,bO c E L a W->h3 c.P o a W λv W'=>Fr [] W W'∧τ.holds (ks L++c.b8) W' v
def bj.pure{o:Oper}{τ:J}(h:∀a W,bO c E L a W->∃v,(execOp a.eval o).run c.P W=.ok (.value v) W∧τ.holds (ks L++c.b8) W v):bj c E L o τ:=
 λa W s=>let⟨_,h1,ad⟩:=h a W s; .mR h1 ⟨.refl _ _,ad⟩
variable{ops:Array Oper}{Q:Exit->Act->bo->Prop}
def ae(c:cP)(ops:Array Oper)(Q:Exit->Act->bo->Prop)(l:aa Oper)(E:aa (Nat×J))(L:aa aK):Prop:=
 ∀a W,bO c E L a W->c.sw ops Q l a W
def al(c:cP)(Q:Exit->Act->bo->Prop)(x:Exit)(E:aa (Nat×J))(L:aa aK):Prop:=∀a W,bO c E L a W->Q x a W
def ae.nil(h:al c Q .normal E L):ae c ops Q [] E L:=λa W s=>wpListIn_nil (h a W s)
def jm{c:cP}{o:Oper}{rest:aa Oper}{a:Act}{W:bo}(bu:o.guard=none){R:br->bo->Prop}(h:h3 c.P o a W R)
 (hk:∀v W',R v W'->c.sw ops Q rest (a.put o.dst v) W'):c.sw ops Q (o::rest) a W:=
 wpListIn_plain bu λ_ tM=>h.wpIn λv W' aG=>tM _ _ (hk v W' aG)
def ae.v{o:Oper}{rest:aa Oper}{d:Nat}{τ:J}(h:bj c E L o τ)(bu:o.guard=none)(hd:o.dst=some d)(aM:Nat.blt d c.n=true)
 (k:ae c ops Q rest ((d,τ)::E) L):ae c ops Q (o::rest) E L:=λa W s=>
 jm bu (h a W s) λv W' ⟨f,bc⟩=>by
  rw[hd];exact k _ _ ((s.world f).put (by simpa using aM) bc)
def Dv{j g:Nat}{b:Bool}(aC:(ops[j]?).bind (·.dst)=some g)(an:look E g=some (.of b)){a:Act}{W:bo}(s:bO c E L a W):
 yielded ops a.tmps j=some b:=by
 obtain⟨v,h1,ad⟩:=s.env g _ an
 unfold yielded
 rw[aC]
 simp only[Option.bind_some,h1,of_bool.1 ad]
def ae.g{o:Oper}{rest:aa Oper}{d j g:Nat}{b want:Bool}{τ:J}(h:b=want->bj c E L o τ)(bu:o.guard=some (j,want))(aC:(ops[j]?).bind (·.dst)=some g)
 (an:look E g=some (.of b)) (hd:o.dst=some d) (aM:Nat.blt d c.n=true)
 (k:ae c ops Q rest ((d,.cond (b=want) τ)::E) L):ae c ops Q (o::rest) E L:=λa W s=>by
 have aR:=Dv aC an s
 unfold cP.sw wpListIn
 by_cases hb:b=want
 ·rw[bh (by simp[Region.wanted,bu,aR,hb])]
  refine((h hb a W s).wpIn λv W' ⟨f,bc⟩=>?_)
  rw[hd]
  exact k _ _ ((s.world f).put (by simpa using aM) ⟨λ_=>bc,λh=>absurd hb h⟩)
 rw[bf (by simp[Region.wanted,bu,aR,hb])]
 rw[hd]
 exact⟨λ_ _=>trivial,k _ _ (s.put (by simpa using aM) ⟨λh=>absurd h hb,λ_=>rfl⟩)⟩
def Wj{j g:Nat}{p:Prop}{b:Bool}(aC:(ops[j]?).bind (·.dst)=some g)(an:look E g=some (.cond p (.of b))){a:Act}{W:bo}(s:bO c E L a W):
 (p->yielded ops a.tmps j=some b)∧(¬p->yielded ops a.tmps j=none):=by
 obtain⟨v,h1,ad,aB⟩:=s.env g _ an
 unfold yielded
 rw[aC]
 simp only[Option.bind_some,h1]
 exact⟨λhp=>by simp only[of_bool.1 (ad hp)],λhp=>by simp only[aB hp];rfl⟩
def ae.gg{o:Oper}{rest:aa Oper}{d j g:Nat}{p:Prop}{b want:Bool}{τ:J}(h:p∧b=want->bj c E L o τ)(bu:o.guard=some (j,want))(aC:(ops[j]?).bind (·.dst)=some g)
 (an:look E g=some (.cond p (.of b))) (hd:o.dst=some d) (aM:Nat.blt d c.n=true)
 (k:ae c ops Q rest ((d,.cond (p∧b=want) τ)::E) L):ae c ops Q (o::rest) E L:=λa W s=>by
 have aR:=Wj aC an s
 unfold cP.sw wpListIn
 by_cases hb:p∧b=want
 ·rw[bh (by simp[Region.wanted,bu,aR.1 hb.1,hb.2])]
  refine((h hb a W s).wpIn λv W' ⟨f,bc⟩=>?_)
  rw[hd]
  exact k _ _ ((s.world f).put (by simpa using aM) ⟨λ_=>bc,λh=>absurd hb h⟩)
 have hw:Region.wanted o (yielded ops a.tmps)=false:=by
  by_cases hp:p
  ·have: ¬(b=want):=λh=>hb ⟨hp,h⟩;simp[Region.wanted,bu,aR.1 hp,this]
  simp[Region.wanted,bu,aR.2 hp]
 rw[bf (by simp[hw])]
 refine⟨λ_ _=>trivial,?_⟩
 rw[hd]
 exact k _ _ (s.put (by simpa using aM) ⟨λh=>absurd h hb,λ_=>rfl⟩)
inductive fO(E:List (Nat×J)):List (Nat×J)->Prop
 |nil:fO E []
 |cons {t τ σ r}:look E t=some σ->(∀A W v,σ.holds A W v->τ.holds A W v)->fO E r->fO E ((t,τ)::r)
def fO.same{t:Nat}{τ:J}{r:aa (Nat×J)}(h:look E t=some τ)(k:fO E r):fO E ((t,τ)::r):=.cons h (λ_ _ _ h=>h) k
def fO.all{r:aa (Nat×J)}(h:fO E r:=by repeat (first|exact fO.nil|refine fO.same I ?_)):fO E r:=h
def fO.look:∀{E':aa (Nat×J)},fO E E'->∀t τ,Gv.look E' t=some τ->∃σ,Gv.look E t=some σ∧∀A W v,σ.holds A W v->τ.holds A W v
 |_,.nil,t,τ,h=>by simp[Gv.look]at h
 | _,.cons (t:=s) (σ:=σ) h1 ad r,t,τ,h=>by
   simp only[Gv.look]at h;by_cases e:Nat.beq s t=true
   ·rw[e]at h;simp only[cond_true,gl]at h;subst h;rw[fa.1 e]at h1;exact⟨σ,h1,ad⟩
   simp only[jk]at e;rw[e]at h;exact r.look t τ h
def al.le{x:Exit}{E':aa (Nat×J)}(h:fO E E')(k:al c Q x E' L):al c Q x E L:=λa W s=>k a W (s.less h.look)
def ae.le{l:aa Oper}{E':aa (Nat×J)}(h:fO E E')(k:ae c ops Q l E' L):ae c ops Q l E L:=λa W s=>k a W (s.less h.look)
def ay(c:cP)(Q:Exit->Act->bo->Prop)(code:Code)(E:aa (Nat×J))(L:aa aK):Prop:=∀a W,bO c E L a W->c.wp code Q a W
def ay.le{code:Code}{E':aa (Nat×J)}(h:fO E E')(k:ay c Q code E' L):ay c Q code E L:=λa W s=>k a W (s.less h.look)
def ay.fc{id:Nat}{l:aa Oper}(h:ae c l.toArray Q l E L):ay c Q (.region id l.toArray false) E L:=λa W s=>wpIn_region_lit (h a W s)
def ay.seq{x y:Code}(h:ay c (Exit.then (c.wp y Q) Q) x E L):ay c Q (.seq x y) E L:=λa W s=>wpIn_seq (h a W s)
def al.next{y:Code}(h:ay c Q y E L):al c (Exit.then (c.wp y Q) Q) .normal E L:=λa W s=>h a W s
def al.exit{y:Act->bo->Prop}{id:Nat}(h:al c Q (.exit id) E L):al c (Exit.then y Q) (.exit id) E L:=λa W s=>h a W s
def al.ret{y:Act->bo->Prop}(h:al c Q .ret E L):al c (Exit.then y Q) .ret E L:=λa W s=>h a W s
def ay.block{id:Nat}{x:Code}(h:ay c (Exit.inBlock id Q) x E L):ay c Q (.block id x) E L:=λa W s=>wpIn_block (h a W s)
def al.ml{id:Nat}(h:al c Q .normal E L):al c (Exit.inBlock id Q) .normal E L:=λa W s=>h a W s
def al.k5{id:Nat}(h:al c Q .normal E L):al c (Exit.inBlock id Q) (.exit id) E L:=λa W s=>by
 show(if id=id then Q .normal a W else Q (.exit id) a W);rw[bh I];exact h a W s
def al.alc{id Ja:Nat}(di:Nat.beq Ja id=false)(h:al c Q (.exit Ja) E L):al c (Exit.inBlock id Q) (.exit Ja) E L:=λa W s=>by
 show(if Ja=id then Q .normal a W else Q (.exit Ja) a W);rw[bf (λe=>by rw[e,nh]at di;cases di)];exact h a W s
def al.j6{id:Nat}(h:al c Q .ret E L):al c (Exit.inBlock id Q) .ret E L:=λa W s=>h a W s
def ay.skip(h:al c Q .normal E L):ay c Q .skip E L:=λa W s=>wpIn_skip (h a W s)
def ay.exit{id:Nat}(h:al c Q (.exit id) E L):ay c Q (.exit id) E L:=λa W s=>wpIn_exit (h a W s)
def ay.ret(h:al c Q .ret E L):ay c Q .ret E L:=λa W s=>wpIn_ret (h a W s)
def ay.cond{x:cw}{b:Bool}{y z:Code}(an:aU c E L x (.of b))(bD:b=true->ay c Q y E L)(aW:b=false->ay c Q z E L):ay c Q (.cond x y z) E L:=
 λa W s=>wpIn_cond_split (of_bool.1 (an a W s)) (λh=>bD h a W s) (λh=>aW h a W s)
def dh{σ ε:Type}:Nat->(σ->aE (σ⊕ε))->σ->aE ε
 |0,_,_=>none
 | n+1,b,s=>match b s with
   |none=>none
   |some (.inl cv)=>dh n b cv
   |some (.inr e)=>some e
def atC{σ ε:Type}(c:cP)(E:σ->aa (Nat×J))(L:σ->aa aK)(xs:ε->Exit)(h9:ε->aa (Nat×J))(Lx:ε->aa aK):σ⊕ε->Exit->Act->bo->Prop
 | .inl s,x,a,W=>x=.normal∧bO c (E s) (L s) a W
 | .inr e,x,a,W=>x≠ .normal∧x=xs e∧bO c (h9 e) (Lx e) a W
def al.round{σ ε:Type}{E':σ->aa (Nat×J)}{L':σ->aa aK}{xs:ε->Exit}{h9:ε->aa (Nat×J)}{Lx:ε->aa aK}{s:σ}
 (h:∀a W,bO c E L a W->bO c (E' s) (L' s) a W):al c (atC c E' L' xs h9 Lx (.inl s)) .normal E L:=λa W st=>⟨rfl,h a W st⟩
def ahN{F:Fence}{n:Nat}{P:Program}{body:Code}{σ ε:Type}(b:σ->aE (σ⊕ε))(gi:σ->Act->bo->Prop)(X:ε->Exit->Act->bo->Prop)
 (tb:∀s r,b s=some r->∀a W,gi s a W->body.wpIn F n P (λx a W=>match r with | .inl cv=>x=.normal∧gi cv a W| .inr e=>x≠ .normal∧X e x a W) a W)
 (Q:Exit->Act->bo->Prop) (e:ε) (qB:∀x a W,X e x a W->Q x a W) {cb:σ} {N:Nat} (an:dh N b cb=some e) {a0:Act} {kc:bo} (bC:gi cb a0 kc):
 (Code.loop body).wpIn F n P Q a0 kc:=by
 intro ef k cs lf hb aG
 have key:∀N s,dh N b s=some e->∀a W,gi s a W->
  ∃x iI W',Q x iI W'∧ArrivesIn (Machine.fenced P F) P (lone (ef.atR a (.code body::.inLoop body::k)) cs W) ef k cs x iI W':=by
  intro N
  induction N with
  |zero=>intro s h;simp[dh]at h
  | succ N cg=>
    intro s h a W nf
    simp only[dh]at h
    split at h
    ·cases h
    ·rename_i cv hs
     obtain⟨x,tu,Ej,hq,pr⟩:=tb s _ hs a W nf ef (.inLoop body::k) cs lf hb aG
     obtain⟨au,Tm⟩:=hq
     subst au
     obtain⟨SY,SZ,S0,Sj,QB⟩:=cg cv h tu Ej Tm
     exact⟨SY,SZ,S0,Sj,.of_steps (Ph pr (.one (C1 hb aG I) stepR_inLoop)) QB⟩
    rename_i e' hs
    simp only[gl]at h
    subst h
    obtain⟨x,tu,Ej,hq,pr⟩:=tb s _ hs a W nf ef (.inLoop body::k) cs lf hb aG
    obtain⟨au,og⟩:=hq
    exact⟨x,tu,Ej,qB _ _ _ og,.pass (x:=.inLoop body) I (λ_ _=>.inl au) pr⟩
 obtain⟨x,iI,W',hq,pr⟩:=key N cb an a0 kc bC
 exact⟨x,iI,W',hq,.of_steps (.one (C1 hb aG I) stepR_loop) pr⟩
def dV(P:Program)(f:FuncId)(τs:aa J)(ρ:J):Prop:=
 ∀ (A:aa Nat) (W:bo) (vs:aa br),(∀k∈A,k<W.heap.size)->hJ A W τs vs->
   Calls P f vs.toArray W λe W'=> ∃v,e=.returned v∧Fr [] W W'∧ρ.holds A W' v
def params:Nat->aa J->aa (Nat×J)
 |_,[]=>[]
 |k,τ::r=>(k,τ)::params (k+1) r
def Ak{A:aa Nat}{W:bo}{τs:aa J}{vs:aa br}(h:hJ A W τs vs):∀(k t:Nat) (τ:J),look (params k τs) t=some τ->k<=t∧∃v,vs[t-k]? =some v∧τ.holds A W v:=by
 induction h with
 |nil=>intro k t τ h;simp[params,look]at h
 | cons h1 r cg=>
   intro k t τ an
   simp only[params,look]at an
   by_cases e:Nat.beq k t=true
   ·rw[e]at an
    simp only[cond_true,gl]at an
    subst an
    rw[fa.1 e]
    exact⟨iS _,_,by simp,h1⟩
   simp only[jk]at e
   rw[e]at an
   have di:k≠t:=λh=>by rw[fa.2 h]at e;cases e
   obtain⟨ad,v,aB,aV⟩:=cg (k+1) t τ an
   refine⟨by omega,v,?_,aV⟩
   rw[show t-k=(t-(k+1))+1 by omega,List.getElem?_cons_succ]
   exact aB
def dV.enter{P:Program}{f:FuncId}{fn:Func}{code:Code}{n:Nat}{τs:aa J}{ρ:J}(aW:P.funcs[f]? =some fn)(hb:fn.body=some code)(aM:fn.ntmps=n)(hlen:Nat.ble τs.length n=true)
 (h:∀W A,ay ⟨P,n,W,[],A,none,[]⟩ (bodyPost P fn λe W'=> ∃v,e=.returned v∧Fr [] W W'∧ρ.holds A W' v) code (params 0 τs) []):dV P f τs ρ:=by
 intro A W vs e7 bc
 refine GU aW hb (wpIn_wide.1 (h W A _ _ ?_))
 have an:=bc.length
 have hle:τs.length<=n:=pM hlen
 exact
 {defers:=rfl
  size:=by simp[aM,an];omega
  env:=λt τ kJ=>by
   obtain⟨_,v,ad,aB⟩:=Ak bc 0 t τ kJ;refine⟨v,?_,aB⟩;have b9:t<vs.length:=(ir.1 ad).1;rw[v8 (by simpa using b9)];simpa using ad
  ef:=.refl _ _
  own:=by simp
  nodup:=by simp[ks]
  lt:=by simp[ks]
  hh:=by simp[ks]
  fe:=λk hk=>⟨e7 k hk,by simp[ks]⟩}
def Wy{ρ:J}{A B:aa Nat}{W:bo}{v:br}(h:ρ.holds (B++A) W v):ρ.holds A W v:=ρ.mono (.drop λ_ h=>cF.2 (.inr h)) h
end
section
variable{c:cP}{E:aa (Nat×J)}{L:aa aK}{ops:Array Oper}{Q:Exit->Act->bo->Prop}
def iq(c:cP)(ops:Array Oper)(E:aa (Nat×J))(L:aa aK)(o:Oper)(τ:J):Prop:=
 ∀ a W,bO c E L a W->
   (Region.wanted o (yielded ops a.tmps)=true->h3 c.P o a W λv W'=>Fr [] W W'∧τ.holds (ks L++c.b8) W' v)∧
   (Region.wanted o (yielded ops a.tmps)=false->τ.holds (ks L++c.b8) W undef)
def iq.v{o:Oper}{τ:J}(h:bj c E L o τ)(bu:o.guard=none):iq c ops E L o τ:=λa W s=>
 ⟨λ_=>h a W s,λhw=>by simp[Region.wanted,bu]at hw⟩
def iq.g{o:Oper}{j g:Nat}{b want:Bool}{τ:J}(h:b=want->bj c E L o τ)(bu:o.guard=some (j,want))(aC:(ops[j]?).bind (·.dst)=some g)(an:look E g=some (.of b)):
 iq c ops E L o (.cond (b=want) τ):=λa W s=>by
 have aR:=Dv aC an s
 constructor
 ·intro hw
  have hb:b=want:=by simpa[Region.wanted,bu,aR]using hw
  refine h3.wp (h hb a W s) λv W' ⟨f,bc⟩=>⟨v,rfl,f,λ_=>bc,λh=>absurd hb h⟩
 intro hw
 exact⟨λhb=>by simp[Region.wanted,bu,aR,hb]at hw,λ_=>rfl⟩
def iq.gg{o:Oper}{j g:Nat}{p:Prop}{b want:Bool}{τ:J}(h:p∧b=want->bj c E L o τ)(bu:o.guard=some (j,want))(aC:(ops[j]?).bind (·.dst)=some g)(an:look E g=some (.cond p (.of b))):
 iq c ops E L o (.cond (p∧b=want) τ):=λa W s=>by
 have aR:=Wj aC an s
 have ED:Region.wanted o (yielded ops a.tmps)=true->p∧b=want:=by
  intro hw;by_cases hp:p
  ·exact⟨hp,by simpa[Region.wanted,bu,aR.1 hp]using hw⟩
  simp[Region.wanted,bu,aR.2 hp]at hw
 constructor
 ·intro hw
  refine h3.wp (h (ED hw) a W s) λv W' ⟨f,bc⟩=>⟨v,rfl,f,λ_=>bc,λh=>absurd (ED hw) h⟩
 intro hw
 exact⟨λhb=>by simp[Region.wanted,bu,aR.1 hb.1,hb.2]at hw,λ_=>rfl⟩
inductive uX
 |val (τ:J)
 |new (cp:e0)
 |kW (i:Nat) (cp:e0)
 |Tn (j:Nat) (cp:e0)
def uX.anv:uX->Bool
 | .kW _ _| .Tn _ _=>true
 |_=>false
def uX.adv(p:Nat):uX->aE J
 | .val τ=>some τ
 | .new _=>some (.eq (.pointer (some ⟨p,0,none⟩)))
 |_=>none
def he(ev:Nat->Nat)(ph:aa (aE Nat))(hs:aa uX)(E:aa (Nat×J)):aa Nat->aa (Nat×J)
 |[]=>E
 | j::r=>match ph[j]?,hs[j]? with
   | some (some s),some h=>match h.adv (ev j)with
     |some τ=>(s,τ)::he ev ph hs E r
     |none=>he ev ph hs E r
   |_,_=>he ev ph hs E r
def aaw:aa aK->Nat->e0->aa aK
 |[],_,_=>[]
 |e::r,0,cp=>⟨e.key,cp⟩::r
 |e::r,i+1,cp=>e::aaw r i cp
def Nw(L:aa aK):aa uX->aa aK
 |[]=>L
 | .kW i cp::r=>Nw (aaw L i cp) r
 |_::r=>Nw L r
def S1(j:Nat)(cp:e0):aa uX->e0
 |[]=>cp
 | .Tn i cp'::r=>S1 j (bif Nat.beq i j then cp' else cp) r
 |_::r=>S1 j cp r
def vA(w:Nat->Bool)(i:Nat):Nat->aa uX->Bool
 |_,[]=>true
 |k,.kW j _::r=>(!(Nat.beq j i)||w k)&&vA w i (k+1) r
 |k,.val _::r=>vA w i (k+1) r
 |k,.new _::r=>vA w i (k+1) r
 |k,.Tn _ _::r=>vA w i (k+1) r
def Y9(f g:Nat->Bool)(i:Nat)(aW:f i=true)(bu:g i=false)(h:∀j,g j=true->f j=true):∀n,i<n->((List.range n).filter g).length<((List.range n).filter f).length:=by
 have le:∀n,((List.range n).filter g).length<=((List.range n).filter f).length:=by
  intro n;induction n with
  |zero=>simp
  | succ n cg=>
    rw[F8,mG,mG,gH,gH]
    have:([n].filter g).length<=([n].filter f).length:=by
     cases Bx:g n with
     |false=>simp[Bx]
     |true=>simp[Bx,h n Bx]
    omega
 intro n;induction n with
 |zero=>omega
 | succ n cg=>
   intro b9
   rw[F8,mG,mG,gH,gH]
   by_cases e:i=n
   ·subst e
    have:=le i
    simp[aW,bu]
    omega
   have h1:=cg (by omega)
   have:([n].filter g).length<=([n].filter f).length:=by
    cases Bx:g n with
    |false=>simp[Bx]
    |true=>simp[Bx,h n Bx]
   omega
def ag3{n:Nat}{ct:Array Bool}(inv:HeadInv .any ops n ct)(aM:n<=ops.size)(n1:∀i,i<n->ct.getD i true=true):
 ct=(List.range n).foldl (λl i=>l.setIfInBounds i true) (Array.replicate ops.size false):=by
 have key:∀m,m<=ops.size->((List.range m).foldl (λl i=>l.setIfInBounds i true) (Array.replicate ops.size false)).size=ops.size∧
  ∀j (d:Bool),j<ops.size->((List.range m).foldl (λl i=>l.setIfInBounds i true) (Array.replicate ops.size false)).getD j d=decide (j<m):=by
  intro m
  induction m with
  |zero=>intro _;exact⟨by simp,λj d aC=>by simp[aC]⟩
  | succ m cg=>
    intro hm
    obtain⟨h1,ad⟩:=cg (by omega)
    rw[F8,List.foldl_append]
    simp only[List.foldl_cons,List.foldl_nil]
    refine⟨by simpa using h1,λj d aC=>?_⟩
    by_cases e:m=j
    ·subst e
     simp[h1,aC]
    rw[getD_set_ne d e,ad j d aC]
    by_cases aB:j<m
    ·simp[aB];omega
    simp[aB];omega
 obtain⟨h1,ad⟩:=key n aM
 apply Array.ext
 ·rw[inv.size,h1]
 intro i acI qR
 have aq:i<ops.size:=by rw[<-inv.size];exact acI
 have aB:=ad i true aq
 have av:ct.getD i true=ct[i]:=by simp[acI]
 have aS:((List.range n).foldl (λl i=>l.setIfInBounds i true) (Array.replicate ops.size false)).getD i true=((List.range n).foldl (λl i=>l.setIfInBounds i true) (Array.replicate ops.size false))[i]:=by
  simp[qR]
 rw[<-aS,aB,<-av]
 by_cases aV:i<n
 ·rw[n1 i aV];simp[aV]
 rw[inv.tail i (by omega) aq];simp[aV]
def abS(ev:Nat->Nat)(all:aa uX)(b:Nat)(EZ:aa Nat):aa aK:=EZ.map λj=>⟨some (ev j),match all[j]? with |some (.new cp)=>S1 j cp (all.take b)|_=>.dead⟩
structure auv(c:cP)(n:Nat)(ph:List (Option Nat))(hs:List uX)(E:List (Nat×J))(L:List aK)(ct:Array Bool)(ev:Nat->Nat)(EZ:List Nat)(b:Nat)(a:Act)(W:World):Prop where
 st:bO c E (Nw L (hs.take b)++abS ev hs b EZ) a W
 done:∀(j:Nat) s h τ,j<n->ct.getD j false=true->ph[j]? =some (some s)->hs[j]? =some h->h.adv (ev j)=some τ->∃v,a.tmps[s]? =some v∧τ.holds (ks (Nw L (hs.take b)++abS ev hs b EZ)++c.b8) W v
 news:∀(j:Nat),j∈EZ↔(j<n∧ct.getD j false=true∧∃cp,hs[j]? =some (.new cp))
 stored:∀(j:Nat) h,hs[j]? =some h->h.anv=true->(ct.getD j false=true↔j<b)
 ble:b<=n
def AD{L R:aa aK}(h:L.Perm R):(ks L).Perm (ks R):=by
 induction h with
 |nil=>exact .nil
 |cons x _ cg=>cases hk:x.key <;> simp only[ks,hk] <;> first|exact cg|exact cg.cons _
 | swap x y l=>
   cases au:x.key <;> cases aR:y.key <;> simp only[ks,au,aR]
   all_goals first|exact .refl _|exact .swap _ _ _
 |trans _ _ h1 ad=>exact h1.trans ad
def bO.perm{E L L' a W}(h:bO c E L a W)(p:L.Perm L'):bO c E L' a W:=
 h.sub (λe he=>p.mem_iff.2 he) ((AD p).nodup_iff.1 h.nodup)
end
class bU (P:Program) (t:bJ) (α:Type) [ak α]:Prop where
 size:(P.info? t).map (·.size)=some (ak.size α)
 acJ:∃d,P.underlying t=some d∧(match d with | .struct _| .array _ _=>true|_=>false)=ak.agg α
class dH (P:Program) (t:bJ) {α:outParam Type} [ak α] (x:outParam α):Prop where
 zero:∃i z,P.info? t=some i∧i.zero=some z∧∀A W,(J.of x).holds A W z
def bU.info{P t α}[ak α](h:bU P t α):∃i,P.info? t=some i∧i.size=ak.size α:=by
 have:=h.size;cases aq:P.info? t with
 |none=>simp[aq]at this
 |some i=>exact⟨i,rfl,by simpa[aq]using this⟩
def bU.isAgg{P t α}[ak α](h:bU P t α)(W:bo):(isAgg t).run P W=.ok (ak.agg α) W:=by
 obtain⟨d,hd,he⟩:=h.acJ;unfold Go.isAgg;rw[eg,ep hd W];simp only[Result.andThen_ok];cases d <;> simp_all
def bU.sizeOf{P t α}[ak α](h:bU P t α)(W:bo):(Go.sizeOf t).run P W=.ok (ak.size α) W:=by
 obtain⟨i,aq,hs⟩:=h.info;simp[Go.sizeOf,typeInfo,aq,hs]
def lp(b off j:Nat):(⟨b,off,none⟩:Addr).add j=⟨b,off+j,none⟩:=by unfold Addr.add;split <;> simp_all
def Ab{P:Program}{W:bo}{b off:Nat}{cur:Array br}{T t:bJ}{il:Nat×Nat}{α:Type}[ak α]{A:aa Nat}{x:α}(ty:bU P t α)
 (hb:W.heap[b]? =some (.cells cur T il)) (hs:off+ak.size α<=cur.size) (aG:ak.rep A W ((cur.toList.drop off).take (ak.size α)) x):
 ∃v,(loadVar t ⟨b,off,none⟩).run P W=.ok v W∧(J.of x).holds A W v:=by
 have an:=ak.len aG
 have wY:∀j v,((cur.toList.drop off).take (ak.size α))[j]? =some v->W.cell? ((⟨b,off,none⟩:Addr).add j)=some v:=by
  intro j v bc;rw[lp,C0 W b (off+j) cur T il hb];rw[lE]at bc;split at bc
  ·rw[mH]at bc;simpa using bc
  cases bc
 cases aY:ak.agg α with
 | true=>
   have h1:=KD (P:=P) W ⟨b,off,none⟩ _ wY
   rw[an]at h1
   refine⟨.agg ((cur.toList.drop off).take (ak.size α)).toArray,?_,?_,?_⟩
   ·simp[loadVar,eg,ty.isAgg,ty.sizeOf,aY,h1]
   ·simp[shaped,aY]
   simpa[Value.cells]using aG
 | false=>
   have h1:ak.size α=1:=ak.flat aY
   rw[h1]at an
   obtain⟨v,bc⟩:=UZ.1 an
   have ad:=wY 0 v (by rw[h1,bc];rfl)
   have aB:v.oneCell'=true:=ak.one aG v (by rw[h1,bc];simp)
   refine⟨v,?_,?_,?_⟩
   ·rw[lp,Nat.add_zero]at ad
    simp[loadVar,eg,ty.isAgg,aY,ad]
   ·simp[shaped,aY,aB]
   rw[cells_one aB]
   rw[h1,bc]at aG
   simpa using aG
def h0(cur:aa br)(off:Nat)(ds:aa br):aa br:=cur.take off++ds++cur.drop (off+ds.length)
def aiM{A W v}{α:Type}[ak α]{x:α}(h:(J.of x).holds A W v):v.cells.toList.length=ak.size α∧∀u∈v.cells.toList,u.oneCell'=true:=⟨ak.len h.2,ak.one h.2⟩
def Lf{P:Program}{W:bo}{b off:Nat}{cur:Array br}{T t:bJ}{α:Type}[ak α]{A:aa Nat}{x:α}{v:br}(ty:bU P t α)
 (hb:W.heap[b]? =some (.cells cur T (0,0))) (hs:off+ak.size α<=cur.size) (bc:(J.of x).holds A W v):
 (storeVar t ⟨b,off,none⟩ v).run P W=.ok () (W.setRow b (h0 cur.toList off v.cells.toList).toArray):=by
 obtain⟨an,h1⟩:=aiM bc
 have ad:=FN P b off T v.cells.toList 0 cur W hb (by rw[an];omega) h1
 have ee:v.cells.size=ak.size α:=by simpa using an
 simp only[Nat.add_zero]at ad
 simp only[storeVar,eg,ty.sizeOf,Result.andThen_ok,ee]
 simp only[ne_eq,not_true_eq_false,↓reduceIte,Sem.run_pure,eg,Result.andThen_ok]
 simpa[h0]using ad
structure aP(β γ:Type)[ak β][ak γ]where
 off:Nat
 get:β->γ
 set:β->γ->β
 h7:off+ak.size γ<=ak.size β
 kh:∀{A W cs b},ak.rep A W cs b->ak.rep A W ((cs.drop off).take (ak.size γ)) (get b)
 ox:∀{A W cs b ds g},ak.rep A W cs b->ak.rep A W ds g->ak.rep A W (cs.take off++ds++cs.drop (off+ak.size γ)) (set b g)
@[reducible] def aP.id (β:Type) [ak β]:aP β β where
  off:=0
  get b:=b
  set _ g:=g
  h7:=by simp
  kh h:=by
   have:=ak.len h;rw[wh,<-this,iD];exact h
  ox h bu:=by
   have h1:=ak.len h;rw[List.take_zero,List.nil_append,kR,<-h1,r2,ot];exact bu
def Af(cs:aa br)(bz s1 cE s2:Nat)(h:cE+s2<=s1):(((cs.drop bz).take s1).drop cE).take s2=(cs.drop (bz+cE)).take s2:=by
 apply nR;intro i;simp only[lE,mH];split
 ·rw[bh (by omega)];congr 1;omega
 rfl
def WZ(cs ds:aa br)(bz s1 cE s2:Nat)(h:cE+s2<=s1)(ag:bz+s1<=cs.length):
 cs.take bz++(((cs.drop bz).take s1).take cE++ds++((cs.drop bz).take s1).drop (cE+s2))++cs.drop (bz+s1)=cs.take (bz+cE)++ds++cs.drop (bz+cE+s2):=by
 have av:cs.take (bz+cE)=cs.take bz++((cs.drop bz).take s1).take cE:=by
  rw[q8,oq (by omega),Pf]
 have aS:cs.drop (bz+cE+s2)=((cs.drop bz).take s1).drop (cE+s2)++cs.drop (bz+s1):=by
  apply nR;intro i;simp only[OC,mH,lE,ke,e8];split
  ·rw[bh (by omega)];congr 1;omega
  congr 1;omega
 rw[av,aS]
 simp only[iJ]
@[reducible] def aP.comp {α β γ:Type} [ak α] [ak β] [ak γ] (l:aP α β) (m:aP β γ):aP α γ where
  off:=l.off+m.off
  get b:=m.get (l.get b)
  set b g:=l.set b (m.set (l.get b) g)
  h7:=by have:=l.h7;have:=m.h7;omega
  kh h:=by
   have:=m.kh (l.kh h);rwa[Af _ _ _ _ _ m.h7]at this
  ox h bu:=by
   have h1:=l.ox h (m.ox (l.kh h) bu);have ad:=ak.len h;have aB:=l.h7;rwa[WZ _ _ _ _ _ _ m.h7 (by omega)]at h1
def bE{α:Type}[Inhabited α]{n:Nat}(v:Vector α n)(k:Nat):α:=v[k]?.getD default
def dJ{α:Type}{n:Nat}(v:Vector α n)(k:Nat)(x:α):Vector α n:=v.setIfInBounds k x
instance{α:Type}[Inhabited α]{n:Nat}:Inhabited (Vector α n):=⟨Vector.replicate n default⟩
instance{α:Type}[ak α][Inhabited α]{n:Nat}:ak (Vector α n)where
 size:=n*ak.size α
 agg:=true
 rep A W cs v:=ig A W cs v.toList
 len h:=by rw[h.1];simp
 one h:=by
  intro u hu;obtain⟨j,aC⟩:=o5.1 hu;have b9:=(ir.1 aC).1;have h1:=h.1;by_cases hs:ak.size α=0
  ·rw[hs,Nat.mul_zero]at h1;omega
  have hp:0<ak.size α:=FD hs;have aq:j/ak.size α<_:=(U7 hp).2 (by rw[h1]at b9;exact b9);refine ak.one (h.2 _ aq) u (o5.2 ⟨j % ak.size α,?_⟩);rw[lE,bh (GZ _ hp),mH,sX,F9];exact aC
 flat h:=by cases h
 mono e h:=h.mono e
def agC{α:Type}[Inhabited α]{n:Nat}(v:Vector α n){k:Nat}(h:k<n):bE v k=v.toList[k]'(by simpa using h):=by simp[bE,h]
def Qb{α:Type}[ak α]{A W}{cs ds:aa br}{xs:aa α}{x:α}{k:Nat}(h:ig A W cs xs)(hk:k<xs.length)(hd:ak.rep A W ds x):
 ig A W (cs.take (k*ak.size α)++ds++cs.drop (k*ak.size α+ak.size α)) (xs.set k x):=by
 have an:=h.1
 have rL:=ak.len hd
 have hle:(k+1)*ak.size α<=xs.length*ak.size α:=iu _ hk
 rw[sY]at hle
 refine⟨by simp only[gH,e8,ke,xP];omega,λi aq=>?_⟩
 rw[xP]at aq
 by_cases e:k=i
 ·subst e
  have:((cs.take (k*ak.size α)++ds++cs.drop (k*ak.size α+ak.size α)).drop (k*ak.size α)).take (ak.size α)=ds:=by
   rw[iJ,UI (by simp only[e8];omega),Cj (by simp only[e8];omega),List.nil_append,
    Cg (by omega),pL (by omega)]
  rw[this]
  simpa using hd
 have h1:=h.2 i aq
 have:((cs.take (k*ak.size α)++ds++cs.drop (k*ak.size α+ak.size α)).drop (i*ak.size α)).take (ak.size α)=(cs.drop (i*ak.size α)).take (ak.size α):=by
  apply nR;intro j;simp only[lE,mH];split
  ·rename_i aC;simp only[OC,gH,e8,lE,mH];rcases Nat.lt_or_gt_of_ne e with ad|ad
   ·have:(k+1)*ak.size α<=i*ak.size α:=iu _ ad;rw[sY]at this;rw[bf (by omega)];congr 1;omega
   have:(i+1)*ak.size α<=k*ak.size α:=iu _ ad;rw[sY]at this;rw[bh (by omega),bh (by omega),bh (by omega)]
  rfl
 rw[this]
 simpa[List.getElem_set_ne e]using h1
@[reducible] def aP.idx {α:Type} [ak α] [Inhabited α] (n k:Nat) (hk:k<n):aP (Vector α n) α where
  off:=k*ak.size α
  get v:=bE v k
  set v x:=dJ v k x
  h7:=by
   show k*ak.size α+ak.size α<=n*ak.size α;rw[<-sY];exact iu _ hk
  kh h:=by
   rename_i b;rw[agC b hk];exact h.2 k (by simpa using hk)
  ox h hd:=by
   rename_i b ds g;have:=Qb h (k:=k) (by simpa using hk) hd;show ig _ _ _ (dJ b k g).toList;rw[show(dJ b k g).toList=b.toList.set k g by simp[dJ]];exact this
def idx(n:Nat)(i:Int):aE Nat:=if 0<=i∧i<n then some i.toNat else none
def cN{n:Nat}{i:Int}{k:Nat}(h:idx n i=some k):k<n∧i=k:=by
 unfold idx at h;split at h
 ·rename_i aq;simp only[gl]at h;omega
 cases h
section
variable{c:cP}{E:aa (Nat×J)}{L:aa aK}{ops:Array Oper}{Q:Exit->Act->bo->Prop}
variable{d:aE Tmp}{ty:bJ}{pos:String}{af:Array Edge}{g:aE (Nat×Bool)}
def cY{x:cw}{τ:J}(h:aU c E L x τ):bj c E L ⟨d,.move x,ty,pos,af,g⟩ τ:=.pure λa W s=>⟨_,rfl,h a W s⟩
def dm{x:cw}{τ:J}(h:aU c E L x τ):bj c E L ⟨d,.assign x,ty,pos,af,g⟩ τ:=.pure λa W s=>⟨_,rfl,h a W s⟩
def tp{x y:cw}{b e:Bool}{p:Prop}(au:aU c E L x (.of b))(aR:aU c E L y (.cond p (.of e)))(hp:b=false->p):
 bj c E L ⟨d,.pick x (.const (.bool true)) y,ty,pos,af,g⟩ (.of (b||e)):=.pure λa W s=>by
 have h1:=of_bool.1 (au a W s)
 cases b with
 |true=>exact⟨.bool true,by simp only[execOp,h1,asBool];rfl,of_bool.2 I⟩
 | false=>
   have ad:=of_bool.1 ((aR a W s).1 (hp I))
   exact⟨.bool e,by simp[execOp,asBool,h1,ad],of_bool.2 I⟩
def wT{x y:cw}{b e:Bool}{p:Prop}(au:aU c E L x (.of b))(aR:aU c E L y (.cond p (.of e)))(hp:b=true->p):
 bj c E L ⟨d,.pick x y (.const (.bool false)),ty,pos,af,g⟩ (.of (b&&e)):=.pure λa W s=>by
 have h1:=of_bool.1 (au a W s)
 cases b with
 |false=>exact⟨.bool false,by simp only[execOp,h1,asBool];rfl,of_bool.2 I⟩
 | true=>
   have ad:=of_bool.1 ((aR a W s).1 (hp I))
   exact⟨.bool e,by simp[execOp,asBool,h1,ad],of_bool.2 I⟩
def oC{x:cw}{b:Bool}{t:bJ}(au:aU c E L x (.of b)):bj c E L ⟨d,.unOp .not t x,ty,pos,af,g⟩ (.of (!b)):=.pure λa W s=>
 ⟨.bool (!b),by simp[execOp,Op.unary,of_bool.1 (au a W s)],of_bool.2 I⟩
def hv{x:cw}{t:bJ}{i p o:Nat}{β γ:Type}[ak β][ak γ]{b:β}(l:aP β γ){r:γ}(ej:bU c.P t γ)(au:aU c E L x (.eq (.pointer (some ⟨p,o,none⟩))))
 (ar:L[i]? =some ⟨some p,.var b⟩) (a6:o=l.off) (aG:l.get b=r):bj c E L ⟨d,.load t x,ty,pos,af,g⟩ (.of r):=.pure λa W s=>by
 subst a6
 subst aG
 obtain⟨rR,fI,cs,T,rfl,h4⟩:=s.own _ (fB ar)
 have h1:cs.toList.length=ak.size β:=ak.len h4
 obtain⟨v,ad,aB⟩:=Ab (A:=ks L++c.b8) ej fI (by have:=l.h7;simp at h1;omega) (l.kh h4)
 refine⟨v,?_,aB⟩
 have aV:a.eval x=_:=au a W s
 simp[execOp,Instr.loadAt,Instr.sureAddr,aV,ad]
def kE{x:cw}{t:bJ}{γ:Type}[ak γ]{r:γ}(ej:bU c.P t γ)(au:aU c E L x (.ptr r)):bj c E L ⟨d,.load t x,ty,pos,af,g⟩ (.of r):=.pure λa W s=>by
 obtain⟨b,off,cur,T,il,aV,hb,bT,hs,aG⟩:=au a W s;obtain⟨v,ad,aB⟩:=Ab ej bT hs aG;exact⟨v,by simp[execOp,Instr.loadAt,Instr.sureAddr,aV,ad],aB⟩
structure y0(P:Program)(s:TypeId)(f o:Nat):Prop where
 at_:∃fs fd i,P.underlying s=some (.struct fs)∧fs[f]? =some fd∧fd.offset=o∧P.info? fd.type=some i∧i.size≠0
def Wn{P:Program}{s:bJ}{f o:Nat}(h:y0 P s f o)(p off:Nat)(W:bo):
 (Instr.fieldAt s (.pointer (some ⟨p,off,none⟩)) f).run P W=.ok (.pointer (some ⟨p,off+o,none⟩)) W:=by
 obtain⟨fs,fd,i,h1,ad,aB,aV,ba⟩:=h.at_
 simp[Instr.fieldAt,ep h1,ad,Instr.sureAddr,fieldPlace,Go.sizeOf,typeInfo,aV,ba,lp,aB]
def bY{x:cw}{s f o p off:Nat}(fd:y0 c.P s f o)(au:aU c E L x (.eq (.pointer (some ⟨p,off,none⟩)))):
 bj c E L ⟨d,.fieldAddr s x f,ty,pos,af,g⟩ (.eq (.pointer (some ⟨p,off+o,none⟩))):=.pure λa W st=>by
 have aV:a.eval x=_:=au a W st
 exact⟨_,by simp[execOp,aV,Wn fd],rfl⟩
def AX{x:cw}{s f o:Nat}{β γ:Type}[ak β][ak γ]{b:β}(l:aP β γ){r:γ}(fd:y0 c.P s f o)(au:aU c E L x (.ptr b))(a6:l.off=o)(aG:l.get b=r):
 bj c E L ⟨d,.fieldAddr s x f,ty,pos,af,g⟩ (.ptr r):=.pure λa W st=>by
 subst a6
 subst aG
 obtain⟨q,off,cur,T,il,aV,hb,bT,hs,h4⟩:=au a W st
 refine⟨.pointer (some ⟨q,off+l.off,none⟩),by simp[execOp,aV,Wn fd],q,off+l.off,cur,T,il,rfl,hb,bT,by have:=l.h7;omega,?_⟩
 have:=l.kh h4
 rwa[Af _ _ _ _ _ l.h7]at this
class qi (P:Program) (t:bJ) (n s:outParam Nat):Prop where
 at_:∃e i,P.underlying t=some (.array n e)∧P.info? e=some i∧i.size=s
def af5{P:Program}{t n s:Nat}(h:qi P t n s)(p off:Nat)(k:Nat)(hk:k<n)(W:bo):
 (Instr.indexAt t (.pointer (some ⟨p,off,none⟩)) (.int .i64 (k:Int))).run P W=.ok (.pointer (some ⟨p,off+k*s,none⟩)) W:=by
 obtain⟨e,i,h1,ad,aB⟩:=h.at_
 simp[Instr.indexAt,asIntOf,ep h1,Instr.sureAddr,Go.sizeOf,typeInfo,ad,aB,hk,lp]
def hz{x y:cw}{t n s p off:Nat}{i:Int}{k:Nat}(JY:qi c.P t n s)(au:aU c E L x (.eq (.pointer (some ⟨p,off,none⟩))))(aR:aU c E L y (.of i))(hk:k<n∧i=k):
 bj c E L ⟨d,.indexAddr t x y,ty,pos,af,g⟩ (.eq (.pointer (some ⟨p,off+k*s,none⟩))):=.pure λa W st=>by
 have aV:a.eval x=_:=au a W st
 have ba:=of_int.1 (aR a W st)
 obtain⟨bq,rfl⟩:=hk
 exact⟨_,by simp[execOp,aV,ba,af5 JY p off k bq],rfl⟩
def ae.alloc{t:bJ}{rest:aa Oper}{bb:Nat}{α:Type}[ak α]{z:α}(hS:dH c.P t z)(aM:Nat.blt bb c.n=true)
 (k:∀p,ae c ops Q rest ((bb,.eq (.pointer (some ⟨p,0,none⟩)))::E) (⟨some p,.var z⟩::L)):ae c ops Q (⟨some bb,.alloc t,ty,pos,af,none⟩::rest) E L:=λa W s=>by
 obtain⟨i,eB,h1,ad,aB⟩:=hS.zero
 refine jm I (R:=λv W'=>v=.pointer (some ⟨W.heap.size,0,none⟩)∧W'=W.alloc (.cells eB.cells t)) (.mR ?_ ⟨rfl,rfl⟩) λv W' ⟨bc,hw⟩=>?_
 ·simp[execOp,Instr.alloc,zeroValue,typeInfo,h1,ad,newVar,newRow]
 subst bc
 subst hw
 exact k _ _ _ ((s.alloc (cp:=.var z) ⟨eB.cells,t,rfl,(aB _ _).2⟩).put (by simpa using aM) I)
def ae.box{t:bJ}{x:cw}{rest:aa Oper}{bb:Nat}{α:Type}[ak α]{z:α}(au:aU c E L x (.of z))(aM:Nat.blt bb c.n=true)
 (k:∀p,ae c ops Q rest ((bb,.eq (.pointer (some ⟨p,0,none⟩)))::E) (⟨some p,.var z⟩::L)):ae c ops Q (⟨some bb,.box t x,ty,pos,af,none⟩::rest) E L:=λa W s=>by
 refine jm I (R:=λv W'=>v=.pointer (some ⟨W.heap.size,0,none⟩)∧W'=W.alloc (.cells (a.eval x).cells t)) (.mR ?_ ⟨rfl,rfl⟩) λv W' ⟨bc,hw⟩=>?_
 ·simp[execOp,Instr.box,newVar,newRow]
 subst bc
 subst hw
 exact k _ _ _ ((s.alloc (cp:=.var z) ⟨_,t,rfl,(au a W s).2⟩).put (by simpa using aM) I)
def ae.store{x y:cw}{t:bJ}{rest:aa Oper}{i p o:Nat}{β γ:Type}[ak β][ak γ]{b b':β}{v:γ}(l:aP β γ)(ej:bU c.P t γ)(au:aU c E L x (.eq (.pointer (some ⟨p,o,none⟩))))
 (aR:aU c E L y (.of v)) (ar:L[i]? =some ⟨some p,.var b⟩) (a6:o=l.off) (hb:l.set b v=b')
 (k:ae c ops Q rest E (L.set i ⟨some p,.var b'⟩)):ae c ops Q (⟨none,.store t x y,ty,pos,af,none⟩::rest) E L:=λa W s=>by
 subst a6
 subst hb
 obtain⟨rR,fI,cs,T,rfl,h4⟩:=s.own _ (fB ar)
 have h1:cs.toList.length=ak.size β:=ak.len h4
 have hf:=l.h7
 have bc:=aR a W s
 have ad:=Lf (A:=ks L++c.b8) ej fI (off:=l.off) (by simp at h1;omega) bc
 have aV:a.eval x=_:=au a W s
 refine jm I (R:=λv W'=>W'=W.setRow p (h0 cs.toList l.off (a.eval y).cells.toList).toArray) (.DE ?_ I) λv W' hw=>?_
 ·simp[execOp,Instr.storeAt,Instr.sureAddr,aV,ad]
 subst hw
 refine k _ _ (s.store ar fI ?_)
 refine⟨_,T,rfl,?_⟩
 have:=l.ox h4 bc.2
 simpa[h0,ak.len bc.2]using this
def jr(c:cP)(E:aa (Nat×J))(L:aa aK):aa cw->aa J->Prop
 |[],[]=>True
 |x::xs,τ::τs=>aU c E L x τ∧jr c E L xs τs
 |_,_=>False
def jr.holds:∀{xs:aa cw} {τs:aa J},jr c E L xs τs->∀a W,bO c E L a W->hJ (ks L++c.b8) W τs (xs.map a.eval)
 |[],[],_,_,_,_=>.nil
 |x::xs,τ::τs,h,a,W,s=>.cons (h.1 a W s) (h.2.holds a W s)
 |[],_::_,h,_,_,_=>h.elim
 |_::_,[],h,_,_,_=>h.elim
structure bH(P:Program)(f:FuncId):Prop where
 at_:∃ fn,P.funcs[f]? =some fn∧fn.body.isNone=false∧ (fn.name== "runtime.NumGoroutine")=false
def bH.run{P:Program}{f:FuncId}(h:bH P f)(args:Array br)(W:bo):(callFunc f args).run P W=.ok (.enter f args) W:=by
 obtain⟨fn,h1,ad,aB⟩:=h.at_;simp only[callFunc,eg,run_program,Result.andThen_ok,h1,aB,ad];rfl
def ja{f:FuncId}{xs:aa cw}{ats:Array bJ}{τs:aa J}{ρ:J}(cf:bH c.P f)(h:dV c.P f τs ρ)(au:jr c E L xs τs):
 bj c E L ⟨d,.call ⟨.value (.func f),xs.toArray,ats⟩,ty,pos,af,g⟩ ρ:=λa W s=>by
 refine .yd (f:=f) (args:=(xs.map a.eval).toArray) (W':=W) ?_ (h _ W _ s.Mm (au.holds a W s))
 simp[execOp,resolve,Deferred.ofValue,Act.eval,invoke,cf.run]
def vl{P:Program}{W:bo}{t off:Nat}{cs:Array br}{α:Type}[ak α]{A:aa Nat}{x:α}(ty:bU P t α)(hs:off+ak.size α<=cs.size)
 (aG:ak.rep A W ((cs.toList.drop off).take (ak.size α)) x):∃v,(part t cs off).run P W=.ok v W∧(J.of x).holds A W v:=by
 have an:=ak.len aG
 cases aY:ak.agg α with
 | true=>
   refine⟨.agg (cs.extract off (off+ak.size α)),?_,?_,?_⟩
   ·simp[part,ty.isAgg,ty.sizeOf,aY]
   ·simp[shaped,aY]
   simpa[Value.cells,List.extract,Array.toList_extract]using aG
 | false=>
   have h1:ak.size α=1:=ak.flat aY
   have b9:off<cs.size:=by omega
   have ad:(cs.toList.drop off).take (ak.size α)=[cs[off]]:=by
    rw[h1];apply nR;intro j;rw[lE,mH];cases j with
    |zero=>simp[b9]
    |succ j=>simp
   rw[ad]at aG
   have aB:cs[off].oneCell'=true:=ak.one aG _ (by simp)
   refine⟨cs[off],?_,?_,?_⟩
   ·simp[part,ty.isAgg,aY,b9]
   ·simp[shaped,aY,aB]
   rw[cells_one aB];simpa using aG
structure N6(P:Program)(s f t o:Nat):Prop where
 at_:∃fs fd,P.underlying s=some (.struct fs)∧fs[f]? =some fd∧fd.offset=o∧fd.type=t
def Qu{x:cw}{s f t o:Nat}{β γ:Type}[ak β][ak γ]{b:β}(l:aP β γ){r:γ}(adw:N6 c.P s f t o)(ej:bU c.P t γ)(aY:ak.agg β=true)(au:aU c E L x (.of b))(a6:l.off=o)(aG:l.get b=r):
 bj c E L ⟨d,.field s x f,ty,pos,af,g⟩ (.of r):=.pure λa W st=>by
 subst a6
 subst aG
 obtain⟨h1,ad⟩:=au a W st
 simp only[shaped,aY,lX]at h1
 obtain⟨cs,uI⟩:=h1
 obtain⟨fs,fd,aB,aV,ba,bq⟩:=adw.at_
 rw[uI]at ad
 simp only[Value.cells]at ad
 have an:cs.toList.length=ak.size β:=ak.len ad
 obtain⟨v,c0,db⟩:=vl (A:=ks L++c.b8) (P:=c.P) (W:=W) (cs:=cs) (off:=l.off) ej (by have:=l.h7;simp at an;omega) (l.kh ad)
 refine⟨v,?_,db⟩
 simp[execOp,Instr.field,ep aB,aV,uI,asAgg,ba,bq,c0]
def Qt{x y:cw}{t e n:Nat}{i:Int}{k:Nat}{α:Type}[ak α][Inhabited α]{v:Vector α n}(hu:c.P.underlying t=some (.array n e))(ej:bU c.P e α)(au:aU c E L x (.of v))(aR:aU c E L y (.of i))(hk:k<n∧i=k):
 bj c E L ⟨d,.index t x y,ty,pos,af,g⟩ (.of (bE v k)):=.pure λa W st=>by
 obtain⟨h1,ad⟩:=au a W st
 obtain⟨cs,uI⟩:∃cs,a.eval x=.agg cs:=by simpa[shaped,ak.agg]using h1
 have ba:=of_int.1 (aR a W st)
 obtain⟨bq,rfl⟩:=hk
 rw[uI]at ad
 simp only[Value.cells]at ad
 have an:cs.toList.length=n*ak.size α:=ak.len ad
 have hf:=(aP.idx (α:=α) n k bq).h7
 obtain⟨u,c0,db⟩:=vl (A:=ks L++c.b8) (P:=c.P) (W:=W) (cs:=cs) (off:=k*ak.size α) ej
  (by
   have:k*ak.size α+ak.size α<=n*ak.size α:=hf;simp at an;omega) ((aP.idx (α:=α) n k bq).kh ad)
 refine⟨u,?_,db⟩
 simp[execOp,Instr.index,asIntOf,ep hu,uI,ba,bq,ej.sizeOf,c0]
def aax{x:cw}{i:Nat}{τs:aa J}{τ:J}(au:aU c E L x (.bW τs))(aq:τs[i]? =some τ):bj c E L ⟨d,.extract x i,ty,pos,af,g⟩ τ:=.pure λa W st=>by
 obtain⟨vs,h1,ad⟩:=au a W st;have get:∀{τs:aa J} {vs:aa br},hJ (ks L++c.b8) W τs vs->∀(i:Nat) (τ:J),τs[i]? =some τ->∃v,vs[i]? =some v∧τ.holds (ks L++c.b8) W v:=by
  intro τs vs h;induction h with
  |nil=>intro i τ h;simp at h
  | cons h1 _ cg=>
    intro i τ h
    cases i with
    |zero=>simp only[List.getElem?_cons_zero,gl]at h;subst h;exact⟨_,rfl,h1⟩
    |succ i=>simp only[List.getElem?_cons_succ]at h⊢;exact cg i τ h
 obtain⟨v,aB,aV⟩:=get ad i τ aq;refine⟨v,?_,aV⟩;have ba:vs[i]? =some v:=by simpa using aB
 simp[execOp,Instr.extract,h1,ba]
end
def bm(x:Int):Int:=IntKind.i64.wrap x
def gQ{x:Int}(h: -9223372036854775808<=x)(cU:x<=9223372036854775807):bm x=x:=by
 unfold bm;rw[IntKind.wrap_i64];omega
def vF(a b:Int):aE Int:=if b=0 then none else some (a.tmod b)
def ahO{a b r:Int}(h:vF a b=some r):b≠0∧a.tmod b=r:=by unfold vF at h;split at h <;> simp_all
def wrap_u8(n:Int):IntKind.u8.wrap n=n % 256:=by simp[IntKind.wrap,IntKind.signed,IntKind.bits]
def wrap_u64(n:Int):IntKind.u64.wrap n=n % 18446744073709551616:=by simp[IntKind.wrap,IntKind.signed,IntKind.bits]
def ajZ(P:Program)(W:bo)(k Uj:IntKind)(a b:Int)(h:0<=b):(Op.shift .shl k a Uj b).run P W=.ok (.int k (k.wrap (a*2^min b.toNat k.bits))) W:=by
 unfold Op.shift;rw[bf (by omega)];rfl
def aj0(P:Program)(W:bo)(k Uj:IntKind)(a b:Int)(h:0<=b):(Op.shift .shr k a Uj b).run P W=.ok (.int k (a.fdiv (2^min b.toNat k.bits))) W:=by
 unfold Op.shift;rw[bf (by omega)];rfl
section
variable{c:cP}{E:aa (Nat×J)}{L:aa aK}
variable{d:aE Tmp}{ty:bJ}{pos:String}{af:Array Edge}{g:aE (Nat×Bool)}{x y:cw}{t t2:bJ}
def jI{a b:Int}(au:aU c E L x (.of a))(aR:aU c E L y (.of b)):bj c E L ⟨d,.binOp .add t x y t2,ty,pos,af,g⟩ (.of (bm (a+b))):=.pure λA W s=>
 ⟨.int .i64 (bm (a+b)),by simp[execOp,eqGuard,binOp,Op.intArith,of_int.1 (au A W s),of_int.1 (aR A W s),bm],of_int.2 I⟩
def th{a b:Int}(au:aU c E L x (.of a))(aR:aU c E L y (.of b)):bj c E L ⟨d,.binOp .sub t x y t2,ty,pos,af,g⟩ (.of (bm (a-b))):=.pure λA W s=>
 ⟨.int .i64 (bm (a-b)),by simp[execOp,eqGuard,binOp,Op.intArith,of_int.1 (au A W s),of_int.1 (aR A W s),bm],of_int.2 I⟩
def anw{a b:Int}(au:aU c E L x (.of a))(aR:aU c E L y (.of b)):bj c E L ⟨d,.binOp .mul t x y t2,ty,pos,af,g⟩ (.of (bm (a*b))):=.pure λA W s=>
 ⟨.int .i64 (bm (a*b)),by simp[execOp,eqGuard,binOp,Op.intArith,of_int.1 (au A W s),of_int.1 (aR A W s),bm],of_int.2 I⟩
def anx{a b r:Int}(au:aU c E L x (.of a))(aR:aU c E L y (.of b))(h:b≠0∧a.tmod b=r):bj c E L ⟨d,.binOp .rem t x y t2,ty,pos,af,g⟩ (.of r):=.pure λA W s=>
 ⟨.int .i64 r,by obtain⟨h1,rfl⟩:=h;simp[execOp,eqGuard,binOp,Op.intDiv,of_int.1 (au A W s),of_int.1 (aR A W s),h1],of_int.2 I⟩
def pd{a b:Int}(au:aU c E L x (.of a))(aR:aU c E L y (.of b)):bj c E L ⟨d,.binOp .lss t x y t2,ty,pos,af,g⟩ (.of (decide (a<b))):=.pure λA W s=>
 ⟨.bool (decide (a<b)),by simp only[execOp,eqGuard,binOp,of_int.1 (au A W s),of_int.1 (aR A W s)];rfl,of_bool.2 I⟩
def Ip{a b:Int}(au:aU c E L x (.of a))(aR:aU c E L y (.of b)):bj c E L ⟨d,.binOp .leq t x y t2,ty,pos,af,g⟩ (.of (decide (a<=b))):=.pure λA W s=>
 ⟨.bool (decide (a<=b)),by simp only[execOp,eqGuard,binOp,of_int.1 (au A W s),of_int.1 (aR A W s)];rfl,of_bool.2 I⟩
def D0{a b:Int}(au:aU c E L x (.of a))(aR:aU c E L y (.of b)):bj c E L ⟨d,.binOp .gtr t x y t2,ty,pos,af,g⟩ (.of (decide (a>b))):=.pure λA W s=>
 ⟨.bool (decide (a>b)),by simp only[execOp,eqGuard,binOp,of_int.1 (au A W s),of_int.1 (aR A W s)];rfl,of_bool.2 I⟩
def AY{a b:Int}(au:aU c E L x (.of a))(aR:aU c E L y (.of b)):bj c E L ⟨d,.binOp .geq t x y t2,ty,pos,af,g⟩ (.of (decide (a>=b))):=.pure λA W s=>
 ⟨.bool (decide (a>=b)),by simp only[execOp,eqGuard,binOp,of_int.1 (au A W s),of_int.1 (aR A W s)];rfl,of_bool.2 I⟩
def pX{a b:Int}(au:aU c E L x (.of a))(aR:aU c E L y (.of b)):bj c E L ⟨d,.binOp .eql t x y t2,ty,pos,af,g⟩ (.of (a==b)):=.pure λA W s=>
 ⟨.bool (a==b),by simp only[execOp,eqGuard,binOp,of_int.1 (au A W s),of_int.1 (aR A W s)];rfl,of_bool.2 I⟩
def wW{a b:Int}(au:aU c E L x (.of a))(aR:aU c E L y (.of b)):bj c E L ⟨d,.binOp .neq t x y t2,ty,pos,af,g⟩ (.of (a !=b)):=.pure λA W s=>
 ⟨.bool (a !=b),by simp only[execOp,eqGuard,binOp,of_int.1 (au A W s),of_int.1 (aR A W s)];rfl,of_bool.2 I⟩
def MI{a b:Bool}(hu:c.P.underlying t=some .bool)(au:aU c E L x (.of a))(aR:aU c E L y (.of b)):bj c E L ⟨d,.binOp .neq t x y t2,ty,pos,af,g⟩ (.of (a !=b)):=.pure λA W s=>
 ⟨.bool (a !=b),by
   simp only[execOp,eqGuard,binOp,of_bool.1 (au A W s),of_bool.1 (aR A W s),Op.equal,Op.maxDepth];simp[run_equalIn_bool' W 9999 t a b hu,bne],of_bool.2 I⟩
def ZR{a b:Int}{ats:Array bJ}(au:aU c E L x (.of a))(aR:aU c E L y (.of b)):bj c E L ⟨d,.call ⟨.builtin .min,#[x,y],ats⟩,ty,pos,af,g⟩ (.of (min a b)):=.pure λA W s=>
 ⟨.int .i64 (min a b),by
   simp[execOp,resolve,invoke,builtin,Builtin.min_,Builtin.min2,of_int.1 (au A W s),of_int.1 (aR A W s)];split <;> omega,of_int.2 I⟩
def ZQ{a b:Int}{ats:Array bJ}(au:aU c E L x (.of a))(aR:aU c E L y (.of b)):bj c E L ⟨d,.call ⟨.builtin .max,#[x,y],ats⟩,ty,pos,af,g⟩ (.of (max a b)):=.pure λA W s=>
 ⟨.int .i64 (max a b),by
   simp[execOp,resolve,invoke,builtin,Builtin.max_,Builtin.max2,of_int.1 (au A W s),of_int.1 (aR A W s)];split <;> omega,of_int.2 I⟩
def anz(a:BitVec 8):(a.toNat:Int)<256:=by have:=a.isLt;omega
def anA{a:BitVec 8}{src dst:bJ}{e:TypeDesc}(hs:c.P.underlying src=some e)(hd:c.P.underlying dst=some (.int .i64))(au:aU c E L x (.of a)):bj c E L ⟨d,.convert src dst x,ty,pos,af,g⟩ (.of (a.toNat:Int)):=.pure λA W s=>
 ⟨.int .i64 a.toNat,by
   have h:IntKind.i64.wrap (a.toNat:Int)=(a.toNat:Int):=gQ (by omega) (by have:=anz a;omega);simp only[execOp,convert,eg,ep hs,ep hd,MS.1 (au A W s),Conv.intToInt,Result.andThen_ok,h];rfl,of_int.2 I⟩
def DR(a:BitVec 64):(a.toNat:Int)<18446744073709551616:=by have:=a.isLt;omega
def ofInt_u64(a:BitVec 64):BitVec.ofInt 64 (a.toNat:Int)=a:=by simp
def aj1(a b:BitVec 64):IntKind.u64.wrap ((a.toNat:Int)+(b.toNat:Int))=((a+b).toNat:Int):=by rw[wrap_u64,BitVec.toNat_add];omega
def aj2{a b:BitVec 64}(au:aU c E L x (.of a))(aR:aU c E L y (.of b)):bj c E L ⟨d,.binOp .add t x y t2,ty,pos,af,g⟩ (.of (a+b)):=.pure λA W s=>
 ⟨.int .u64 (a+b).toNat,by simp[execOp,eqGuard,binOp,Op.intArith,hK.1 (au A W s),hK.1 (aR A W s),aj1],hK.2 I⟩
def aj3(a b:BitVec 64):IntKind.u64.wrap ((a.toNat:Int)-(b.toNat:Int))=((a-b).toNat:Int):=by rw[wrap_u64,BitVec.toNat_sub];have:=DR a;have:=DR b;omega
def Yh{a b:BitVec 64}(au:aU c E L x (.of a))(aR:aU c E L y (.of b)):bj c E L ⟨d,.binOp .sub t x y t2,ty,pos,af,g⟩ (.of (a-b)):=.pure λA W s=>
 ⟨.int .u64 (a-b).toNat,by simp[execOp,eqGuard,binOp,Op.intArith,hK.1 (au A W s),hK.1 (aR A W s),aj3],hK.2 I⟩
def Qs{a b:BitVec 64}(au:aU c E L x (.of a))(aR:aU c E L y (.of b)):bj c E L ⟨d,.binOp .and t x y t2,ty,pos,af,g⟩ (.of (a&&&b)):=.pure λA W s=>
 ⟨.int .u64 (a&&&b).toNat,by
   simp only[execOp,eqGuard,binOp,hK.1 (au A W s),hK.1 (aR A W s)];have h:IntKind.u64.wrap ((a&&&b).toNat:Int)=((a&&&b).toNat:Int):=by rw[wrap_u64];have:=DR (a&&&b);omega
   rw[<-h];conv=>rhs;rw[<-ofInt_u64 a,<-ofInt_u64 b]
   rfl,hK.2 I⟩
def AG{a b:BitVec 64}(au:aU c E L x (.of a))(aR:aU c E L y (.of b)):bj c E L ⟨d,.binOp .or t x y t2,ty,pos,af,g⟩ (.of (a|||b)):=.pure λA W s=>
 ⟨.int .u64 (a|||b).toNat,by
   simp only[execOp,eqGuard,binOp,hK.1 (au A W s),hK.1 (aR A W s)];have h:IntKind.u64.wrap ((a|||b).toNat:Int)=((a|||b).toNat:Int):=by rw[wrap_u64];have:=DR (a|||b);omega
   rw[<-h];conv=>rhs;rw[<-ofInt_u64 a,<-ofInt_u64 b]
   rfl,hK.2 I⟩
def aj4{a b:BitVec 64}(au:aU c E L x (.of a))(aR:aU c E L y (.of b)):bj c E L ⟨d,.binOp .xor t x y t2,ty,pos,af,g⟩ (.of (a ^^^ b)):=.pure λA W s=>
 ⟨.int .u64 (a ^^^ b).toNat,by
   simp only[execOp,eqGuard,binOp,hK.1 (au A W s),hK.1 (aR A W s)];have h:IntKind.u64.wrap ((a ^^^ b).toNat:Int)=((a ^^^ b).toNat:Int):=by rw[wrap_u64];have:=DR (a ^^^ b);omega
   rw[<-h];conv=>rhs;rw[<-ofInt_u64 a,<-ofInt_u64 b]
   rfl,hK.2 I⟩
def PQ{a b:BitVec 64}(au:aU c E L x (.of a))(aR:aU c E L y (.of b)):bj c E L ⟨d,.binOp .andNot t x y t2,ty,pos,af,g⟩ (.of (a&&& ~~~b)):=.pure λA W s=>
 ⟨.int .u64 (a&&& ~~~b).toNat,by
   simp only[execOp,eqGuard,binOp,hK.1 (au A W s),hK.1 (aR A W s)];have h:IntKind.u64.wrap ((a&&& ~~~b).toNat:Int)=((a&&& ~~~b).toNat:Int):=by rw[wrap_u64];have:=DR (a&&& ~~~b);omega
   rw[<-h];conv=>rhs;rw[<-ofInt_u64 a,<-ofInt_u64 b]
   rfl,hK.2 I⟩
def aj5(a:BitVec 64)(n:Nat):IntKind.u64.wrap ((a.toNat:Int)*2^min n 64)=((a <<< n).toNat:Int):=by
 rw[wrap_u64,UW,Nat.shiftLeft_eq];rcases sW n 64 with h|h
 ·rw[oq (by omega)];simp
 rw[OU h];have e:(a.toNat*2^n) % 2^64=0:=by
  rw[show n=64+(n-64) by omega,Nat.pow_add];exact Nat.mod_eq_zero_of_dvd ⟨a.toNat*2^(n-64),by rw[<-Nat.mul_assoc,sX a.toNat,Nat.mul_assoc]⟩
 rw[e];have aS:(2:Int)^64=18446744073709551616:=by decide
 rw[aS];omega
def aj6(a:BitVec 64)(n:Nat):(a.toNat:Int).fdiv (2^min n 64)=((a >>> n).toNat:Int):=by
 rw[Ko,Km];have e:∀m:Nat,(a.toNat:Int).fdiv (2^m)=((a.toNat/2^m:Nat):Int):=by
  intro m;rw[show((2:Int)^m)=((2^m:Nat):Int) by simp];rw[Int.fdiv_eq_ediv_of_nonneg _ (Vk _)];exact(Int.natCast_ediv _ _).symm
 rw[e];rcases sW n 64 with h|h
 ·rw[oq (by omega)]
 rw[OU h];have h1:a.toNat/2^64=0:=OY a.isLt;have ad:a.toNat/2^n=0:=OY (rZ a.isLt (Vc (by omega) h));rw[h1,ad]
def HU{a:BitVec 64}{b:BitVec 64}(au:aU c E L x (.of a))(aR:aU c E L y (.of b)):bj c E L ⟨d,.binOp .shl t x y t2,ty,pos,af,g⟩ (.of (a <<< b.toNat)):=.pure λA W s=>
 ⟨.int .u64 (a <<< b.toNat).toNat,by
   simp only[execOp,eqGuard,binOp,hK.1 (au A W s),hK.1 (aR A W s)];have h:=ajZ c.P W .u64 .u64 a.toNat b.toNat (by omega);simp only[Int.toNat_natCast,IntKind.bits,aj5]at h;exact eG (λr:Result br=>r.andThen λv w=>.ok (Next.value v) w) h,hK.2 I⟩
def aj7{a:BitVec 64}{b:BitVec 64}(au:aU c E L x (.of a))(aR:aU c E L y (.of b)):bj c E L ⟨d,.binOp .shr t x y t2,ty,pos,af,g⟩ (.of (a >>> b.toNat)):=.pure λA W s=>
 ⟨.int .u64 (a >>> b.toNat).toNat,by
   simp only[execOp,eqGuard,binOp,hK.1 (au A W s),hK.1 (aR A W s)];have h:=aj0 c.P W .u64 .u64 a.toNat b.toNat (by omega);simp only[Int.toNat_natCast,IntKind.bits,aj6]at h;exact eG (λr:Result br=>r.andThen λv w=>.ok (Next.value v) w) h,hK.2 I⟩
def aj8{a b:BitVec 64}(au:aU c E L x (.of a))(aR:aU c E L y (.of b)):bj c E L ⟨d,.binOp .lss t x y t2,ty,pos,af,g⟩ (.of (decide (a<b))):=.pure λA W s=>
 ⟨.bool (decide (a<b)),by
   simp only[execOp,eqGuard,binOp,hK.1 (au A W s),hK.1 (aR A W s)];have h:decide ((a.toNat:Int)<(b.toNat:Int))=decide (a<b):=by simp[zU,CS]
   rw[<-h];rfl,of_bool.2 I⟩
def aj9{a b:BitVec 64}(au:aU c E L x (.of a))(aR:aU c E L y (.of b)):bj c E L ⟨d,.binOp .geq t x y t2,ty,pos,af,g⟩ (.of (decide (a>=b))):=.pure λA W s=>
 ⟨.bool (decide (a>=b)),by
   simp only[execOp,eqGuard,binOp,hK.1 (au A W s),hK.1 (aR A W s)];have h:decide ((a.toNat:Int)>=(b.toNat:Int))=decide (a>=b):=by simp[zU,CS]
   rw[<-h];rfl,of_bool.2 I⟩
def aka{a b:BitVec 64}(au:aU c E L x (.of a))(aR:aU c E L y (.of b)):bj c E L ⟨d,.binOp .eql t x y t2,ty,pos,af,g⟩ (.of (a==b)):=.pure λA W s=>
 ⟨.bool (a==b),by
   simp only[execOp,eqGuard,binOp,hK.1 (au A W s),hK.1 (aR A W s)];have h:((a.toNat:Int)==(b.toNat:Int))=(a==b):=by
    rw[kQ];simp[bne];exact⟨λh=>zB (by omega),λh=>by rw[h]⟩
   rw[<-h];rfl,of_bool.2 I⟩
def akb{a b:BitVec 64}(au:aU c E L x (.of a))(aR:aU c E L y (.of b)):bj c E L ⟨d,.binOp .neq t x y t2,ty,pos,af,g⟩ (.of (a !=b)):=.pure λA W s=>
 ⟨.bool (a !=b),by
   simp only[execOp,eqGuard,binOp,hK.1 (au A W s),hK.1 (aR A W s)];have h:((a.toNat:Int) !=(b.toNat:Int))=(a !=b):=by
    rw[kQ];simp[bne];exact⟨λh=>λe=>h (by rw[e]),λh=>by intro e;exact h (zB (by omega))⟩
   rw[<-h];rfl,of_bool.2 I⟩
def AF{a:Int}{src dst:bJ}{e:TypeDesc}(hs:c.P.underlying src=some e)(hd:c.P.underlying dst=some (.int .u64))(au:aU c E L x (.of a)):bj c E L ⟨d,.convert src dst x,ty,pos,af,g⟩ (.of (BitVec.ofInt 64 a)):=.pure λA W s=>
 ⟨.int .u64 (BitVec.ofInt 64 a).toNat,by
   have h:IntKind.u64.wrap a=((BitVec.ofInt 64 a).toNat:Int):=by rw[wrap_u64,BitVec.toNat_ofInt];omega
   simp[execOp,convert,ep hs,ep hd,of_int.1 (au A W s),Conv.intToInt,h],hK.2 I⟩
def ajF{a:BitVec 64}{src dst:bJ}{e:TypeDesc}(hs:c.P.underlying src=some e)(hd:c.P.underlying dst=some (.int .u8))(au:aU c E L x (.of a)):bj c E L ⟨d,.convert src dst x,ty,pos,af,g⟩ (.of (a.setWidth 8)):=.pure λA W s=>
 ⟨.int .u8 (a.setWidth 8).toNat,by
   have h:IntKind.u8.wrap (a.toNat:Int)=((a.setWidth 8).toNat:Int):=by rw[wrap_u8,BitVec.toNat_setWidth];have:=a.isLt;omega
   simp only[execOp,convert,eg,ep hs,ep hd,hK.1 (au A W s),Conv.intToInt,Result.andThen_ok,h];rfl,MS.2 I⟩
def ald{a:BitVec 64}{src dst:bJ}{e:TypeDesc}(hs:c.P.underlying src=some e)(hd:c.P.underlying dst=some (.int .i64))(au:aU c E L x (.of a)):bj c E L ⟨d,.convert src dst x,ty,pos,af,g⟩ (.of (bm a.toNat)):=.pure λA W s=>
 ⟨.int .i64 (bm a.toNat),by
   simp only[execOp,convert,eg,ep hs,ep hd,hK.1 (au A W s),Conv.intToInt,Result.andThen_ok];rfl,of_int.2 I⟩
end
def AM(tmps:Array br):ResultVar->Sem br
 | .tmp t=>pure (tmps.getD t undef)
 | .cell a t=>do loadVar t (<-asAddr (tmps.getD a undef))
def Am(fn:Func)(tmps:Array br):results fn tmps=(do
 let vs <-fn.results.mapM (AM tmps)
 pure (if h:vs.size=1 then vs[0]else .tuple vs)):=by
 unfold results
 congr 1
section
variable{c:cP}{E:aa (Nat×J)}{L:aa aK}{ops:Array Oper}{Q:Exit->Act->bo->Prop}
def q0(c:cP)(E:aa (Nat×J))(L:aa aK)(r:ResultVar)(τ:J):Prop:=
 ∀a W,bO c E L a W->∃v,(AM a.tmps r).run c.P W=.ok v W∧τ.holds c.b8 W v
def IF{t:Nat}{τ:J}(h:look E t=some τ):q0 c E L (.tmp t) τ:=λa W s=>by
 obtain⟨v,h1,ad⟩:=s.env t τ h;exact⟨v,by simp[AM,h1],Wy ad⟩
def abT{t:Nat}{ty:bJ}{i p:Nat}{α:Type}[ak α]{x:α}(ej:bU c.P ty α)(h:look E t=some (.eq (.pointer (some ⟨p,0,none⟩))))(ar:L[i]? =some ⟨some p,.var x⟩):q0 c E L (.cell t ty) (.of x):=λa W s=>by
 obtain⟨v,h1,ad⟩:=s.env t _ h;subst ad;obtain⟨rR,fI,cs,T,rfl,h4⟩:=s.own _ (fB ar);have an:cs.toList.length=ak.size α:=ak.len h4;have ee:cs.size=ak.size α:=by simpa using an
 obtain⟨v,aB,aV⟩:=Ab (A:=ks L++c.b8) (off:=0) ej fI (by omega) (by rw[wh,<-an,iD];exact h4);exact⟨v,by simp[AM,h1,asAddr,aB],Wy aV⟩
def vG(c:cP)(ρ:J):Ending->bo->Prop:=λe W'=> ∃v,e=.returned v∧Fr c.X c.kc W'∧ρ.holds c.b8 W' v
def al.Sz{fn:Func}{r:ResultVar}{τ:J}(aG:fn.results= #[r])(h:q0 c E L r τ)(eR:c.ds=[]:=by rfl):al c (bodyPost c.P fn (vG c τ)) .ret E L:=λa W s=>by
 obtain⟨v,h1,ad⟩:=h a W s;exact⟨s.Ax eR,v,by simp[Am,aG,h1],v,rfl,s.ef,ad⟩
def al.abA{fn:Func}{r hg:ResultVar}{τ pv:J}(aG:fn.results= #[r,hg])(h:q0 c E L r τ)(ad:q0 c E L hg pv)(eR:c.ds=[]:=by rfl):al c (bodyPost c.P fn (vG c (.bW [τ,pv]))) .ret E L:=λa W s=>by
 obtain⟨v,aB,aV⟩:=h a W s;obtain⟨v2,ba,bq⟩:=ad a W s;exact⟨s.Ax eR,.tuple #[v,v2],by simp[Am,aG,aB,ba],_,rfl,s.ef,_,rfl,.cons aV (.cons bq .nil)⟩
def al.abp{fn:Func}{r hg rS:ResultVar}{τ pv Jb:J}(aG:fn.results= #[r,hg,rS])(h:q0 c E L r τ)(ad:q0 c E L hg pv)(aB:q0 c E L rS Jb)(eR:c.ds=[]:=by rfl):al c (bodyPost c.P fn (vG c (.bW [τ,pv,Jb]))) .ret E L:=λa W s=>by
 obtain⟨v,aV,ba⟩:=h a W s;obtain⟨v2,bq,c0⟩:=ad a W s;obtain⟨v3,db,dE⟩:=aB a W s;exact⟨s.Ax eR,.tuple #[v,v2,v3],by simp[Am,aG,aV,bq,db],_,rfl,s.ef,_,rfl,.cons ba (.cons c0 (.cons dE .nil))⟩
def dV.of{P:Program}{f:FuncId}{fn:Func}{code:Code}{n:Nat}{τs:aa J}{ρ:J}(aW:P.funcs[f]? =some fn)(hb:fn.body=some code)(aM:fn.ntmps=n)(hlen:Nat.ble τs.length n=true)
 (h:∀W A,ay ⟨P,n,W,[],A,none,[]⟩ (bodyPost P fn (vG ⟨P,n,W,[],A,none,[]⟩ ρ)) code (params 0 τs) []):dV P f τs ρ:=dV.enter aW hb aM hlen h
end
structure mY(P:Program)(t:TypeId)(α:Type)[ak α][DecidableEq α](k:Nat):Prop where
 run:∀d,k<=d->∀A W u v (x y:α),(J.of x).holds A W u->(J.of y).holds A W v->(Op.equalIn d t u v).run P W=.ok (decide (x=y)) W
def Yt{P t K}(h:P.underlying t=some (.int K)):mY P t Int 1 where
 run d hd A W u v x y au aR:=by
  obtain⟨d,rfl⟩:∃e,d=e+1:=⟨d-1,by omega⟩;rw[of_int.1 au,of_int.1 aR,run_equalIn_int W d t .i64 K x y h];congr 1
def akc{P t K}(h:P.underlying t=some (.int K)):mY P t (BitVec 64) 1 where
 run d hd A W u v x y au aR:=by
  obtain⟨d,rfl⟩:∃e,d=e+1:=⟨d-1,by omega⟩;rw[hK.1 au,hK.1 aR,run_equalIn_int W d t .u64 K _ _ h];congr 1;rw[kQ];simp only[ni,e2];exact⟨λh=>zB (by omega),λh=>by rw[h]⟩
def aiN{P t}(h:P.underlying t=some .bool):mY P t Bool 1 where
 run d hd A W u v x y au aR:=by
  obtain⟨d,rfl⟩:∃e,d=e+1:=⟨d-1,by omega⟩;rw[of_bool.1 au,of_bool.1 aR,run_equalIn_bool' W d t x y h];congr 1
def PA{P:Program}{W:bo}(f:Nat->Sem Bool)(p:Nat->Bool):∀(l:aa Nat),(∀i∈l,(f i).run P W=.ok (p i) W)->
 (forIn (m:=Sem) l ((none,()):aE Bool×Unit) (λi _=>do
  let __do_lift <-f i
  if (!__do_lift)=true then pure (ForInStep.done (some false,()))else
   pure (ForInStep.yield (none,())))).run P W=.ok (if l.all p then(none,())else(some false,())) W
 |[],_=>by simp
 | i::r,h=>by
   have h1:=h i (by simp);have ad:=PA (P:=P) (W:=W) f p r (λj aC=>h j (by simp[aC]));cases hp:p i with
   |false=>simp[KU,h1,hp]
   | true=>
     rw[KU]
     simp only[eg,h1,hp,Result.andThen_ok,Bool.not_true,sR,ou,Sem.run_pure]
     rw[ad]
     simp[hp]
def Yu{P t e n k}{α:Type}[ak α][Inhabited α][DecidableEq α](h:P.underlying t=some (.array n e))(e1:bU P e α)(he:mY P e α k):mY P t (Vector α n) (k+1)where
 run d hd A W u v x y au aR:=by
  obtain⟨d,rfl⟩:∃e,d=e+1:=⟨d-1,by omega⟩;obtain⟨h1,ad⟩:=au;obtain⟨aB,aV⟩:=aR;obtain⟨xs,rfl⟩:∃cs,u=.agg cs:=by simpa[shaped,ak.agg]using h1
  obtain⟨ys,rfl⟩:∃cs,v=.agg cs:=by simpa[shaped,ak.agg]using aB
  simp only[Value.cells]at ad aV;have xl:xs.toList.length=n*ak.size α:=ak.len ad;have Jc:ys.toList.length=n*ak.size α:=ak.len aV;have A1:∀i∈List.range' 0 n,((do
   let a <-part e xs (i*ak.size α)
   let b <-part e ys (i*ak.size α)
   Op.equalIn d e a b):Sem Bool).run P W=.ok (decide (bE x i=bE y i)) W:=by
   intro i aq
   have iz:i<n:=by simpa using aq
   have hf:i*ak.size α+ak.size α<=n*ak.size α:=(aP.idx (α:=α) n i iz).h7
   obtain⟨a,aY,xm⟩:=vl (A:=A) (P:=P) (W:=W) (cs:=xs) (off:=i*ak.size α) e1 (by simp at xl;omega) ((aP.idx (α:=α) n i iz).kh ad)
   obtain⟨b,hb,Jd⟩:=vl (A:=A) (P:=P) (W:=W) (cs:=ys) (off:=i*ak.size α) e1 (by simp at Jc;omega) ((aP.idx (α:=α) n i iz).kh aV)
   simp only[eg,aY,hb,Result.andThen_ok]
   exact he.run d (by omega) A W a b _ _ xm Jd
  have aW:=PA (P:=P) (W:=W) _ _ _ A1;have n1:(List.range' 0 n).all (λi=>decide (bE x i=bE y i))=decide (x=y):=by
   rw[kQ,lk,e2];constructor
   ·intro h;apply Vector.ext;intro i aq;have:=h i (by simpa using aq);simpa[bE,aq]using this
   rintro rfl i _;simp
  rw[n1]at aW;simp only[Op.equalIn,eg,ep h,Result.andThen_ok,e1.sizeOf,Og];simp only[Std.Legacy.Range.size,Nat.sub_zero,Nat.add_one_sub_one,Py]at aW⊢;simp only[bind_assoc]at aW;rw[aW];by_cases Je:x=y
  ·simp[Je]
  simp[Je]
section
variable{c:cP}{E:aa (Nat×J)}{L:aa aK}{ops:Array Oper}{Q:Exit->Act->bo->Prop}
variable{d:aE Tmp}{ty:bJ}{pos:String}{af:Array Edge}{g:aE (Nat×Bool)}{x y:cw}{t t2:bJ}
def MO{α:Type}[ak α][DecidableEq α]{k:Nat}{a b:α}(vX:mY c.P t α k)(hk:Nat.ble k 10000=true)(bu:c.P.eqGuardType c.P.depth t=false)(aY:ak.agg α=true)(au:aU c E L x (.of a))(aR:aU c E L y (.of b)):
 bj c E L ⟨d,.binOp .eql t x y t2,ty,pos,af,g⟩ (.of (decide (a=b))):=.pure λA W s=>by
 have h1:=au A W s
 have ad:=aR A W s
 obtain⟨xs,p7⟩:∃cs,A.eval x=.agg cs:=by simpa[shaped,aY]using h1.1
 obtain⟨ys,y1⟩:∃cs,A.eval y=.agg cs:=by simpa[shaped,aY]using ad.1
 have aB:=vX.run 10000 (pM hk) _ W _ _ a b h1 ad
 rw[p7,y1]at aB
 refine⟨.bool (decide (a=b)),?_,of_bool.2 I⟩
 simp only[execOp,p7,y1,eg,O7 W .eql t x y xs ys bu,Result.andThen_ok,run_eql_struct,aB,Sem.run_pure]
def R1{α:Type}[ak α][DecidableEq α]{k:Nat}{a b:α}(vX:mY c.P t α k)(hk:Nat.ble k 10000=true)(bu:c.P.eqGuardType c.P.depth t=false)(aY:ak.agg α=true)(au:aU c E L x (.of a))(aR:aU c E L y (.of b)):
 bj c E L ⟨d,.binOp .neq t x y t2,ty,pos,af,g⟩ (.of (!decide (a=b))):=.pure λA W s=>by
 have h1:=au A W s
 have ad:=aR A W s
 obtain⟨xs,p7⟩:∃cs,A.eval x=.agg cs:=by simpa[shaped,aY]using h1.1
 obtain⟨ys,y1⟩:∃cs,A.eval y=.agg cs:=by simpa[shaped,aY]using ad.1
 have aB:=vX.run 10000 (pM hk) _ W _ _ a b h1 ad
 rw[p7,y1]at aB
 refine⟨.bool (!decide (a=b)),?_,of_bool.2 I⟩
 simp only[execOp,p7,y1,eg,O7 W .neq t x y xs ys bu,Result.andThen_ok,run_neq_struct,aB,Sem.run_pure]
end
def HX{P:Program}{W:bo}{d:Nat}{xs ys:Array br}:(Op.eqFields d xs ys []).run P W=.ok true W:=rfl
def qt{P:Program}{A:aa Nat}{W:bo}{d:Nat}{xs ys:Array br}{β γ:Type}[ak β][ak γ][DecidableEq γ](l:aP β γ){Uk Ul:β}{fd:Field}{fs:aa Field}{k:Nat}{r:Bool}(e1:bU P fd.type γ)(a6:fd.offset=l.off)(aM:(fd.name== "_")=false)
 (vX:mY P fd.type γ k) (hd:k<=d) (au:ak.rep A W xs.toList Uk) (aR:ak.rep A W ys.toList Ul) (aG:(Op.eqFields d xs ys fs).run P W=.ok r W):
 (Op.eqFields d xs ys (fd::fs)).run P W=.ok (decide (l.get Uk=l.get Ul)&&r) W:=by
 have xl:xs.toList.length=ak.size β:=ak.len au
 have Jc:ys.toList.length=ak.size β:=ak.len aR
 have hf:=l.h7
 obtain⟨a,aY,xm⟩:=vl (A:=A) (P:=P) (W:=W) (cs:=xs) (off:=l.off) e1 (by simp at xl;omega) (l.kh au)
 obtain⟨b,hb,Jd⟩:=vl (A:=A) (P:=P) (W:=W) (cs:=ys) (off:=l.off) e1 (by simp at Jc;omega) (l.kh aR)
 have pw:fd.name≠ "_" :=fun e=>by rw [e] at aM;simp at aM
 simp only[Op.eqFields,bh pw,eg,a6,aY,hb,Result.andThen_ok,vX.run d hd A W a b _ _ xm Jd]
 by_cases h:l.get Uk=l.get Ul
 ·simp[h,aG]
 simp[h]
def HB{P:Program}{t:bJ}{β:Type}[ak β][DecidableEq β]{k:Nat}{fs:Array Field}(aY:ak.agg β=true)(hu:P.underlying t=some (.struct fs))(hp:P.stoodInHeld t=false)
 (h:∀d,k<=d->∀A W (xs ys:Array br) (x y:β),ak.rep A W xs.toList x->ak.rep A W ys.toList y->(Op.eqFields d xs ys fs.toList).run P W=.ok (decide (x=y)) W):mY P t β (k+1)where
 run d hd A W u v x y au aR:=by
  obtain⟨d,rfl⟩:∃e,d=e+1:=⟨d-1,by omega⟩;obtain⟨xs,rfl⟩:∃cs,u=.agg cs:=by simpa[shaped,aY]using au.1
  obtain⟨ys,rfl⟩:∃cs,v=.agg cs:=by simpa[shaped,aY]using aR.1
  have aW:P.fieldsOf t=fs:=by simp[Program.fieldsOf,hu]
  rw[run_equalIn_struct W d t xs ys (by rw[aW];exact hu) hp,aW];exact h d (by omega) A W xs ys x y (by simpa[Value.cells]using au.2) (by simpa[Value.cells]using aR.2)
def We{P:Program}{W:bo}(fs:Array Field)(h:fs.all (λf=>(P.info? f.type).isSome)=true):
 (fs.mapM (m:=Sem) λf=>do pure (f.offset,<-Go.sizeOf f.type)).run P W=.ok (fs.map λf=>(f.offset,P.cellsOf f.type)) W:=by
 obtain⟨l⟩:=fs
 have key:∀(l:aa Field),l.all (λf=>(P.info? f.type).isSome)=true->(l.mapM (m:=Sem) λf=>do pure (f.offset,<-Go.sizeOf f.type)).run P W=.ok (l.map λf=>(f.offset,P.cellsOf f.type)) W:=by
  intro l;induction l with
  |nil=>intro _;rfl
  | cons f r cg=>
    intro h
    simp only[List.all_cons,gm]at h
    obtain⟨i,aq⟩:=Ci.1 h.1
    rw[List.mapM_cons]
    simp only[eg,Go.sizeOf,typeInfo,run_program,Result.andThen_ok,aq,Sem.run_pure]
    have:=cg h.2
    simp only[eg,Go.sizeOf,typeInfo]at this
    rw[this]
    simp[Program.cellsOf,aq]
 have cU:l.all (λf=>(P.info? f.type).isSome)=true:=by simpa using h
 rw[List.mapM_toArray]
 simp only[Sem.run_map,key l cU,Result.andThen_ok]
 simp
def agD(ds:aa br)(off:Nat):∀(j:Nat) (cs:Array br),off+j+ds.length<=cs.size->
 (ds.zipIdx j).foldl (λcs (c,j)=>cs.setIfInBounds (off+j) c) cs=(cs.toList.take (off+j)++ds++cs.toList.drop (off+j+ds.length)).toArray:=by
 induction ds with
 |nil=>intro j cs _;simp
 | cons v r cg=>
   intro j cs h
   simp only[List.length_cons]at h
   rw[List.zipIdx_cons,List.foldl_cons,cg (j+1) _ (by simp;omega)]
   simp only[Array.toList_setIfInBounds]
   have:=list_seg_step cs.toList (off+j) v r (by simp;omega)
   rw[show off+(j+1)=off+j+1 by omega]
   simp only[List.length_cons]
   rw[this]
def LO{place:Nat->aE (Nat×Nat)}{cs:Array br}{i off sz:Nat}{v:br}{rest:aa (Nat×br)}(hp:place i=some (off,sz))(bc:v.cells.size=sz)(hle:off+sz<=cs.size):
 Instr.fill place cs ((i,v)::rest)=Instr.fill place (h0 cs.toList off v.cells.toList).toArray rest:=by
 simp only[Instr.fill,hp]
 rw[bf (by simp[bc];omega)]
 have:=agD v.cells.toList off 0 cs (by simp[bc];omega)
 simp only[Nat.add_zero]at this
 congr 1
 rw[<-Array.foldl_toList]
 have bV:(v.cells.zipIdx).toList=v.cells.toList.zipIdx:=by simp
 rw[bV,this]
 simp[h0]
section
variable{c:cP}{E:aa (Nat×J)}{L:aa aK}{ops:Array Oper}{Q:Exit->Act->bo->Prop}
variable{d:aE Tmp}{ty:bJ}{pos:String}{af:Array Edge}{g:aE (Nat×Bool)}{x y:cw}{t t2:bJ}
inductive uo(c:cP)(E:List (Nat×J))(L:List aK)(place:Nat->Option (Nat×Nat)){β:Type}[ak β]:β->List (Nat×Operand)->β->Prop
 |nil {b}:uo c E L place b [] b
 |cons {b dL b':β} {γ:Type} [ak γ] {v:γ} {i:Nat} {x:Operand} {r:List (Nat×Operand)} (l:aP β γ):place i=some (l.off,ak.size γ)->aU c E L x (.of v)->l.set b v=dL->uo c E L place dL r b'->uo c E L place b ((i,x)::r) b'
def uo.run{place:Nat->aE (Nat×Nat)}{β:Type}[ak β]{b b':β}{ev:aa (Nat×cw)}(h:uo c E L place b ev b'):∀a W,bO c E L a W->∀cs:Array br,ak.rep (ks L++c.b8) W cs.toList b->
 ∃ff,Instr.fill place cs (ev.map λ(i,x)=>(i,a.eval x))=some ff∧ak.rep (ks L++c.b8) W ff.toList b':=by
 induction h with
 |nil=>intro a W s cs aG;exact⟨cs,rfl,aG⟩
 | @cons b dL b' γ _ v i x r l h1 ad aB _ cg=>
   intro a W s cs aG
   subst aB
   have bc:=ad a W s
   have ee:(a.eval x).cells.size=ak.size γ:=by have:=ak.len bc.2;simpa using this
   have an:cs.toList.length=ak.size β:=ak.len aG
   have hf:=l.h7
   rw[nS,LO h1 ee (by simp at an;omega)]
   refine cg a W s _ ?_
   have:=l.ox aG bc.2
   simpa[h0,ak.len bc.2]using this
class gF (P:Program) (t:bJ) (pl:outParam (Array (Nat×Nat))):Prop where
 at_:∃fs,P.underlying t=some (.struct fs)∧fs.all (λf=>(P.info? f.type).isSome)=true∧(fs.map λf=>(f.offset,P.cellsOf f.type))=pl
def kD{β:Type}[ak β]{z b:β}{ev:aa (Nat×cw)}{pl:Array (Nat×Nat)}(aY:ak.agg β=true)(JZ:gF c.P t pl)(hS:dH c.P t z)
 (aW:uo c E L (pl[·]?) z ev b):bj c E L ⟨d,.build t ev.toArray,ty,pos,af,g⟩ (.of b):=.pure λa W s=>by
 obtain⟨fs,hu,hs,rfl⟩:=JZ.at_
 obtain⟨i,eB,h1,ad,aB⟩:=hS.zero
 obtain⟨ff,aV,ba⟩:=aW.run a W s eB.cells (aB _ _).2
 refine⟨.agg ff,?_,by simp[shaped,aY],by simpa[Value.cells]using ba⟩
 have hm:(ev.toArray.map λ(x:Nat×cw)=>(x.1,a.eval x.2)).toList=ev.map λ(i,x)=>(i,a.eval x):=by simp
 simp only[execOp,Instr.build,eg,zeroValue,typeInfo,run_program,Result.andThen_ok,h1,ad,Sem.run_pure,ep hu,We fs hs]
 rw[hm,aV]
 rfl
def aiE{β:Type}[ak β]{z b:β}{ev:aa (Nat×cw)}{n e sz:Nat}(aY:ak.agg β=true)(hu:c.P.underlying t=some (.array n e))(hs:(c.P.info? e).map (·.size)=some sz)(hS:dH c.P t z)
 (aW:uo c E L (λi=>some (i*sz,sz)) z ev b):bj c E L ⟨d,.build t ev.toArray,ty,pos,af,g⟩ (.of b):=.pure λa W s=>by
 obtain⟨i,eB,h1,ad,aB⟩:=hS.zero
 obtain⟨hE,eo,ee⟩:∃hE,c.P.info? e=some hE∧hE.size=sz:=by
  cases aq:c.P.info? e with
  |none=>simp[aq]at hs
  |some hE=>exact⟨hE,rfl,by simpa[aq]using hs⟩
 obtain⟨ff,aV,ba⟩:=aW.run a W s eB.cells (aB _ _).2
 refine⟨.agg ff,?_,by simp[shaped,aY],by simpa[Value.cells]using ba⟩
 have hm:(ev.toArray.map λ(x:Nat×cw)=>(x.1,a.eval x.2)).toList=ev.map λ(i,x)=>(i,a.eval x):=by simp
 simp only[execOp,Instr.build,eg,zeroValue,typeInfo,run_program,Result.andThen_ok,h1,ad,Sem.run_pure,ep hu,Go.sizeOf,eo,ee]
 rw[hm,aV]
 rfl
end
def rT{α:Type}[ak α](A:aa Nat)(W:bo)(v:br)(xs:aa α):Prop:=
 (v=.slice none 0 0∧xs=[])∨
 ∃ b off cap cur T il,v=.slice (some ⟨b,off,none⟩) xs.length cap∧b∉A∧W.heap[b]? =some (.cells cur T il)∧xs.length<=cap∧xs.length<=maxLen∧off+xs.length*ak.size α<=cur.size∧
   ig A W ((cur.toList.drop off).take (xs.length*ak.size α)) xs
def rT.mono{α:Type}[ak α]{A W cV W' v}{xs:aa α}(e:Ext A W cV W')(h:rT A W v xs):rT cV W' v xs:=by
 rcases h with h|⟨b,off,cap,cur,T,il,h1,ad,aB,aV,ba,bq,c0⟩
 ·exact .inl h
 have b9:b<W.heap.size:=(sP.1 aB).1;exact .inr ⟨b,off,cap,cur,T,il,h1,λhm=>ad (e.new b hm b9),by rw[e.block b b9 ad];exact aB,aV,ba,bq,c0.mono e⟩
instance{α:Type}[ak α]:ak (aa α)where
 size:=1
 agg:=false
 rep A W cs xs:=∃v,cs=[v]∧rT A W v xs
 len h:=by obtain⟨v,rfl,_⟩:=h;rfl
 one h:=by
  obtain⟨v,rfl,h⟩:=h;intro u hu;rw[hT.1 hu];rcases h with⟨rfl,_⟩|⟨b,off,cap,cur,T,il,rfl,_⟩ <;> rfl
 flat _:=rfl
 mono e h:=let⟨v,h1,ad⟩:=h; ⟨v,h1,ad.mono e⟩
def rT.one{α:Type}[ak α]{A W v}{xs:aa α}(h:rT A W v xs):v.oneCell'=true:=by
 rcases h with⟨rfl,_⟩|⟨b,off,cap,cur,T,il,rfl,_⟩ <;> rfl
def qw{α:Type}[ak α]{A W v}{xs:aa α}:(J.of xs).holds A W v↔rT A W v xs:=by
 constructor
 ·rintro ⟨h1,u,ad,aB⟩;have:v=u:=pS h1 ad;rw[this];exact aB
 intro h;exact⟨h.one,v,by rw[cells_one h.one],h⟩
def ax{α:Type}[Inhabited α](xs:aa α)(k:Nat):α:=xs[k]?.getD default
def dz{α:Type}[Inhabited α](xs:aa α){k:Nat}(h:k<xs.length):ax xs k=xs[k]:=by simp[ax,h]
def mQ{α:Type}(xs:aa α)(lo aq:Int):aE (aa α):=if 0<=lo∧lo<=aq∧aq<=xs.length then some ((xs.drop lo.toNat).take (aq.toNat-lo.toNat))else none
def agE{α:Type}{xs r:aa α}{lo aq:Int}(h:mQ xs lo aq=some r):∃a b:Nat,lo=a∧aq=b∧a<=b∧b<=xs.length∧r=(xs.drop a).take (b-a):=by
 unfold mQ at h;split at h
 ·rename_i ag;simp only[gl]at h;exact⟨lo.toNat,aq.toNat,by omega,by omega,by omega,by omega,h.symm⟩
 cases h
def eZ{α:Type}(bytes:Nat)(xs ys:aa α):aE (aa α):=if (xs.length+ys.length)*bytes<=140737488355328∧xs.length+ys.length<=maxLen then some (xs++ys)else none
def W0{α:Type}{bytes:Nat}{xs ys r:aa α}(h:eZ bytes xs ys=some r):(xs.length+ys.length)*bytes<=140737488355328∧xs.length+ys.length<=maxLen∧r=xs++ys:=by
 unfold eZ at h;split at h
 ·rename_i ag;simp only[gl]at h;exact⟨ag.1,ag.2,h.symm⟩
 cases h
section
variable{c:cP}{E:aa (Nat×J)}{L:aa aK}{ops:Array Oper}{Q:Exit->Act->bo->Prop}
variable{d:aE Tmp}{ty:bJ}{pos:String}{af:Array Edge}{g:aE (Nat×Bool)}{x y:cw}{t t2:bJ}
def look_nil{α:Type}[ak α]:aU c E L (.const (.slice none 0 0)) (.of ([]:aa α)):=λ_ _ _=>qw.2 (.inl ⟨rfl,rfl⟩)
def rT.len{α:Type}[ak α]{A W v}{xs:aa α}(h:rT A W v xs):∃a cap,v=.slice a xs.length cap:=by
 rcases h with⟨rfl,rfl⟩|⟨b,off,cap,cur,T,il,rfl,_⟩
 ·exact⟨none,0,rfl⟩
 exact⟨_,_,rfl⟩
def pg{α:Type}[ak α]{xs:aa α}{e:bJ}(hu:c.P.underlying t=some (.slice e))(au:aU c E L x (.of xs)):bj c E L ⟨d,.call ⟨.builtin .len,#[x],#[t]⟩,ty,pos,af,g⟩ (.of (xs.length:Int)):=.pure λa W s=>by
 obtain⟨b,cap,h1⟩:=(qw.1 (au a W s)).len;exact⟨.int .i64 xs.length,by simp[execOp,resolve,invoke,builtin,Builtin.len_,h1,ep hu,goInt],of_int.2 I⟩
def se{α:Type}[ak α][Inhabited α]{xs:aa α}{e:bJ}{i:Int}{k:Nat}(hu:c.P.underlying t=some (.slice e))(e1:bU c.P e α)(au:aU c E L x (.of xs))(aR:aU c E L y (.of i))(hk:k<xs.length∧i=k):
 bj c E L ⟨d,.indexAddr t x y,ty,pos,af,g⟩ (.ptr (ax xs k)):=.pure λa W s=>by
 obtain⟨bq,rfl⟩:=hk
 have ba:=of_int.1 (aR a W s)
 rcases qw.1 (au a W s)with⟨_,rfl⟩|⟨b,off,cap,cur,T,il,h1,ad,aB,aV,c0,db,dE⟩
 ·simp at bq
 obtain⟨hE,eo,ee⟩:=e1.info
 have hle:(k+1)*ak.size α<=xs.length*ak.size α:=iu _ bq
 rw[sY]at hle
 refine⟨.pointer (some ⟨b,off+k*ak.size α,none⟩),?_,b,off+k*ak.size α,cur,T,il,rfl,ad,aB,by omega,?_⟩
 ·simp[execOp,Instr.indexAt,asIntOf,ep hu,h1,ba,bq,Go.sizeOf,typeInfo,eo,ee,lp]
 have:=dE.2 k bq
 rw[Af _ _ _ _ _ hle]at this
 rw[dz xs bq]
 exact this
def s0{P:Program}{W:bo}{v:br}{k:IntKind}{n m:Nat}{code:BoundsCode}(h:n<=m)(bc:v=.int k n):(Instr.sliceBound v m code).run P W=.ok n W:=by
 subst bc;have bC:(n:Int)<=(m:Int):=by omega
 simp[Instr.sliceBound,asIntOf,h]
def akd{α:Type}[ak α]{A W}{xs:aa α}{b off cap:Nat}{cur:Array br}{T:bJ}{il:Nat×Nat}{lo aq:Nat}(ad:b∉A)(aB:W.heap[b]? =some (.cells cur T il))(aV:xs.length<=cap)(c0:xs.length<=maxLen)
 (db:off+xs.length*ak.size α<=cur.size) (dE:ig A W ((cur.toList.drop off).take (xs.length*ak.size α)) xs) (h:lo<=aq) (cU:aq<=xs.length):
 rT A W (.slice (some (if cap=lo then⟨b,off,none⟩else⟨b,off+lo*ak.size α,none⟩)) (aq-lo) (cap-lo)) ((xs.drop lo).take (aq-lo)):=by
 have an:((xs.drop lo).take (aq-lo)).length=aq-lo:=by simp;omega
 have hm:aq*ak.size α<=xs.length*ak.size α:=iu _ cU
 have uG:lo*ak.size α<=aq*ak.size α:=iu _ h
 have hd:(aq-lo)*ak.size α=aq*ak.size α-lo*ak.size α:=Nat.sub_mul _ _ _
 by_cases e:cap=lo
 ·subst e
  have bC:aq=cap:=by omega
  subst bC
  refine .inr ⟨b,off,aq-aq,cur,T,il,by simp,ad,aB,by simp,by simp,by simp;omega,?_⟩
  simp only[Nat.sub_self,List.take_zero,List.length_nil,zY]
  exact⟨by simp,λi aq=>by simp at aq⟩
 rw[bf e]
 refine .inr ⟨b,off+lo*ak.size α,cap-lo,cur,T,il,by rw[an],ad,aB,by omega,by omega,by rw[an];omega,?_⟩
 rw[an]
 refine⟨by simp only[an,e8,ke];simp;omega,λi iz=>?_⟩
 rw[an]at iz
 have n5:=dE.2 (lo+i) (by omega)
 have hle:(lo+i+1)*ak.size α<=xs.length*ak.size α:=iu _ (by omega)
 have M7:(i+1)*ak.size α<=(aq-lo)*ak.size α:=iu _ (by omega)
 rw[sY]at hle M7
 rw[Af _ _ _ _ _ hle]at n5
 rw[Af _ _ _ _ _ M7]
 have:((xs.drop lo).take (aq-lo))[i]'(by rw[an];exact iz)=xs[lo+i]:=by simp
 rw[this]
 rw[show off+lo*ak.size α+i*ak.size α=off+(lo+i)*ak.size α by rw[nU];omega]
 exact n5
inductive zk(c:cP)(E:List (Nat×J))(L:List aK):Option Operand->Int->Int->Prop
 |none {n}:zk c E L .none n n
 |some {x i n}:aU c E L x (.of (i:Int))->zk c E L (.some x) i n
def AA{α:Type}[ak α]{xs r:aa α}{e:bJ}{lo aq:aE cw}{i j:Int}(hu:c.P.underlying t=some (.slice e))(e1:bU c.P e α)(au:aU c E L x (.of xs))(hP:zk c E L lo i 0)(gE:zk c E L aq j xs.length)
 (h:mQ xs i j=some r):bj c E L ⟨d,.slice t x lo aq none,ty,pos,af,g⟩ (.of r):=.pure λa W s=>by
 obtain⟨m,n,rfl,rfl,vL,aM,rfl⟩:=agE h
 obtain⟨hE,eo,ee⟩:=e1.info
 rcases qw.1 (au a W s)with⟨h1,rfl⟩|⟨b,off,cap,cur,T,il,h1,ad,aB,aV,c0,db,dE⟩
 ·have vQ:n=0:=by simpa using aM
  have h8:m=0:=by omega
  subst vQ
  subst h8
  refine⟨.slice none 0 0,?_,qw.2 (.inl ⟨rfl,by simp⟩)⟩
  have ar:(match lo.map a.eval with |some v=>Instr.sliceBound v 0 .sliceB|none=>pure 0:Sem Nat).run c.P W=.ok 0 W:=by
   cases hP with
   |none=>rfl
   |some an=>exact s0 (iS _) (of_int.1 (an a W s))
  have hH:(match aq.map a.eval,(none:aE br) with | some v,some _=>Instr.sliceBound v 0 .slice3B | some v,none=>Instr.sliceBound v 0 .sliceAcap | none,none=>pure 0 | none,some _=>stuck "Slice: max without high" :Sem Nat).run c.P W= .ok 0 W:=by
   cases gE with
   |none=>rfl
   |some an=>exact s0 (iS _) (of_int.1 (an a W s))
  cases hP <;> cases gE
  all_goals
   simp only[execOp,Instr.sliceAt,Instr.slice,Instr.sliceBounds,h1,eg,ep hu,Result.andThen_ok,Option.map_none,Option.map_some,Option.isSome_none,sR,ou,lX,Sem.run_pure]at ar hH⊢
   try simp only[ar,hH,Result.andThen_ok,Go.sizeOf,typeInfo,eg,run_program,eo,Sem.run_pure]
   try simp[eo]
 refine⟨.slice (some (if cap=m then⟨b,off,none⟩else⟨b,off+m*ak.size α,none⟩)) (n-m) (cap-m),?_,qw.2 (akd ad aB aV c0 db dE vL aM)⟩
 have ar:∀v,v=Value.int .i64 m->(Instr.sliceBound v n .sliceB).run c.P W=.ok m W:=λv bc=>s0 vL bc
 have hH:∀v,v=Value.int .i64 n->(Instr.sliceBound v cap .sliceAcap).run c.P W=.ok n W:=λv bc=>s0 (by omega) bc
 have yG:(if cap=m then(some ⟨b,off,none⟩:aE Addr)else(some (Addr.add ⟨b,off,none⟩ (m*ak.size α))))=some (if cap=m then⟨b,off,none⟩else⟨b,off+m*ak.size α,none⟩):=by
  split <;> simp[lp]
 generalize hf:(n:Int)=adx at gE
 generalize xn:(m:Int)=ady at hP
 generalize Jf:(xs.length:Int)=adz at gE
 generalize acK:(0:Int)=adA at hP
 cases hP with
 | none=>
   have h8:m=0:=by omega
   cases gE with
   | none=>
     have mu:n=xs.length:=by omega
     subst mu
     subst h8
     simp[execOp,Instr.sliceAt,Instr.slice,Instr.sliceBounds,h1,ep hu,Go.sizeOf,typeInfo,eo,ee,lp]
   | some an=>
     have ba:=of_int.1 (an a W s)
     rw[<-hf]at ba
     have bq:=hH _ ba
     subst h8
     simp[execOp,Instr.sliceAt,Instr.slice,Instr.sliceBounds,h1,ep hu,Go.sizeOf,typeInfo,eo,ee,lp,bq]
 | some an=>
   have ba:=of_int.1 (an a W s)
   rw[<-xn]at ba
   have bq:=ar _ ba
   cases gE with
   | none=>
     have mu:n=xs.length:=by omega
     subst mu
     simp only[execOp,Instr.sliceAt,Instr.slice,Instr.sliceBounds,h1,eg,ep hu,Result.andThen_ok,Option.map_none,Option.map_some,Option.isSome_none,sR,ou,lX,Sem.run_pure,bq,Go.sizeOf,typeInfo,run_program,eo,ee]
     rw[<-yG]
   | some kJ=>
     have acL:=of_int.1 (kJ a W s)
     rw[<-hf]at acL
     have ar0:=hH _ acL
     simp only[execOp,Instr.sliceAt,Instr.slice,Instr.sliceBounds,h1,eg,ep hu,Result.andThen_ok,Option.map_none,Option.map_some,Option.isSome_none,sR,ou,lX,Sem.run_pure,bq,ar0,Go.sizeOf,typeInfo,run_program,eo,ee]
     rw[<-yG]
end
def aQ:aE Nat->Nat->Nat->br
 |some p,n,cap=>.slice (some ⟨p,0,none⟩) n cap
 |none,_,_=>.slice none 0 0
def agF{L:aa aK}{i:Nat}{cp:e0}:∀k∈ks (L.set i ⟨none,cp⟩),∃j e,j≠i∧L[j]? =some e∧e.key=some k:=by
 intro k hk;obtain⟨e,he,Nx⟩:=ta.1 hk;obtain⟨j,aC⟩:=o5.1 he;rw[qn]at aC;split at aC
 ·split at aC
  ·simp only[gl]at aC;subst aC;cases Nx
  cases aC
 rename_i di;exact⟨j,e,λh=>di h.symm,aC,Nx⟩
def De{L:aa aK}{i:Nat}{cp:e0}:ks (L.set i ⟨none,cp⟩) |>.Sublist (ks L):=by
 induction L generalizing i with
 |nil=>simp[ks]
 | cons x r cg=>
   cases i with
   | zero=>
     cases hk:x.key with
     |none=>simp[ks,hk]
     |some p=>simp[ks,hk]
   | succ i=>
     cases hk:x.key with
     |none=>simpa[ks,hk]using cg
     |some p=>simpa[ks,hk]using cg
def bO.kill{c E L a W}(h:bO c E L a W)(i:Nat):bO c E (L.set i ⟨none,.dead⟩) a W:=by
 have oJ:=De (L:=L) (i:=i) (cp:=.dead);have hk:∀k∈ks (L.set i ⟨none,.dead⟩),k∈ks L:=λk hk=>oJ.subset hk;have jd:Ext (ks L++c.b8) W (ks (L.set i ⟨none,.dead⟩)++c.b8) W:=.drop λk hm=>by
  rcases cF.1 hm with hm|hm
  ·exact cF.2 (.inl (hk k hm))
  exact cF.2 (.inr hm)
 exact
 {defers:=h.defers
  size:=h.size
  env:=λt τ an=>let⟨v,h1,ad⟩:=h.env t τ an; ⟨v,h1,τ.mono jd ad⟩
  ef:=h.ef
  own:=λe he=>by
   obtain⟨j,aC⟩:=o5.1 he;rw[qn]at aC;split at aC
   ·split at aC
    ·simp only[gl]at aC;subst aC;trivial
    cases aC
   have h1:=h.own e (fB aC);unfold aK.ok at *;split at h1
   ·obtain⟨o',a6,bT⟩:=h1;exact⟨o',a6,e0.mono _ jd bT⟩
   exact h1
  nodup:=h.nodup.sublist oJ
  lt:=λk hm=>h.lt k (hk k hm)
  hh:=λk hm=>h.hh k (hk k hm)
  fe:=λk hm=>⟨(h.fe k hm).1,λad=>(h.fe k hm).2 (hk k ad)⟩}
def bO.HO{c E L a W}(h:bO c E L a W){i p:Nat}{cp:e0}(aq:L[i]? =some ⟨some p,cp⟩):p∉ks (L.set i ⟨none,.dead⟩)++c.b8:=by
 intro hm;rcases cF.1 hm with hm|hm
 ·obtain⟨j,e,di,aC,Nx⟩:=agF p hm;exact di (Rz h.nodup aC aq Nx I)
 exact(h.fe p hm).2 (ta.2 ⟨_,fB aq,rfl⟩)
def PI{α:Type}[ak α]{A W}{cs:Array br}{xs:aa α}{cap:Nat}(h:cs.size=cap*ak.size α)(aM:xs.length<=cap)(aG:ig A W (cs.toList.take (xs.length*ak.size α)) xs):
 0+xs.length*ak.size α<=cs.size∧ig A W ((cs.toList.drop 0).take (xs.length*ak.size α)) xs:=by
 refine⟨?_,by simpa using aG⟩
 rw[h,kR];exact iu _ aM
section
variable{c:cP}{E:aa (Nat×J)}{L:aa aK}{ops:Array Oper}{Q:Exit->Act->bo->Prop}
variable{d:aE Tmp}{ty:bJ}{pos:String}{af:Array Edge}{g:aE (Nat×Bool)}{x y:cw}{t t2:bJ}
def bO.freeze{a:Act}{W:bo}{α:Type}[ak α]{i s cap T:Nat}{key:aE Nat}{xs:aa α}(h:bO c E L a W)(an:look E s=some (.eq (aQ key xs.length cap)))(ar:L[i]? =some ⟨key,.row T xs cap⟩):
 bO c ((s,.of xs)::E) (L.set i ⟨none,.dead⟩) a W:=by
 have hk:=h.kill i
 refine {hk with env:=λt τ fm=>?_}
 simp only[look]at fm
 by_cases e:Nat.beq s t=true
 ·rw [e]at fm
  simp only[cond_true,gl]at fm
  subst fm
  have:=fa.1 e
  subst this
  obtain⟨v,h1,ad⟩:=h.env s _ an
  refine⟨v,h1,qw.2 ?_⟩
  have l0:v=aQ key xs.length cap:=ad
  subst l0
  have a6:=h.own _ (fB ar)
  cases key with
  |none=>exact .inl ⟨rfl,a6.1⟩
  | some p=>
    obtain⟨o,fI,cs,rfl,ee,aM,Br,aG⟩:=a6
    obtain⟨aB,aV⟩:=PI ee aM aG
    refine .inr ⟨p,0,cap,cs,T,(0,0),rfl,h.HO ar,fI,aM,by omega,aB,?_⟩
    have oJ:=De (L:=L) (i:=i) (cp:=.dead)
    exact aV.mono (.drop λk hm=>by
     rcases cF.1 hm with hm|hm
     ·exact cF.2 (.inl (oJ.subset hm))
     exact cF.2 (.inr hm))
 simp only[jk]at e
 rw[e]at fm
 exact hk.env t τ fm
def ay.freeze{code:Code}{α:Type}[ak α]{key:aE Nat}{xs:aa α}{cap T:Nat}(i s:Nat)(an:look E s=some (.eq (aQ key xs.length cap)))(ar:L[i]? =some ⟨key,.row T xs cap⟩)
 (k:ay c Q code ((s,.of xs)::E) (L.set i ⟨none,.dead⟩)):ay c Q code E L:=λa W st=>k a W (st.freeze an ar)
def bO.ale{a:Act}{W:bo}{α:Type}[ak α](T:bJ)(h:bO c E L a W):bO c E (⟨none,.row T ([]:aa α) 0⟩::L) a W:=
 {h with
  own:=λe he=>by
   rcases dP.1 he with rfl|he
   ·exact⟨rfl,rfl⟩
   exact h.own e he}
def ae.own{l:aa Oper}{α:Type}[ak α](T:bJ)(k:ae c ops Q l E (⟨none,.row T ([]:aa α) 0⟩::L)):ae c ops Q l E L:=λa W st=>k a W (st.ale T)
def mM:aU c E L (.const (.slice none 0 0)) (.eq (aQ none 0 0)):=λ_ _ _=>rfl
def rp{key:aE Nat}{n cap:Nat}{e i T:Nat}{α:Type}[ak α]{xs:aa α}(hu:c.P.underlying t=some (.slice e))(au:aU c E L x (.eq (aQ key n cap)))(aM:n=xs.length)(ar:L[i]? =some ⟨key,.row T xs cap⟩):bj c E L ⟨d,.call ⟨.builtin .len,#[x],#[t]⟩,ty,pos,af,g⟩ (.of (n:Int)):=.pure λa W s=>by
 subst aM;have h1:a.eval x=_:=au a W s;have a6:=s.own _ (fB ar);cases key with
 | none=>
   have:xs=[]:=a6.1
   subst this
   exact⟨.int .i64 0,by simp[execOp,resolve,invoke,builtin,Builtin.len_,h1,aQ,ep hu,goInt],of_int.2 I⟩
 |some p=>exact⟨.int .i64 xs.length,by simp[execOp,resolve,invoke,builtin,Builtin.len_,h1,aQ,ep hu,goInt],of_int.2 I⟩
def ig.one{α:Type}[ak α]{A W}{cs:aa br}{xs:aa α}(h:ig A W cs xs):∀u∈cs,u.oneCell'=true:=by
 intro u hu;obtain⟨j,aC⟩:=o5.1 hu;have b9:=(ir.1 aC).1;have h1:=h.1;by_cases hs:ak.size α=0
 ·rw[hs,Nat.mul_zero]at h1;omega
 have hp:0<ak.size α:=FD hs;have aq:j/ak.size α<_:=(U7 hp).2 (by rw[h1]at b9;exact b9);refine ak.one (h.2 _ aq) u (o5.2 ⟨j % ak.size α,?_⟩);rw[lE,bh (GZ _ hp),mH,sX,F9];exact aC
def x7{α:Type}[ak α]{A W}{cs ds:aa br}{xs ys:aa α}(h:ig A W cs xs)(cU:ig A W ds ys):ig A W (cs++ds) (xs++ys):=by
 refine⟨by rw[gH,h.1,cU.1,gH,nU],λi aq=>?_⟩;rw[gH]at aq;by_cases b9:i<xs.length
 ·have h1:=h.2 i b9;have hle:(i+1)*ak.size α<=xs.length*ak.size α:=iu _ b9;rw[sY]at hle;have n9:=h.1;rw[UI (by omega),Cg (by simp;omega)];rw[List.getElem_append_left b9];exact h1
 have h1:=cU.2 (i-xs.length) (by omega);have e:i*ak.size α=cs.length+(i-xs.length)*ak.size α:=by
  rw[h.1,<-nU];congr 1;omega
 rw[e,OT,Cj (by omega),List.nil_append,show cs.length+(i-xs.length)*ak.size α-cs.length=(i-xs.length)*ak.size α by omega];rw[List.getElem_append_right (by omega)];exact h1
def rT.cells{α:Type}[ak α]{A W v}{ys:aa α}(h:rT A W v ys):
 (v=.slice none 0 0∧ys=[])∨∃(b off cap:Nat) (news:aa br),v=.slice (some ⟨b,off,none⟩) ys.length cap∧news.length=ys.length*ak.size α∧(∀(j:Nat) (u:br),news[j]? =some u->W.cell? ((⟨b,off,none⟩:Addr).add j)=some u)∧
  (∀u∈news,u.oneCell'=true)∧ig A W news ys:=by
 rcases h with h|⟨b,off,cap,cur,T,il,h1,ad,aB,aV,ba,bq,c0⟩
 ·exact .inl h
 refine .inr ⟨b,off,cap,_,h1,c0.1,λj u hu=>?_,λu hu=>?_,c0⟩
 ·rw[lE]at hu
  split at hu
  ·rw[lp,C0 W b (off+j) cur T il aB]
   rw[mH]at hu
   simpa using hu
  cases hu
 exact c0.one u hu
def bO.grow{a:Act}{W:bo}(h:bO c E L a W){i:Nat}{hr:aK}(aq:L[i]? =some hr){o:Obj}{cp:e0}(ag:cp.holds (ks L++c.b8) W o):
 bO c E (L.set i ⟨some W.heap.size,cp⟩) a (W.alloc o):=by
 have h1:=h.alloc ag
 refine h1.sub (λe he=>?_) ?_
 ·obtain⟨j,aC⟩:=o5.1 he
  rw[qn]at aC
  split at aC
  ·split at aC
   ·simp only[gl]at aC;subst aC;simp
   cases aC
  exact gx _ (fB aC)
 have tt:W.heap.size∉ks L:=λhm=>zW _ (h.lt _ hm)
 have key:∀(L:aa aK) (i:Nat) (q:Nat),q∉ks L->(ks L).Nodup->(ks (L.set i ⟨some q,cp⟩)).Nodup∧∀k∈ks (L.set i ⟨some q,cp⟩),k=q∨k∈ks L:=by
  intro L;induction L with
  |nil=>intro i q _ aM;exact⟨by simpa using aM,by simp[ks]⟩
  | cons x r cg=>
    intro i q hq aM
    cases au:x.key with
    | none=>
      have qS:q∉ks r:=by simpa[ks,au]using hq
      have pw:(ks r).Nodup:=by simpa[ks,au]using aM
      cases i with
      |zero=>exact⟨by simp only[List.set_cons_zero,ks];exact pP.2 ⟨qS,pw⟩,λk hk=>by
       simp only[List.set_cons_zero,ks,dP]at hk;rcases hk with rfl|hk
       ·exact .inl I
       exact .inr (by simpa[ks,au]using hk)⟩
      | succ i=>
        obtain⟨h1,ad⟩:=cg i q qS pw
        exact⟨by simpa[ks,au]using h1,λk hk=>by have:=ad k (by simpa[ks,au]using hk);simpa[ks,au]using this⟩
    | some p=>
      simp only[ks,au,dP,x5]at hq
      simp only[ks,au]at aM
      obtain⟨hp,pw⟩:=pP.1 aM
      cases i with
      |zero=>exact⟨by simp only[List.set_cons_zero,ks];exact pP.2 ⟨hq.2,pw⟩,λk hk=>by
       simp only[List.set_cons_zero,ks,dP]at hk;rcases hk with rfl|hk
       ·exact .inl I
       exact .inr (by simp[ks,au,hk])⟩
      | succ i=>
        obtain⟨h1,ad⟩:=cg i q hq.2 pw
        refine⟨?_,λk hk=>?_⟩
        ·simp only[List.set_cons_succ,ks,au]
         refine pP.2 ⟨λhm=>?_,h1⟩
         rcases ad p hm with e|EE
         ·exact hq.1 e.symm
         exact hp EE
        simp only[List.set_cons_succ,ks,au,dP]at hk
        rcases hk with rfl|hk
        ·exact .inr (by simp[ks,au])
        rcases ad k hk with e|EE
        ·exact .inl e
        exact .inr (by simp[ks,au,EE])
 exact(key L i _ tt h.nodup).1
def QC{α:Type}[ak α]{A W}{cs ds:aa br}{xs:aa α}{T cap:Nat}(h:ig A W cs xs)(bV:ds.length=(cap-xs.length)*ak.size α)(aM:xs.length<=cap)(hm:cap<=maxLen){arr:Array br}(aY:arr.toList=cs++ds):
 (e0.row T xs cap).holds A W (.cells arr T (0,0)):=by
 refine⟨arr,rfl,?_,aM,hm,?_⟩
 ·have:arr.size=(cs++ds).length:=by rw[<-aY];simp
  rw[this,gH,h.1,bV,<-nU];congr 1;omega
 rw[aY,<-h.1,Gs];exact h
def ae.app{α:Type}[ak α]{rest:aa Oper}{bb i e bytes cap:Nat}{key:aE Nat}{xs ys r:aa α}{z:α}(hu:c.P.underlying t=some (.slice e))(e1:bU c.P e α)(hS:dH c.P e z)
 (By:(c.P.info? e).map (·.bytes)=some bytes) (hs:aU c E L x (.eq (aQ key xs.length cap))) (ar:L[i]? =some ⟨key,.row e xs cap⟩) (aR:aU c E L y (.of ys)) (h:eZ bytes xs ys=some r) (aM:Nat.blt bb c.n=true)
 (k:∀uw cap',ae c ops Q rest ((bb,.eq (aQ uw r.length cap'))::E) (L.set i ⟨uw,.row e r cap'⟩)):
 ae c ops Q (⟨some bb,.call ⟨.builtin .append,#[x,y],#[t,t]⟩,ty,pos,af,none⟩::rest) E L:=λa W s=>by
 obtain⟨tA,qP,rfl⟩:=W0 h
 obtain⟨hE,eB,eo,bV,vR⟩:=hS.zero
 have qI:hE.size=ak.size α:=by
  obtain⟨i2,h1,ad⟩:=e1.info;rw[eo]at h1;cases h1;exact ad
 have RA:hE.bytes=bytes:=by simpa[eo]using By
 have Bz:eB.cells.size=ak.size α:=by have:=ak.len (vR [] W).2;simpa using this
 subst RA
 have h1:a.eval x=_:=hs a W s
 have a6:=s.own _ (fB ar)
 have jz:bb<c.n:=by simpa using aM
 have qh:=(qw.1 (aR a W s)).cells
 have uG:maxLen=9223372036854775807:=rfl
 have main:∃uw cap' W',(Builtin.append_ #[t,t] ty #[a.eval x,a.eval y]).run c.P W=.ok (aQ uw (xs++ys).length cap') W'∧bO c E (L.set i ⟨uw,.row e (xs++ys) cap'⟩) a W':=by
  cases key with
  | none=>
    obtain⟨BA,BB⟩:xs=[]∧cap=0:=a6
    subst BA
    subst BB
    have MT:L.set i ⟨none,.row e ([]:aa α) 0⟩=L:=by
     obtain⟨b9,he⟩:=ir.1 ar;rw[<-he];exact U5 b9
    rcases qh with⟨bc,rfl⟩|⟨b,off,cp,news,bc,p8,MU,EF,h4⟩
    ·refine⟨none,0,W,?_,by simpa[MT]using s⟩
     simp[h1,bc,aQ,Builtin.append_,ep hu,Go.sizeOf,typeInfo,eo,Builtin.lenOf,Builtin.firstCells]
    by_cases hm:ys.length=0
    ·have:ys=[]:=Oi hm
     subst this
     refine⟨none,0,W,?_,by simpa[MT]using s⟩
     simp[h1,bc,aQ,Builtin.append_,ep hu,Go.sizeOf,typeInfo,eo,Builtin.lenOf,Builtin.firstCells,loadCells,loadCellsFrom]
    simp only[List.length_nil,kR]at tA qP
    have aG:=run_append_nil (P:=c.P) W t ty e hE eB hu eo bV ⟨b,off,none⟩ ys.length cp news (by rw[qI];exact p8) MU (by omega) (by omega) (by omega)
    refine⟨some W.heap.size,grownCap W ys.length 0 e,_,by rw[h1,bc];simpa[aQ]using aG,?_⟩
    have uJ:=grownCap_ge W ys.length 0 e
    have hle:=grownCap_le_maxLen W ys.length 0 e qP
    have:=(s.world (Fr.drew W)).grow ar (o:=.cells (news.toArray++Builtin.zeroCells eB.cells (grownCap W ys.length 0 e-ys.length)) e) (cp:=.row e ([]++ys) (grownCap W ys.length 0 e))
     (QC (T:=e) (h4.mono (Ext.ef (Fr.drew W))) (ds:=(Builtin.zeroCells eB.cells (grownCap W ys.length 0 e-ys.length)).toList) (by rw[Array.length_toList,size_zeroCells,Bz]) uJ hle (by simp))
    simpa using this
  | some p=>
    obtain⟨rR,fI,cs,rfl,ee,ar1,Br,EG⟩:=a6
    have iF:a.eval x=.slice (some ⟨p,0,none⟩) xs.length cap:=h1
    rcases qh with⟨bc,rfl⟩|⟨b,off,cp,news,bc,p8,MU,EF,h4⟩
    ·refine⟨some p,cap,W,?_,?_⟩
     ·simp[iF,bc,aQ,Builtin.append_,ep hu,Go.sizeOf,typeInfo,eo,Builtin.lenOf,Builtin.firstCells,storeCells,ar1]
     have:L.set i ⟨some p,.row e (xs++[]) cap⟩=L:=by
      obtain⟨b9,he⟩:=ir.1 ar;rw[ot,<-he];exact U5 b9
     rw[this];exact s
    by_cases D3:xs.length+ys.length<=cap
    ·have M8:xs.length*hE.size+news.length<=cs.size:=by rw[qI,p8,ee,<-nU];exact iu _ D3
     have aG:=run_append_room (P:=c.P) W t ty e hE hu eo p xs.length cap cs fI ⟨b,off,none⟩ ys.length cp news (by rw[qI];exact p8) MU EF D3 M8
     refine⟨some p,cap,_,by rw[iF,bc];simpa[aQ]using aG,?_⟩
     refine s.store ar fI ⟨_,rfl,?_,by simpa using D3,Br,?_⟩
     ·simp only[FM,gH,e8,ke,Array.length_toList];omega
     have an:(cs.toList.take (xs.length*hE.size)).length=xs.length*ak.size α:=by rw[qI];exact EG.1
     have w3:=x7 EG h4
     rw[qI]
     have hlen:(xs++ys).length*ak.size α=(cs.toList.take (xs.length*ak.size α)++news).length:=by rw[w3.1]
     have qj:((cs.toList.take (xs.length*ak.size α)++news++cs.toList.drop (xs.length*ak.size α+news.length)).toArray).toList.take ((xs++ys).length*ak.size α)=cs.toList.take (xs.length*ak.size α)++news:=by
      rw[hlen];exact Gs
     rw[iJ]at qj
     rw[qj]
     exact w3
    have holds:∀(j:Nat) u,(cs.toList.take (xs.length*ak.size α))[j]? =some u->W.cell? ((⟨p,0,none⟩:Addr).add j)=some u:=by
     intro j u px;rw[lE]at px;split at px
     ·rw[lp,kR,C0 W p j cs e (0,0) fI];simpa using px
     cases px
    have aG:=run_append_grow (P:=c.P) W t ty e hE eB hu eo bV ⟨p,0,none⟩ xs.length cap _ (by rw[qI];exact EG.1) holds ⟨b,off,none⟩ ys.length cp news (by rw[qI];exact p8) MU (by omega) (by omega) (growslice_fits (by omega) tA)
    have uJ:=grownCap_ge W (xs.length+ys.length) cap e
    have hle:=grownCap_le_maxLen W (xs.length+ys.length) cap e qP
    refine⟨some W.heap.size,grownCap W (xs.length+ys.length) cap e,_,by rw[iF,bc];simpa[aQ]using aG,?_⟩
    have w3:=(x7 EG h4).mono (Ext.ef (Fr.drew W))
    have:=(s.world (Fr.drew W)).grow ar (o:=.cells ((cs.toList.take (xs.length*ak.size α)).toArray++news.toArray++Builtin.zeroCells eB.cells (grownCap W (xs.length+ys.length) cap e-(xs.length+ys.length))) e)
     (cp:=.row e (xs++ys) (grownCap W (xs.length+ys.length) cap e))
     (QC (T:=e) w3 (ds:=(Builtin.zeroCells eB.cells (grownCap W (xs.length+ys.length) cap e-(xs.length+ys.length))).toList) (by rw[Array.length_toList,size_zeroCells,Bz,gH]) (by rw[gH];exact uJ) hle (by simp))
    simpa using this
 obtain⟨uw,cap',W',kH,b5⟩:=main
 refine jm I (R:=λv iY=>v=aQ uw (xs++ys).length cap'∧iY=W') (.mR ?_ ⟨rfl,rfl⟩) λv iY ⟨bc,hw⟩=>?_
 ·simp only[execOp,resolve,invoke,builtin,eg,Sem.run_pure,Result.andThen_ok]
  have av:(#[x,y]:Array cw).map a.eval= #[a.eval x,a.eval y]:=by simp
  rw[av,kH]
  rfl
 subst bc
 subst hw
 exact k uw cap' _ _ (b5.put jz I)
inductive qC(c:cP)(E:List (Nat×J))(L:List aK){α:Type}[ak α]:List α->List (Nat×Operand)->List α->Prop
 |nil {b}:qC c E L b [] b
 |cons {b b':List α} {v:α} {i:Nat} {x:Operand} {r:List (Nat×Operand)}:i<b.length->aU c E L x (.of v)->qC c E L (b.set i v) r b'->qC c E L b ((i,x)::r) b'
def qC.run{α:Type}[ak α]{b b':aa α}{ev:aa (Nat×cw)}(h:qC c E L b ev b'):∀a W,bO c E L a W->∀cs:Array br,ig (ks L++c.b8) W cs.toList b->
 ∃ff,Instr.fill (λi=>some (i*ak.size α,ak.size α)) cs (ev.map λ(i,x)=>(i,a.eval x))=some ff∧ig (ks L++c.b8) W ff.toList b'∧b'.length=b.length:=by
 induction h with
 |nil=>intro a W s cs aG;exact⟨cs,rfl,aG,rfl⟩
 | @cons b b' v i x r aq ad _ cg=>
   intro a W s cs aG
   have bc:=ad a W s
   have ee:(a.eval x).cells.size=ak.size α:=by have:=ak.len bc.2;simpa using this
   have an:=aG.1
   have hle:(i+1)*ak.size α<=b.length*ak.size α:=iu _ aq
   rw[sY]at hle
   rw[nS,LO I ee (by simp at an;omega)]
   obtain⟨ff,aB,aV,ba⟩:=cg a W s (h0 cs.toList (i*ak.size α) (a.eval x).cells.toList).toArray (by
    have:=Qb aG aq bc.2;simpa[h0,ak.len bc.2]using this)
   exact⟨ff,aB,aV,by rw[ba,xP]⟩
def HG{α:Type}[ak α]{A W}{z:α}{eB:br}(h:(J.of z).holds A W eB)(n:Nat)(hs:ak.size α≠0):ig A W ((Array.range (n*ak.size α)).map (eB.cells[· % eB.cells.size]!)).toList (List.replicate n z):=by
 have an:eB.cells.size=ak.size α:=by have:=ak.len h.2;simpa using this
 have hp:0<ak.size α:=FD hs;refine⟨by simp,λi aq=>?_⟩;have iz:i<n:=by simpa using aq
 have hle:(i+1)*ak.size α<=n*ak.size α:=iu _ iz;rw[sY]at hle;have:((((Array.range (n*ak.size α)).map (eB.cells[· % eB.cells.size]!)).toList.drop (i*ak.size α)).take (ak.size α))=eB.cells.toList:=by
  apply nR;intro j;rw[lE];split
  ·rename_i aC;rw[mH];have b9:i*ak.size α+j<n*ak.size α:=by omega
   have Bg:(i*ak.size α+j) % ak.size α=j:=by rw[sX,Nat.mul_add_mod];exact zO aC
   simp only[zA,Array.getElem?_map,Array.getElem?_range,b9,lX,Option.map_some,an,Bg];rw[getElem!_pos eB.cells j (by omega)];simp[an,aC]
  rename_i aC;symm;simp only[zA];exact UU (by omega)
 rw[this];simpa using h.2
def AV{α:Type}[ak α]{e n:Nat}{z:α}{r:aa α}{ev:aa (Nat×cw)}(hu:c.P.underlying t=some (.slice e))(e1:bU c.P e α)(hS:dH c.P e z)(hs:Nat.beq (ak.size α) 0=false)(aM:Nat.ble (n*ak.size α) 16777216=true)
 (aW:qC c E L (List.replicate n z) ev r):bj c E L ⟨d,.buildSlice t n ev.toArray,ty,pos,af,g⟩ (.of r):=λa W s=>by
 obtain⟨hE,eB,eo,bV,vR⟩:=hS.zero
 have qI:hE.size=ak.size α:=by
  obtain⟨i2,h1,ad⟩:=e1.info;rw[eo]at h1;cases h1;exact ad
 have jx:ak.size α≠0:=λh=>by rw[h]at hs;cases hs
 have uK:=HG (vR (ks L++c.b8) W) n jx
 obtain⟨ff,aB,aV,ba⟩:=aW.run a W s _ uK
 have hlen:r.length=n:=by rw[ba];simp
 have hm:(ev.toArray.map λ(x:Nat×cw)=>(x.1,a.eval x.2)).toList=ev.map λ(i,x)=>(i,a.eval x):=by simp
 have aqm:=pM aM
 refine .mR (v:=.slice (some ⟨W.heap.size,0,none⟩) n n) (W':=W.alloc (.cells ff e)) ?_ ⟨Fr.alloc W _,qw.2 ?_⟩
 ·simp only[execOp,Instr.buildSlice,eg,ep hu,Result.andThen_ok,Go.sizeOf,typeInfo,run_program,eo,Sem.run_pure,qI]
  rw[bf (by omega)]
  try simp only[Sem.run_pure,Result.andThen_ok,eg]
  by_cases bC:n*ak.size α=0
  ·have vQ:n=0:=by
    rcases Nat.mul_eq_zero.1 bC with h|h
    ·exact h
    exact absurd h jx
   subst vQ
   simp only[zY,lX,Sem.run_pure,Result.andThen_ok]
   try simp only[zY]at aB
   have hr:((Array.range 0).map (λx=>(#[]:Array br)[x % (#[]:Array br).size]!))=((Array.range 0).map (eB.cells[· % eB.cells.size]!)):=by simp
   simp only[pure_bind]
   rw[hr,hm,aB]
   simp[newRow]
  simp only[bC,ou,eg,zeroValue,typeInfo,run_program,Result.andThen_ok,eo,bV,Sem.run_pure]
  rw[hm,aB]
  simp[newRow]
 have jd:Ext (ks L++c.b8) W (ks L++c.b8) (W.alloc (.cells ff e)):=Ext.ef (Fr.alloc W _)
 refine .inr ⟨W.heap.size,0,n,ff,e,(0,0),by rw[hlen],λyH=>zW _ (s.Mm _ yH),Ry W _,by omega,?_,?_,?_⟩
 ·have:r.length*1<=n*ak.size α:=by rw[hlen];exact Kx _ (by omega)
  have:maxLen=9223372036854775807:=rfl
  omega
 ·have:=aV.1;simp at this;omega
 have bq:=aV.1
 rw[wh,<-bq,iD]
 exact aV.mono jd
end
def AE{cs:aa br}{o s:Nat}{u:br}(h:u∈cs.drop o):u∈(cs.drop o).take s∨u∈cs.drop (o+s):=by
 rw[<-gw s (cs.drop o)]at h;rcases cF.1 h with h|h
 ·exact .inl h
 rw[Gr]at h;exact .inr h
def QD{cs:aa br}{n o:Nat}{u:br}{p:Prop}(an:cs.length=n)(a6:o=n)(h:u∈cs.drop o):p:=by
 rw[Cj (by omega)]at h;cases h
def alf{cs ds:aa br}{o s n:Nat}(an:cs.length=n)(hd:ds.length=s)(h:o+s<=n):(cs.take o++ds++cs.drop (o+s)).length=n:=by
 simp only[gH,e8,ke];omega
def Yv{cs ds:aa br}{o s n:Nat}(an:cs.length=n)(hd:ds.length=s)(h:o+s<=n):((cs.take o++ds++cs.drop (o+s)).drop o).take s=ds:=by
 have h1:(cs.take o).length=o:=by simp;omega
 rw[iJ,OT,h1,Cj (by omega),List.nil_append,Nat.sub_self,wh,Cg (by omega),pL (by omega)]
def Qc{cs ds:aa br}{o s n cE s2:Nat}(an:cs.length=n)(hd:ds.length=s)(h:o+s<=n)(di:cE+s2<=o∨o+s<=cE):((cs.take o++ds++cs.drop (o+s)).drop cE).take s2=(cs.drop cE).take s2:=by
 apply nR;intro i;simp only[lE,mH];split
 ·rename_i aq;simp only[OC,gH,e8,lE,mH];have h1:min o cs.length=o:=by omega
  rw[h1,hd];rcases di with ad|ad
  ·rw[bh (by omega),bh (by omega),bh (by omega)]
  rw[bf (by omega)];congr 1;omega
 rfl
structure y2(P:Type)where
 size:Nat
 rep:List Nat->World->List Value->Nat->P->Prop
 one:∀{A W cs o x n},rep A W cs o x->cs.length=n->o+size=n->∀u∈cs.drop o,u.oneCell'=true
 mono:∀{A W cV W' cs o x},Ext A W cV W'->rep A W cs o x->rep cV W' cs o x
 mU:∀{A W cs o x n ds p s},rep A W cs o x->cs.length=n->ds.length=s->p+s<=n->p+s<=o->rep A W (cs.take p++ds++cs.drop (p+s)) o x
@[reducible] def hC (B:Type) [ak B]:y2 B where
  size:=ak.size B
  rep A W cs o x:=ak.rep A W ((cs.drop o).take (ak.size B)) x
  one h an a6 u hu:=by
   rcases AE (s:=ak.size B) hu with h1|bC
   ·exact ak.one h u h1
   exact QD an a6 bC
  mono e h:=ak.mono e h
  mU h an hd aM hp:=by rw[Qc an hd aM (.inr hp)];exact h
@[reducible] def dg (B:Type) [ak B] {P:Type} (S:y2 P):y2 (B×P)where
  size:=ak.size B+S.size
  rep A W cs o x:=ak.rep A W ((cs.drop o).take (ak.size B)) x.1∧S.rep A W cs (o+ak.size B) x.2
  one h an a6 u hu:=by
   rcases AE (s:=ak.size B) hu with h1|bC
   ·exact ak.one h.1 u h1
   exact S.one h.2 an (by omega) u bC
  mono e h:=⟨ak.mono e h.1,S.mono e h.2⟩
  mU h an hd aM hp:=⟨by rw[Qc an hd aM (.inr hp)];exact h.1,S.mU h.2 an hd aM (by omega)⟩
@[reducible] def ak.str {T P:Type} (S:y2 P) (to:T->P) (N:Nat) (jz:S.size=N:=by rfl):ak T where
  size:=N
  agg:=true
  rep A W cs x:=cs.length=N∧S.rep A W cs 0 (to x)
  len h:=h.1
  one h:=λu hu=>S.one h.2 h.1 (by omega) u (by simpa using hu)
  flat h:=by cases h
  mono e h:=⟨h.1,S.mono e h.2⟩
structure Jg{P:Type}(S:y2 P)(G:Type)[ak G]where
 off:Nat
 get:P->G
 set:P->G->P
 h7:off+ak.size G<=S.size
 kh:∀{A W cs o b},S.rep A W cs o b->ak.rep A W ((cs.drop (o+off)).take (ak.size G)) (get b)
 ox:∀{A W cs n o b ds g},cs.length=n->o+S.size<=n->S.rep A W cs o b->ak.rep A W ds g->S.rep A W (cs.take (o+off)++ds++cs.drop (o+off+ak.size G)) o (set b g)
def hQ{B:Type}[ak B]:Jg (hC B) B where
 off:=0
 get b:=b
 set _ g:=g
 h7:=by show 0+ak.size B<=ak.size B;omega
 kh h:=h
 ox an a6 _ bu:=by
  have h:=Yv an (ak.len bu) a6;show ak.rep _ _ ((List.drop _ _).take _) _;rw[Nat.add_zero,h];exact bu
def dk{B:Type}[ak B]{P:Type}{S:y2 P}:Jg (dg B S) B where
 off:=0
 get b:=b.1
 set b g:=(g,b.2)
 h7:=by show 0+ak.size B<=ak.size B+S.size;omega
 kh h:=h.1
 ox {A W cs n o b ds g} an a6 h bu:=by
  have a6:o+(ak.size B+S.size)<=n:=a6;refine⟨?_,S.mU h.2 an (ak.len bu) (by omega) (by omega)⟩;rw[Nat.add_zero,Yv an (ak.len bu) (by omega)];exact bu
def bB{B:Type}[ak B]{P:Type}{S:y2 P}{G:Type}[ak G](l:Jg S G):Jg (dg B S) G where
 off:=ak.size B+l.off
 get b:=l.get b.2
 set b g:=(b.1,l.set b.2 g)
 h7:=by have:=l.h7;show ak.size B+l.off+ak.size G<=ak.size B+S.size;omega
 kh h:=by rw[<-K5];exact l.kh h.2
 ox {A W cs n o b ds g} an a6 h bu:=by
  have a6:o+(ak.size B+S.size)<=n:=a6;have aq:=l.h7;have ad:=l.ox an (by omega) h.2 bu;rw[K5 o]at ad;exact⟨by rw[Qc an (ak.len bu) (by omega) (.inl (by omega))];exact h.1,ad⟩
@[reducible] def aP.str {T P G:Type} [ak G] {S:y2 P} {to:T->P} {N:Nat} (l:Jg S G) (off:Nat) (get:T->G) (set:T->G->T) (jz:S.size=N:=by rfl) (a6:l.off=off:=by rfl) (h1:∀b,l.get (to b)=get b:=by intro b;rfl) (ad:∀b g,l.set (to b) g=to (set b g):=by intro b g;rfl): @aP T G (ak.str S to N jz) _:=
  @aP.mk T G (ak.str S to N jz) _ off get set (by have:=l.h7;show off+ak.size G<=N;omega)
   (λ{A W cs b} h=>by have:=l.kh h.2;rw[kR,a6,h1]at this;exact this)
   (λ{A W cs b ds g} h bu=>by
    have aB:=l.ox h.1 (by omega) h.2 bu;rw[kR,a6,ad]at aB;have aV:=l.h7;exact⟨alf h.1 (ak.len bu) (by omega),aB⟩)
class a7 (α:Type) [ak α] [Inhabited α]where
 cells:aa br
 ok:∀A W,ak.rep A W cells (default:α)
instance:a7 Bool:=⟨[.bool false],λ_ _=>rfl⟩
instance:a7 Int:=⟨[.int .i64 0],λ_ _=>rfl⟩
instance:a7 (BitVec 64):=⟨[.int .u64 0],λ_ _=>rfl⟩
instance:a7 (BitVec 32):=⟨[.int .u32 0],λ_ _=>rfl⟩
instance:a7 (BitVec 16):=⟨[.int .u16 0],λ_ _=>rfl⟩
instance:a7 (BitVec 8):=⟨[.int .u8 0],λ_ _=>rfl⟩
instance:a7 ByteArray:=⟨[.string ByteArray.empty],λ_ _=>rfl⟩
instance{α:Type}[ak α]:a7 (aa α):=⟨[.slice none 0 0],λ_ _=>⟨_,rfl,.inl ⟨rfl,rfl⟩⟩⟩
def Xu{α:Type}[ak α]{A W}{xz:aa br}{z:α}(h:ak.rep A W xz z):∀n,ig A W (List.replicate n xz).flatten (List.replicate n z)
 |0=>⟨by simp,λi aq=>by simp at aq⟩
 | n+1=>by
   have h1:=Xu h n;have ad:ig A W xz [z]:=⟨by simp[ak.len h],λi aq=>by
    have:i=0:=by simpa using aq
    subst this;rw[zY,wh,<-ak.len h,iD];exact h⟩
   have:=x7 ad h1;simpa[List.replicate_succ]using this
instance{α:Type}[ak α][Inhabited α][a7 α]{n:Nat}:a7 (Vector α n):=⟨(List.replicate n (a7.cells α)).flatten,λA W=>by
 have:=Xu (a7.ok (α:=α) A W) n;show ig A W _ (Vector.replicate n default).toList;simpa using this⟩
def M9(α:Type)[ak α][Inhabited α][a7 α]:br:=if ak.agg α=true then .agg (a7.cells α).toArray else(a7.cells α).headD undef
theorem dH.of{P:Program}{t:bJ}{α:Type}[ak α][Inhabited α][a7 α](h:(P.info? t).bind (·.zero)=some (M9 α)):dH P t (default:α)where
 zero:=by
  cases aq:P.info? t with
  |none=>simp[aq]at h
  | some i=>
    refine⟨i,M9 α,rfl,by simpa[aq]using h,λA W=>?_⟩
    have ok:=a7.ok (α:=α) A W
    unfold M9
    cases aY:ak.agg α with
    |true=>simp only[lX];exact⟨by simp[shaped,aY],by simpa[Value.cells]using ok⟩
    | false=>
      have h1:=ak.len ok
      rw[ak.flat aY]at h1
      obtain⟨v,bc⟩:=UZ.1 h1
      have aB:v.oneCell'=true:=ak.one ok v (by rw[bc];simp)
      simp only[sR,ou,bc,List.headD_cons]
      exact⟨by simp[shaped,aY,aB],by rw[cells_one aB];rw[bc]at ok;exact ok⟩
theorem bU.of{P:Program}{t:bJ}{α:Type}[ak α]{d:TypeDesc}(aY:(match d with | .struct _| .array _ _=>true|_=>false)=ak.agg α)(hu:P.underlying t=some d)(hs:(P.info? t).map (·.size)=some (ak.size α)):bU P t α:=⟨hs,d,hu,aY⟩
def y0.of{P:Program}{s f o:Nat}{fs:Array Field}{fd:Field}{γ:Type}[ak γ](hu:P.underlying s=some (.struct fs))(aW:fs[f]? =some fd)(a6:fd.offset=o)(ej:bU P fd.type γ)(hs:Nat.beq (ak.size γ) 0=false):y0 P s f o:=by
 obtain⟨i,h1,ad⟩:=ej.info;exact⟨fs,fd,i,hu,aW,a6,h1,λh=>by rw[<-ad,h]at hs;cases hs⟩
theorem qi.of{P:Program}{t n e s:Nat}{γ:Type}[ak γ](hu:P.underlying t=some (.array n e))(ej:bU P e γ)(hs:ak.size γ=s):qi P t n s:=by
 obtain⟨i,h1,ad⟩:=ej.info;exact⟨e,i,hu,h1,by rw[ad,hs]⟩
def bind_some{α β:Type}{m:aE α}{f:α->aE β}{r:β}(h:m.bind f=some r):∃y,m=some y∧f y=some r:=UT.1 h
def fu{α:Type}{b:Bool}{p q:aE α}{r:α}(hb:b=true)(h:cond b p q=some r):p=some r:=by rw[hb]at h;exact h
def fv{α:Type}{b:Bool}{p q:aE α}{r:α}(hb:b=false)(h:cond b p q=some r):q=some r:=by rw[hb]at h;exact h
def dt{α:Type}{a b:α}(h:some a=some b):a=b:=CA h
def b1{α:Type}[Inhabited α](b want:Bool)(m:aE α):aE α:=if b=want then m else some default
def fi{α:Type}[Inhabited α]{b want:Bool}{m:aE α}{y:α}(h:b1 b want m=some y)(hb:b=want):m=some y:=by unfold b1 at h;rw[bh hb]at h;exact h
def c9:Nat:=2^80
def bO.sf{c E L a W}(h:bO c E L a W)(n:Nat):bO c E (L.drop n) a W:=
 h.sub (fun e he=>Cn he) (by
   have:(ks (L.drop n)).Sublist (ks L):=by
    induction L generalizing n with
    |nil=>simp
    | cons x r cg=>
      cases n with
      |zero=>simp
      | succ n=>
        have aG:∀n,(ks (r.drop n)).Sublist (ks r):=by
         intro n;have key:∀(r:aa aK) n,(ks (r.drop n)).Sublist (ks r):=by
          intro r;induction r with
          |nil=>intro n;simp
          | cons y r acM=>
            intro n
            cases n with
            |zero=>simp
            | succ n=>
              simp only[Vf]
              cases hk:y.key with
              |none=>simpa[ks,hk]using acM n
              |some p=>simp only[ks,hk];exact(acM n).cons _
         exact key r n
        simp only[Vf]
        cases hk:x.key with
        |none=>simpa[ks,hk]using aG n
        |some p=>simp only[ks,hk];exact(aG n).cons _
   exact h.nodup.sublist this)
section
variable{c:cP}{E:aa (Nat×J)}{L:aa aK}{ops:Array Oper}{Q:Exit->Act->bo->Prop}
def ea(Q:Exit->Act->bo->Prop):Exit->Act->bo->Prop:=Q
def ay.b1{γ:Type}{x:cw}{b:Bool}{y z:Code}(E':γ->aa (Nat×J))(L':γ->aa aK)(an:aU c E L x (.of b))(oW:∀g,al c Q .normal (E' g) (L' g))
 (bD:(∀g,al c (ea Q) .normal (E' g) (L' g))->b=true->ay c (ea Q) y E L) (aW:(∀g,al c (ea Q) .normal (E' g) (L' g))->b=false->ay c (ea Q) z E L):ay c Q (.cond x y z) E L:=
 ay.cond an (bD oW) (aW oW)
def al.meet{x:Exit}{E':aa (Nat×J)}{L':aa aK}(n:Nat)(ar:L.drop n=L')(h:fO E E')(k:al c Q x E' L'):al c Q x E L:=λa W s=>k a W (by rw[<-ar];exact(s.sf n).less h.look)
def eN{σ ε γ δ:Type}(c:cP)(E:σ->γ->aa (Nat×J))(L:σ->γ->aa aK)(xs:ε->Exit)(h9:ε->δ->aa (Nat×J))(Lx:ε->δ->aa aK):σ⊕ε->Exit->Act->bo->Prop
 | .inl s,x,a,W=>x=.normal∧∃g,bO c (E s g) (L s g) a W
 | .inr e,x,a,W=>x≠ .normal∧x=xs e∧∃g,bO c (h9 e g) (Lx e g) a W
def al.alg{σ ε γ δ:Type}{E':σ->γ->aa (Nat×J)}{L':σ->γ->aa aK}{xs:ε->Exit}{h9:ε->δ->aa (Nat×J)}{Lx:ε->δ->aa aK}{s:σ}(g:γ)(n:Nat)
 (ar:L.drop n=L' s g) (h:fO E (E' s g)):al c (eN c E' L' xs h9 Lx (.inl s)) .normal E L:=λa W st=>⟨rfl,g,by rw[<-ar];exact(st.sf n).less h.look⟩
def al.alh{σ ε γ δ:Type}{E':σ->γ->aa (Nat×J)}{L':σ->γ->aa aK}{xs:ε->Exit}{h9:ε->δ->aa (Nat×J)}{Lx:ε->δ->aa aK}{e:ε}{x:Exit}(g:δ)(n:Nat)
 (au:x=xs e) (aM:x≠ .normal) (ar:L.drop n=Lx e g) (h:fO E (h9 e g)):al c (eN c E' L' xs h9 Lx (.inr e)) x E L:=λa W st=>⟨aM,au,g,by rw[<-ar];exact(st.sf n).less h.look⟩
def ay.MG{σ ε γ δ:Type}{body:Code}{N:Nat}{b:σ->aE (σ⊕ε)}{cb:σ}{e:ε}(an:dh N b cb=some e)
 (E':σ->γ->aa (Nat×J)) (L':σ->γ->aa aK) (xs:ε->Exit) (h9:ε->δ->aa (Nat×J)) (Lx:ε->δ->aa aK) (g0:γ) (ar:L=L' cb g0) (aD:fO E (E' cb g0))
 (uq:∀s r,b s=some r->∀g,ay c (eN c E' L' xs h9 Lx r) body (E' s g) (L' s g))
 (qB:∀g,al c Q (xs e) (h9 e g) (Lx e g)):ay c Q (.loop body) E L:=λa W st=>by
 subst ar
 exact ahN b (λs a W=> ∃g,bO c (E' s g) (L' s g) a W) (λe x a W=>x=xs e∧∃g,bO c (h9 e g) (Lx e g) a W)
  (λs r hs a W ⟨g,nf⟩=>wpIn_mono (uq s r hs g a W nf) (λx a W h=>by
   cases r with
   |inl cv=>exact h
   |inr e'=>exact⟨h.1,h.2⟩)) Q e (λx a W ⟨au,g,hs⟩=>by subst au;exact qB g a W hs) an ⟨g0,st.less aD.look⟩
end
def bj.qe{c E L o}{α:Type}[ak α]{a b:α}(h:bj c E L o (.of a))(e:a=b):bj c E L o (.of b):=by subst e;exact h
def J.Bl{α β:Type}[ak α][ak β](P:Program)(F:α->aE β):J where
 holds A W v:=∃f fst cap,v=.func (.func f) fst cap∧bH P f∧∀cV W',Ext A W cV W'->(∀k∈cV,k<W'.heap.size)->∀x r oX,F x=some r->(J.of x).holds cV W' oX->
  Calls P f (fst++ #[oX]++cap) W' λe y3=> ∃v,e=.returned v∧Fr [] W' y3∧(J.of r).holds cV y3 v
 mono e h:=let⟨f,fst,cap,h1,ad,aB⟩:=h; ⟨f,fst,cap,h1,ad,λcV W' e'=>aB cV W' (e.trans e')⟩
def J.Bn{α β γ:Type}[ak α][ak β][ak γ](P:Program)(F:α->β->aE γ):J where
 holds A W v:=∃f fst cap,v=.func (.func f) fst cap∧bH P f∧∀cV W',Ext A W cV W'->(∀k∈cV,k<W'.heap.size)->∀x y r oX uY,F x y=some r->(J.of x).holds cV W' oX->(J.of y).holds cV W' uY->
  Calls P f (fst++ #[oX,uY]++cap) W' λe y3=> ∃v,e=.returned v∧Fr [] W' y3∧(J.of r).holds cV y3 v
 mono e h:=let⟨f,fst,cap,h1,ad,aB⟩:=h; ⟨f,fst,cap,h1,ad,λcV W' e'=>aB cV W' (e.trans e')⟩
section
variable{c:cP}{E:aa (Nat×J)}{L:aa aK}{d:aE Tmp}{ty:bJ}{pos:String}{af:Array Edge}{g:aE (Nat×Bool)}
def aiH{α β:Type}[ak α][ak β]{F:α->aE β}{f:FuncId}(cf:bH c.P f)(h:∀x r,F x=some r->dV c.P f [.of x] (.of r)):aU c E L (.func f) (.Bl c.P F):=λa W s=>
 ⟨f,#[],#[],rfl,cf,λcV W' _ e7 x r oX ku au=>by simpa using h x r ku cV W' [oX] e7 (.cons au .nil)⟩
def Xp{α β γ:Type}[ak α][ak β][ak γ]{F:α->β->aE γ}{f:FuncId}(cf:bH c.P f)(h:∀x y r,F x y=some r->dV c.P f [.of x,.of y] (.of r)):aU c E L (.func f) (.Bn c.P F):=λa W s=>
 ⟨f,#[],#[],rfl,cf,λcV W' _ e7 x y r oX uY ku au aR=>by simpa using h x y r ku cV W' [oX,uY] e7 (.cons au (.cons aR .nil))⟩
def LL{α β:Type}[ak α][ak β]{F:α->aE β}{rU x:cw}{ats:Array bJ}{J0:α}{r:β}(aW:aU c E L rU (.Bl c.P F))(au:aU c E L x (.of J0))(h:F J0=some r):
 bj c E L ⟨d,.call ⟨.value rU,#[x],ats⟩,ty,pos,af,g⟩ (.of r):=λa W s=>by
 obtain⟨f,fst,cap,h1,cf,ad⟩:=aW a W s
 refine .yd (f:=f) (args:=fst++ #[a.eval x]++cap) (W':=W) ?_ (ad _ W (Ext.refl _ _) s.Mm _ _ _ h (au a W s))
 simp[execOp,resolve,Deferred.ofValue,h1,invoke,cf.run]
def LM{α β γ:Type}[ak α][ak β][ak γ]{F:α->β->aE γ}{rU x y:cw}{ats:Array bJ}{J0:α}{adB:β}{r:γ}(aW:aU c E L rU (.Bn c.P F))(au:aU c E L x (.of J0))(aR:aU c E L y (.of adB))(h:F J0 adB=some r):
 bj c E L ⟨d,.call ⟨.value rU,#[x,y],ats⟩,ty,pos,af,g⟩ (.of r):=λa W s=>by
 obtain⟨f,fst,cap,h1,cf,ad⟩:=aW a W s
 refine .yd (f:=f) (args:=fst++ #[a.eval x,a.eval y]++cap) (W':=W) ?_ (ad _ W (Ext.refl _ _) s.Mm _ _ _ _ _ h (au a W s) (aR a W s))
 simp[execOp,resolve,Deferred.ofValue,h1,invoke,cf.run]
end
end Gv
namespace Gv
open Go Go.ChangeShapes Go.WideShapes Go.RowKit
structure Arg(P:Program)(t:TypeId)(α:Type)[ak α]:Prop where
 cells:P.cellsOf t=ak.size α
 read:∀{H:Type} {enc:TypeId×Value->H} {W:World} {n:Nat} {cs:List Value} {x:DataW H×List MemPlace},DataW.trod enc P W 0 (λ_=>true) true n t cs=some x->∃a:α,ak.rep [] W cs a
 form:∀{W:World} {b:Nat} {v:Value},Value.okWide P W .any b t v->shaped (ak.agg α) v
variable{P:Program}{t e:bJ}
def ahP(hu:P.underlying t=some .bool){H:Type}{enc:bJ×br->H}{W:bo}{n:Nat}{cs:aa br}{x:DataW H×aa MemPlace}(h:DataW.trod enc P W 0 (λ_=>true) true n t cs=some x):
 ∃b:Bool,cs=[.bool b]:=by
 cases n with
 |zero=>simp[DataW.trod]at h
 | succ n=>
   unfold DataW.trod at h
   rw[hu]at h
   split at h <;> first|exact⟨_,rfl⟩|(simp at h)
   all_goals simp_all
def Arg.bool(hu:P.underlying t=some .bool)(ag:P.cellsOf t=1):Arg P t Bool where
 cells:=ag
 read {H enc W n cs x} h:=by
  obtain⟨b,rfl⟩:=ahP hu h;exact⟨b,rfl⟩
 form {W b v} h:=by
  unfold Value.okWide Cell.okWide at h;simp only[hu]at h;unfold Cell.ok at h;rw[hu]at h;cases v <;> first|rfl|simp at h
def HP{k:IntKind}(hu:P.underlying t=some (.int k)){H:Type}{enc:bJ×br->H}{W:bo}{n:Nat}{cs:aa br}{x:DataW H×aa MemPlace}(h:DataW.trod enc P W 0 (λ_=>true) true n t cs=some x):
 ∃z:Int,cs=[.int k z]∧k.min<=z∧z<=k.max:=by
 cases n with
 |zero=>simp[DataW.trod]at h
 | succ n=>
   unfold DataW.trod at h
   rw[hu]at h
   split at h <;> simp_all [Lit.wf]
def HQ{k:IntKind}(hu:P.underlying t=some (.int k)){W:bo}{b:Nat}{v:br}(h:Value.okWide P W .any b t v):v.oneCell'=true:=by
 unfold Value.okWide Cell.okWide at h;simp only[hu]at h;unfold Cell.ok at h;rw[hu]at h;cases v <;> first|rfl|simp at h
def Arg.int(hu:P.underlying t=some (.int .i64))(ag:P.cellsOf t=1):Arg P t Int where
 cells:=ag
 read h:=by obtain⟨z,rfl,_⟩:=HP hu h;exact⟨z,rfl⟩
 form h:=HQ hu h
def Arg.u64(hu:P.underlying t=some (.int .u64))(ag:P.cellsOf t=1):Arg P t (BitVec 64)where
 cells:=ag
 read h:=by
  obtain⟨z,rfl,h1,ad⟩:=HP hu h;simp[IntKind.min,IntKind.max,IntKind.signed,IntKind.bits]at h1 ad;exact⟨BitVec.ofInt 64 z,by show [_]=[_];simp;omega⟩
 form h:=HQ hu h
def Arg.u32(hu:P.underlying t=some (.int .u32))(ag:P.cellsOf t=1):Arg P t (BitVec 32)where
 cells:=ag
 read h:=by
  obtain⟨z,rfl,h1,ad⟩:=HP hu h;simp[IntKind.min,IntKind.max,IntKind.signed,IntKind.bits]at h1 ad;exact⟨BitVec.ofInt 32 z,by show [_]=[_];simp;omega⟩
 form h:=HQ hu h
def Arg.u16(hu:P.underlying t=some (.int .u16))(ag:P.cellsOf t=1):Arg P t (BitVec 16)where
 cells:=ag
 read h:=by
  obtain⟨z,rfl,h1,ad⟩:=HP hu h;simp[IntKind.min,IntKind.max,IntKind.signed,IntKind.bits]at h1 ad;exact⟨BitVec.ofInt 16 z,by show [_]=[_];simp;omega⟩
 form h:=HQ hu h
def Arg.u8(hu:P.underlying t=some (.int .u8))(ag:P.cellsOf t=1):Arg P t (BitVec 8)where
 cells:=ag
 read h:=by
  obtain⟨z,rfl,h1,ad⟩:=HP hu h;simp[IntKind.min,IntKind.max,IntKind.signed,IntKind.bits]at h1 ad;exact⟨BitVec.ofInt 8 z,by show [_]=[_];simp;omega⟩
 form h:=HQ hu h
def aiO(hs:(∃fs,P.underlying t=some (.struct fs))∨(∃n e,P.underlying t=some (.array n e))){W:bo}{b:Nat}{v:br}(h:Value.okWide P W .any b t v):shaped true v:=by
 unfold Value.okWide at h;rcases hs with⟨fs,hu⟩|⟨n,e,hu⟩ <;> rw[hu]at h <;> exact⟨h.choose,h.choose_spec.1⟩
def Arg.arr{α:Type}[ak α][Inhabited α]{n:Nat}(hu:P.underlying t=some (.array n e))(he:Arg P e α)(ag:P.cellsOf t=n*ak.size α):Arg P t (Vector α n)where
 cells:=ag
 read {H enc W m cs x} h:=by
  obtain⟨xs,q,_,_,an,hlen,aW⟩:=DataW.trod_array hu h;have aG:∀i,i<n->∃a:α,ak.rep [] W ((cs.drop (i*ak.size α)).take (ak.size α)) a:=by
   intro i aq;have h1:=aW i aq;rw[o4 (by omega)]at h1;rw[<-he.cells];exact he.read h1
  refine⟨Vector.ofFn λi=>(aG i.1 i.2).choose,by rw[an,ag];simp,λi aq=>?_⟩;have iz:i<n:=by simpa using aq
  have:=(aG i iz).choose_spec;simpa using this
 form h:=aiO (.inr ⟨_,_,hu⟩) h
def W1{H:Type}{enc:bJ×br->H}{W W':bo}(an:laidOutB P=true){sp:Nat->Bool}:∀{dC:aa bJ} {vs:aa br} {ds:aa (DataW H)} {ev:aa MemPlace},
 (∀t∈dC,P.readableRec t=true∧t<P.types.size)->DataW.TrodAll enc P W 0 (λ_=>true) true dC vs ds ev->(∀p∈ev,W.sameAt W' p)->(∀p∈ev,sp p.block=true)->DataW.TrodAll enc P W' 0 sp true dC vs ds ev
 | [],_,_,_,_,h,_,_=>by
   obtain⟨rfl,rfl,rfl⟩:=trodAll_nil h;exact rfl
 | _::_,_,_,_,bD,h,hs,hp=>by
   obtain⟨v,To,d,Tp,p,q,rfl,rfl,rfl,h1,ad⟩:=trodAll_cons h;have bC:=bD _ (jC ..);exact⟨p,q,WideElems.Trod_stays an bC.1 bC.2 h1 (λx au=>hs x (by simp[au])) (λx au=>hp x (by simp[au])),
    W1 an (λt Ny=>bD t (gx _ Ny)) ad (λx au=>hs x (by simp[au])) (λx au=>hp x (by simp[au])),rfl⟩
def Fr.below{W W':bo}(h:Fr [] W W'):Below W.heap.size W W':=⟨h.os,h.tape,h.output,h.size,λk hk=>h.block k hk (by simp)⟩
def aiP{H:Type}{enc:bJ×br->H}{f:Func}{s:ChangeSpec}{W W':bo}{args:Array br}{ds gs:aa (DataW H)}{before:aa MemPlace}{eS:bJ}
 (an:laidOutB P=true) (hp:∀t∈f.params.toList,P.readableRec t=true∧t<P.types.size) (aG:f.resultTypes= #[eS]) (hb:P.underlying eS=some .bool) (bc:s.vars=[])
 (hs:s.fn H ds= {results:=[.lit (.bool true)],args:=ds})
 (E0:DataW.Whole enc P f.params.toList s.vars false W args.toList ds gs before) (ku:Fr [] W W'):
 s.post enc P f false true false false W args (.bool true) W':=by
 have ar2:=E0
 obtain⟨p,q,e7,Um,rfl,bV,aM⟩:=ar2
 rw[bc]at Um
 obtain⟨rfl,rfl⟩:=trodVars_none Um
 have b9:∀x∈p,x.block<W.heap.size:=λx au=>E0.lt x (by simpa using au)
 have Jh:=ku.below
 have anB:∀x∈p,W.sameAt W' x:=λx au=>Jh.same (b9 x au)
 have aqn:∀(b:Nat) (sp:Nat->Bool) (hd:Bool),DataW.TrodAll enc P W' b sp hd f.resultTypes.toList ((Value.bool true).resultList f.resultTypes.size) [.lit (.bool true)] []:=by
  intro b sp hd;rw[aG];exact⟨[],[],shut_bool hb true,rfl,rfl⟩
 refine⟨ds,[],p++[],[],p,[],E0,?_,?_,?_,World.keptBut_mono (λx au=>?_) (Jh.frame λ_=>False),λh=>by cases h⟩
 ·rw[ot,hs];exact aqn _ _ _
 ·rw[ot,hs];exact W1 an hp e7 anB (λx au=>by simpa using b9 x au)
 ·rw[ot,hs,bc];rfl
 exact au.elim
end Gv
namespace Gv
open Go Go.ChangeShapes Go.WideShapes Go.RowKit
def aiQ{P:Program}{fits:bJ->Bool}{d:Nat}{e:bJ}{count off n:Nat}(h:rowAt P fits d e count off n=true):off<=count*P.cellsOf e:=by
 cases d with
 |zero=>cases h
 | succ d=>
   unfold rowAt at h
   simp only at h
   split at h
   ·cases h
   rename_i hs
   have hp:0<P.cellsOf e:=FD hs
   have auw:=F9 off (P.cellsOf e)
   rw[qo]at h
   rcases h with h|h
   ·simp only[gm,ni,e2]at h
    have:P.cellsOf e*(off/P.cellsOf e)<=P.cellsOf e*count:=Kx _ (by omega)
    rw[sX count];omega
   simp only[gm,e2]at h
   have hm:=GZ off hp
   have:P.cellsOf e*(off/P.cellsOf e+1)<=P.cellsOf e*count:=Kx _ (by omega)
   rw[Nat.mul_add]at this
   rw[sX count];omega
def W2{P:Program}:∀{d:Nat} {e:bJ} {count off:Nat} {u:bJ} {n:Nat},liesAt P d e count off u n=true->off<=count*P.cellsOf e
 |0,_,_,_,_,_,h=>by cases h
 | d+1,e,count,off,u,n,h=>by
   unfold liesAt at h;rw[qo]at h;rcases h with h|h
   ·exact aiQ h
   split at h
   ·exact W2 h
   cases h
structure IQ(P:Program)(t:TypeId)(α:Type)[ak α]:Prop where
 top:∀{H:Type} {enc:TypeId×Value->H} {W:World} {n b:Nat} {v:Value} {x:DataW H×List MemPlace},DataW.trod enc P W 0 (λ_=>true) true n t v.cells.toList=some x->Value.okWide P W .any b t v->∃a:α,(J.of a).holds [] W v
variable{P:Program}{t e:bJ}
def aiR{α:Type}[ak α](hu:P.underlying t=some (.slice e))(he:Arg P e α)(bV:Nat.beq (ak.size α) 0=false){H:Type}{enc:bJ×br->H}{W:bo}{n b:Nat}{v:br}{x:DataW H×aa MemPlace}
 (h:DataW.trod enc P W 0 (λ_=>true) true n t [v]=some x) (iW:Cell.okWide P W .any b t v):∃a:aa α,(J.of a).holds [] W v:=by
 have uH:ak.size α≠0:=λh=>by rw[h]at bV;cases bV
 rcases DataW.trod_slice hu h with⟨h1,_⟩|⟨a,len,cap,elems,rest,m,_,h1,_,_,auy,Br,sx,aqo,at4,_⟩
 ·have:=Vn.1 h1
  subst this
  exact⟨[],qw.2 (.inl ⟨rfl,rfl⟩)⟩
 have:=Vn.1 h1
 subst this
 unfold Cell.okWide at iW
 simp only[hu]at iW
 unfold Cell.ok at iW
 rw[hu]at iW
 obtain⟨_,_,_,aay,row,cells,EH,aqp⟩:=iW
 obtain⟨adC,xA,auz⟩:=a
 simp only at aay
 subst aay
 unfold World.shape? at EH
 cases fI:W.heap[adC]? with
 |none=>rw[fI]at EH;cases EH
 | some rR=>
   rw[fI]at EH
   cases rR <;> simp at EH
   rename_i vS T il
   obtain⟨q1,ee⟩:=EH
   have auh:xA<=vS.size:=by
    have ba:xA<=_:=W2 aqp;have bq:=Nat.div_mul_le_self cells (P.cellsOf row);omega
   have anC:=he.cells
   have h4:∀i,i<len->∃a:α,ak.rep [] W ((vS.toList.drop (xA+i*ak.size α)).take (ak.size α)) a∧xA+(i+1)*ak.size α<=vS.size:=λi aq=>by
    have ba:=aqo i aq;rw[o4 (by omega)]at ba;obtain⟨ff,bq,c0⟩:=UT.1 ba;obtain⟨_,an,ag⟩:=World.cells?_some bq;rw[anC]at an ag bq;have wY:∀j,j<ak.size α->vS[xA+i*ak.size α+j]? =ff[j]? :=λj aC=>by
     rw[<-ag j aC,lp,lp];unfold World.cell?;simp[fI]
    have heq:(vS.toList.drop (xA+i*ak.size α)).take (ak.size α)=ff:=by
     apply nR;intro j;rw[lE];by_cases aC:j<ak.size α
     ·rw[bh aC,mH,zA];exact wY j aC
     rw[bf aC];symm;exact Oz (by omega)
    obtain⟨a,aY⟩:=he.read c0;refine⟨a,by rw[heq];exact aY,?_⟩;have db:=wY (ak.size α-1) (by omega);rw[o4 (show ak.size α-1<ff.length by omega)]at db;have:=(sP.1 db).1;rw[nU];omega
   have hex:∃xs:aa α,xs.length=len∧∀i (h:i<xs.length),ak.rep [] W ((vS.toList.drop (xA+i*ak.size α)).take (ak.size α)) xs[i]:=by
    refine⟨List.ofFn λi:Fin len=>(h4 i.1 i.2).choose,by simp,λi aq=>?_⟩;have iz:i<len:=by simpa using aq
    rw[List.getElem_ofFn];exact(h4 i iz).choose_spec.1
   obtain⟨xs,Jf,Tq⟩:=hex
   have hbound:xA+xs.length*ak.size α<=vS.size:=by
    rw[Jf];rcases Vo len with bC|bC
    ·rw[bC];omega
    have:=(h4 (len-1) (by omega)).choose_spec.2;rw[show len-1+1=len by omega]at this;exact this
   refine⟨xs,qw.2 (.inr ⟨adC,xA,cap,vS,T,il,by rw[Jf],by simp,fI,by omega,by omega,hbound,?_,λi aq=>?_⟩)⟩
   ·rw[e8,ke];simp;omega
   have hle:(i+1)*ak.size α<=xs.length*ak.size α:=iu _ aq
   rw[sY]at hle
   rw[Af _ _ _ _ _ hle]
   exact Tq i aq
def IQ.ar3{α:Type}[ak α](hu:P.underlying t=some (.slice e))(he:Arg P e α)(bV:Nat.beq (ak.size α) 0=false):IQ P t (aa α)where
 top {H enc W n b v x} h iW:=by
  have Ek:Cell.okWide P W .any b t v:=by
   unfold Value.okWide at iW;simp only[hu]at iW;exact iW
  have aqq:v.oneCell'=true:=by
   unfold Cell.okWide at Ek;simp only[hu]at Ek;unfold Cell.ok at Ek;rw[hu]at Ek;cases v <;> first|rfl|simp at Ek
  rw[cells_one aqq]at h;exact aiR hu he bV h Ek
def Wz{H:Type}{enc:bJ×br->H}{W:bo}{dC:aa bJ}{vs:aa br}{ds:aa (DataW H)}{ev:aa MemPlace}{α:Type}[ak α]{b:Nat}(aY:IQ P t α)
 (h:DataW.TrodAll enc P W 0 (λ_=>true) true (t::dC) vs ds ev) (iW:∀(j:Nat) u v,(t::dC)[j]? =some u->vs[j]? =some v->Value.okWide P W .any b u v):
 ∃ (a:α) (v:br) (Tr:aa br) (acN:aa (DataW H)) (ar4:aa MemPlace) (d:DataW H),vs=v::Tr∧ds=d::acN∧(J.of a).holds [] W v∧DataW.TrodAll enc P W 0 (λ_=>true) true dC Tr acN ar4∧
   (∀(j:Nat) u w,dC[j]? =some u->Tr[j]? =some w->Value.okWide P W .any b u w):=by
 obtain⟨v,To,d,Tp,p,q,rfl,rfl,rfl,⟨n,h1⟩,ad⟩:=trodAll_cons h
 obtain⟨a,aB⟩:=aY.top h1 (iW 0 t v I I)
 exact⟨a,v,To,Tp,q,d,rfl,rfl,aB,ad,λj u w aC hw=>iW (j+1) u w (by simpa using aC) (by simpa using hw)⟩
end Gv
namespace Gv
open Go
def ag4{L' L:aa aK}(h:L'.Sublist L):(ks L').Sublist (ks L):=by
 induction h with
 |slnil=>simp[ks]
 |cons e _ cg=>cases hk:e.key <;> simp only[ks,hk] <;> first|exact cg|exact cg.cons _
 |cons_cons e _ cg=>cases hk:e.key <;> simp only[ks,hk] <;> first|exact cg|exact cg.cons_cons _
def aK.wI{e:aK}{A cV W W'}(h:e.ok A W)(x:Ext A W cV W')(hb:∀p,e.key=some p->W'.heap[p]? =W.heap[p]?):e.ok cV W':=by
 unfold aK.ok at *;cases hk:e.key with
 |none=>rw[hk]at h;exact h
 | some p=>
   rw[hk]at h
   obtain⟨o,h1,ad⟩:=h
   exact⟨o,by rw[hb p hk];exact h1,e0.mono _ x ad⟩
def k6(X b8:aa Nat)(kc:bo){δ:Type}(ρ:δ->J)(Lo:δ->aa aK):Ending->bo->Prop:=λe W'=>
 ∃v d,e=.returned v∧Fr X kc W'∧(ks (Lo d)).Nodup∧(∀k∈ks (Lo d),k<W'.heap.size∧(k<kc.heap.size->k∈X)∧k∉b8)∧(∀e∈Lo d,e.ok (ks (Lo d)++b8) W')∧(ρ d).holds (ks (Lo d)++b8) W' v
def bL(P:Program)(f:FuncId)(τs:aa J)(Lin:aa aK){δ:Type}(ρ:δ->J)(Lo:δ->aa aK):Prop:=
 ∀ (A:aa Nat) (W:bo) (vs:aa br),(∀k∈A,k<W.heap.size∧k∉ks Lin)->(ks Lin).Nodup->(∀k∈ks Lin,k<W.heap.size)->(∀e∈Lin,e.ok (ks Lin++A) W)->hJ (ks Lin++A) W τs vs->
   Calls P f vs.toArray W (k6 (ks Lin) A W ρ Lo)
def bL.of{P:Program}{f:FuncId}{fn:Func}{code:Code}{n:Nat}{τs:aa J}{Lin:aa aK}{δ:Type}{ρ:δ->J}{Lo:δ->aa aK}(aW:P.funcs[f]? =some fn)(hb:fn.body=some code)(aM:fn.ntmps=n)(hlen:Nat.ble τs.length n=true)
 (h:∀W A,ay ⟨P,n,W,ks Lin,A,none,[]⟩ (bodyPost P fn (k6 (ks Lin) A W ρ Lo)) code (params 0 τs) Lin):bL P f τs Lin ρ Lo:=by
 intro A W vs e7 lR b9 iW bc
 refine GU aW hb (wpIn_wide.1 (h W A _ _ ?_))
 have an:=bc.length
 have hle:τs.length<=n:=pM hlen
 exact
 {defers:=rfl
  size:=by simp[aM,an];omega
  env:=λt τ kJ=>by
   obtain⟨_,v,ad,aB⟩:=Ak bc 0 t τ kJ;refine⟨v,?_,aB⟩;have b9:t<vs.length:=(ir.1 ad).1;rw[v8 (by simpa using b9)];simpa using ad
  ef:=.refl _ _
  own:=iW
  nodup:=lR
  lt:=b9
  hh:=λk hk _=>hk
  fe:=e7}
section
variable{c:cP}{E:aa (Nat×J)}{L:aa aK}{ops:Array Oper}{Q:Exit->Act->bo->Prop}
variable{d:aE Tmp}{ty:bJ}{pos:String}{af:Array Edge}{g:aE (Nat×Bool)}{x y:cw}{t t2:bJ}
def rM(c:cP)(E:aa (Nat×J))(L:aa aK)(r:ResultVar)(τ:J):Prop:=
 ∀a W,bO c E L a W->∃v,(AM a.tmps r).run c.P W=.ok v W∧τ.holds (ks L++c.b8) W v
def dn{t:Nat}{τ:J}(h:look E t=some τ):rM c E L (.tmp t) τ:=λa W s=>by
 obtain⟨v,h1,ad⟩:=s.env t τ h;exact⟨v,by simp[AM,h1],ad⟩
def nt{t:Nat}{ty:bJ}{i p:Nat}{α:Type}[ak α]{x:α}(ej:bU c.P ty α)(h:look E t=some (.eq (.pointer (some ⟨p,0,none⟩))))(ar:L[i]? =some ⟨some p,.var x⟩):rM c E L (.cell t ty) (.of x):=λa W s=>by
 obtain⟨v,h1,ad⟩:=s.env t _ h;subst ad;obtain⟨rR,fI,cs,T,rfl,h4⟩:=s.own _ (fB ar);have an:cs.toList.length=ak.size α:=ak.len h4;have ee:cs.size=ak.size α:=by simpa using an
 obtain⟨v,aB,aV⟩:=Ab (A:=ks L++c.b8) (off:=0) ej fI (by omega) (by rw[wh,<-an,iD];exact h4);exact⟨v,by simp[AM,h1,asAddr,aB],aV⟩
def bO.ends{a:Act}{W:bo}(s:bO c E L a W){δ:Type}{ρ:δ->J}{Lo:δ->aa aK}(bb:δ)(hs:(Lo bb).Sublist L){v:br}(bc:(ρ bb).holds (ks L++c.b8) W v):k6 c.X c.b8 c.kc ρ Lo (.returned v) W:=by
 have oJ:=ag4 hs;have hk:∀k∈ks (Lo bb),k∈ks L:=λk hk=>oJ.subset hk;have jd:Ext (ks L++c.b8) W (ks (Lo bb)++c.b8) W:=.drop λk hm=>by
  rcases cF.1 hm with hm|hm
  ·exact cF.2 (.inl (hk k hm))
  exact cF.2 (.inr hm)
 exact⟨v,bb,rfl,s.ef,s.nodup.sublist oJ,λk hm=>⟨s.lt k (hk k hm),s.hh k (hk k hm),λaY=>(s.fe k aY).2 (hk k hm)⟩,
  λe he=>aK.wI (s.own e (hs.subset he)) jd λ_ _=>rfl,J.mono _ jd bc⟩
def fN{L L':aa aK}(n:Nat)(h:L.drop n=L':=by rfl):L'.Sublist L:=h▸List.drop_sublist n L
def al.eC{fn:Func}{r:ResultVar}{τ:J}{δ:Type}{ρ:δ->J}{Lo:δ->aa aK}(bb:δ)(hs:(Lo bb).Sublist L)(aG:fn.results= #[r])(sy:ρ bb=τ)(h:rM c E L r τ)(eR:c.ds=[]:=by rfl):al c (bodyPost c.P fn (k6 c.X c.b8 c.kc ρ Lo)) .ret E L:=λa W s=>by
 subst sy;obtain⟨v,h1,ad⟩:=h a W s;exact⟨s.Ax eR,v,by simp[Am,aG,h1],s.ends bb hs ad⟩
def al.ru{fn:Func}{r hg:ResultVar}{τ pv:J}{δ:Type}{ρ:δ->J}{Lo:δ->aa aK}(bb:δ)(hs:(Lo bb).Sublist L)(aG:fn.results= #[r,hg])(sy:ρ bb=.bW [τ,pv])(h:rM c E L r τ)(ad:rM c E L hg pv)(eR:c.ds=[]:=by rfl):al c (bodyPost c.P fn (k6 c.X c.b8 c.kc ρ Lo)) .ret E L:=λa W s=>by
 obtain⟨v,aB,aV⟩:=h a W s;obtain⟨v2,ba,bq⟩:=ad a W s;exact⟨s.Ax eR,.tuple #[v,v2],by simp[Am,aG,aB,ba],s.ends bb hs (by rw[sy];exact⟨_,rfl,.cons aV (.cons bq .nil)⟩)⟩
def al.Iq{fn:Func}{r hg rS:ResultVar}{τ pv Jb:J}{δ:Type}{ρ:δ->J}{Lo:δ->aa aK}(bb:δ)(hs:(Lo bb).Sublist L)(aG:fn.results= #[r,hg,rS])(sy:ρ bb=.bW [τ,pv,Jb])(h:rM c E L r τ)(ad:rM c E L hg pv)(aB:rM c E L rS Jb)(eR:c.ds=[]:=by rfl):al c (bodyPost c.P fn (k6 c.X c.b8 c.kc ρ Lo)) .ret E L:=λa W s=>by
 obtain⟨v,av,f1⟩:=h a W s;obtain⟨v2,aS,f2⟩:=ad a W s;obtain⟨v3,cM,f3⟩:=aB a W s;exact⟨s.Ax eR,.tuple #[v,v2,v3],by simp[Am,aG,av,aS,cM],s.ends bb hs (by rw[sy];exact⟨_,rfl,.cons f1 (.cons f2 (.cons f3 .nil))⟩)⟩
def x9:∀{L:aa aK} {i:Nat} {e:aK},L[i]? =some e->L.Perm (e::L.eraseIdx i)
 |[],i,e,h=>by simp at h
 |x::r,0,e,h=>by simp only[List.getElem?_cons_zero,gl]at h;subst h;exact .refl _
 | x::r,i+1,e,h=>by
   simp only[List.getElem?_cons_succ]at h;exact((x9 h).cons x).trans (.swap e x _)
def bO.bt{a:Act}{W:bo}(s:bO c E L a W){i:Nat}{e:aK}(h:L[i]? =some e):bO c E (e::L.eraseIdx i) a W:=s.perm (x9 h)
def ae.bt{l:aa Oper}(i:Nat){e:aK}(h:L[i]? =some e)(k:ae c ops Q l E (e::L.eraseIdx i)):ae c ops Q l E L:=λa W s=>k a W (s.bt h)
def al.bt{z:Exit}(i:Nat){e:aK}(h:L[i]? =some e)(k:al c Q z E (e::L.eraseIdx i)):al c Q z E L:=λa W s=>k a W (s.bt h)
def bO.after{a:Act}{W W':bo}{Lin Lr:aa aK}(s:bO c E (Lin++Lr) a W){Lo:aa aK}(aW:Fr (ks Lin) W W')(lR:(ks Lo).Nodup)
 (hk:∀k∈ks Lo,k<W'.heap.size∧(k<W.heap.size->k∈ks Lin)∧k∉ks Lr++c.b8) (iW:∀e∈Lo,e.ok (ks Lo++(ks Lr++c.b8)) W'):bO c E (Lo++Lr) a W':=by
 have jd:Ext (ks (Lin++Lr)++c.b8) W (ks (Lo++Lr)++c.b8) W':=
  ⟨aW.size,λk b9 aY=>aW.block k b9 λhm=>aY (by rw[fL];simp[hm]),λk hm b9=>by
   rw[fL]at hm⊢;simp only[cF]at hm⊢;rcases hm with(hm|hm)|hm
   ·exact .inl (.inl ((hk k hm).2.1 b9))
   ·exact .inl (.inr hm)
   exact .inr hm⟩
 have nz:=s.nodup
 rw[fL]at nz
 obtain⟨py,uL,sA⟩:=q5.1 nz
 have EA:∀k∈ks Lr,k<W.heap.size∧k∉ks Lin:=λk hm=>⟨s.lt k (by rw[fL];exact cF.2 (.inr hm)),λh=>sA k h k hm I⟩
 exact
 {defers:=s.defers
  size:=s.size
  env:=λt τ an=>let⟨v,h1,ad⟩:=s.env t τ an; ⟨v,h1,τ.mono jd ad⟩
  ef:=⟨aW.os.trans s.ef.os,aW.tape.trans s.ef.tape,aW.output.trans s.ef.output,mg s.ef.drawn aW.drawn,mg s.ef.size aW.size,λk b9 au=>
   (aW.block k (rZ b9 s.ef.size) λhm=>au (s.hh k (by rw[fL];exact cF.2 (.inl hm)) b9)).trans (s.ef.block k b9 au)⟩
  own:=λe he=>by
   rcases cF.1 he with he|he
   ·have:=iW e he;refine aK.wI this (.drop λk hm=>?_) λ_ _=>rfl;rw[fL]at hm;simp only[cF]at hm⊢;rcases hm with(hm|hm)|hm
    ·exact .inl hm
    ·exact .inr (.inl hm)
    exact .inr (.inr hm)
   exact aK.wI (s.own e (cF.2 (.inr he))) jd λp hp=>by
    have:=EA p (ta.2 ⟨e,he,hp⟩);exact aW.block p this.1 this.2
  nodup:=by
   rw[fL];exact q5.2 ⟨lR,uL,λk h1 j ad e=>by subst e;exact(hk k h1).2.2 (cF.2 (.inl ad))⟩
  lt:=λk hm=>by
   rw[fL]at hm;rcases cF.1 hm with hm|hm
   ·exact(hk k hm).1
   exact rZ (EA k hm).1 aW.size
  hh:=λk hm bC=>by
   rw[fL]at hm;have b9:k<W.heap.size:=rZ bC s.ef.size;rcases cF.1 hm with hm|hm
   ·exact s.hh k (by rw[fL];exact cF.2 (.inl ((hk k hm).2.1 b9))) bC
   exact s.hh k (by rw[fL];exact cF.2 (.inr hm)) bC
  fe:=λk hm=>by
   obtain⟨h1,ad⟩:=s.fe k hm;refine⟨rZ h1 aW.size,λh=>?_⟩;rw[fL]at h ad;rcases cF.1 h with h|h
   ·exact(hk k h).2.2 (cF.2 (.inr hm))
   exact ad (cF.2 (.inr h))}
def jr.Za{xs:aa cw}{τs:aa J}(h:jr c E L xs τs){a:Act}{W:bo}(s:bO c E L a W):hJ (ks L++c.b8) W τs (xs.map a.eval):=h.holds a W s
def HC{a:Act}{W:bo}{f:FuncId}{xs:aa cw}{ats:Array bJ}{τs:aa J}{Lin Lr:aa aK}{δ:Type}{ρ:δ->J}{Lo:δ->aa aK}(cf:bH c.P f)(h:bL c.P f τs Lin ρ Lo)
 (s:bO c E (Lin++Lr) a W) (au:hJ (ks (Lin++Lr)++c.b8) W τs (xs.map a.eval)):
 h3 c.P ⟨d,.call ⟨.value (.func f),xs.toArray,ats⟩,ty,pos,af,g⟩ a W λv W'=> ∃bb,bO c E (Lo bb++Lr) a W'∧(ρ bb).holds (ks (Lo bb++Lr)++c.b8) W' v:=by
 have nz:=s.nodup
 rw[fL]at nz
 obtain⟨py,uL,sA⟩:=q5.1 nz
 have iT:Ext (ks (Lin++Lr)++c.b8) W (ks Lin++(ks Lr++c.b8)) W:=.drop λk hm=>by
  rw[fL];simp only[cF]at hm⊢;rcases hm with hm|hm|hm
  ·exact .inl (.inl hm)
  ·exact .inl (.inr hm)
  exact .inr hm
 have e7:∀k∈ks Lr++c.b8,k<W.heap.size∧k∉ks Lin:=λk hm=>by
  rcases cF.1 hm with hm|hm
  ·exact⟨s.lt k (by rw[fL];exact cF.2 (.inr hm)),λh=>sA k h k hm I⟩
  obtain⟨h1,ad⟩:=s.fe k hm;exact⟨h1,λh=>ad (by rw[fL];exact cF.2 (.inl h))⟩
 have b9:∀k∈ks Lin,k<W.heap.size:=λk hm=>s.lt k (by rw[fL];exact cF.2 (.inl hm))
 refine .yd (f:=f) (args:=(xs.map a.eval).toArray) (W':=W) (by simp[execOp,resolve,Deferred.ofValue,Act.eval,invoke,cf.run]) ?_
 refine(h (ks Lr++c.b8) W (xs.map a.eval) e7 py b9 (λe he=>aK.wI (s.own e (cF.2 (.inl he))) iT λ_ _=>rfl) (au.mono iT)).mono λe W' ⟨v,bb,he,aW,h1,ad,aB,aV⟩=>?_
 refine⟨v,he,bb,s.after aW h1 ad aB,(ρ bb).mono (.drop λk hm=>?_) aV⟩
 rw[fL]at hm
 simp only[cF]at hm⊢
 rcases hm with(hm|hm)|hm
 ·exact .inl hm
 ·exact .inr (.inl hm)
 exact .inr (.inr hm)
def ae.lI{rest:aa Oper}{bb:Nat}{f:FuncId}{xs:aa cw}{ats:Array bJ}{τs:aa J}{Lin Lr:aa aK}{δ:Type}{ρ:δ->J}{Lo:δ->aa aK}(cf:bH c.P f)(h:bL c.P f τs Lin ρ Lo)
 (au:jr c E (Lin++Lr) xs τs) (aM:Nat.blt bb c.n=true) (k:∀q,ae c ops Q rest ((bb,ρ q)::E) (Lo q++Lr)):
 ae c ops Q (⟨some bb,.call ⟨.value (.func f),xs.toArray,ats⟩,ty,pos,af,none⟩::rest) E (Lin++Lr):=λa W s=>
 jm I (HC cf h s (au.holds a W s)) λv W' ⟨q,cv,bc⟩=>k q _ _ (cv.put (by simpa using aM) bc)
end
def iw{α:Type}(xs:aa α)(k:Nat)(v:α):aa α:=xs.set k v
section
variable{c:cP}{E:aa (Nat×J)}{L:aa aK}{ops:Array Oper}{Q:Exit->Act->bo->Prop}
variable{d:aE Tmp}{ty:bJ}{pos:String}{af:Array Edge}{g:aE (Nat×Bool)}{x y:cw}{t t2:bJ}
def bO.rowAt{a:Act}{W:bo}(s:bO c E L a W){i:Nat}{key:aE Nat}{T cap:Nat}{α:Type}[ak α]{xs:aa α}(ar:L[i]? =some ⟨key,.row T xs cap⟩)(au:0<xs.length):
 ∃p cs,key=some p∧W.heap[p]? =some (.cells cs T (0,0))∧cs.size=cap*ak.size α∧xs.length<=cap∧cap<=maxLen∧ig (ks L++c.b8) W (cs.toList.take (xs.length*ak.size α)) xs:=by
 have a6:=s.own _ (fB ar)
 cases key with
 |none=>have:xs=[]:=a6.1;subst this;simp at au
 | some p=>
   obtain⟨o,fI,cs,rfl,h1,ad,aB,aV⟩:=a6
   exact⟨p,cs,rfl,fI,h1,ad,aB,aV⟩
def nr{e i k T cap:Nat}{key:aE Nat}{α:Type}[ak α]{xs:aa α}{z:Int}(hu:c.P.underlying t=some (.slice e))(e1:bU c.P e α)(au:aU c E L x (.eq (aQ key xs.length cap)))(aR:aU c E L y (.of z))
 (ar:L[i]? =some ⟨key,.row T xs cap⟩) (hk:k<xs.length∧z=k):bj c E L ⟨d,.indexAddr t x y,ty,pos,af,g⟩ (.eq (.pointer (some ⟨key.getD 0,k*ak.size α,none⟩))):=.pure λa W s=>by
 obtain⟨bq,rfl⟩:=hk
 obtain⟨p,cs,rfl,_⟩:=s.rowAt ar (by omega)
 have h1:a.eval x=_:=au a W s
 have ba:=of_int.1 (aR a W s)
 obtain⟨hE,eo,ee⟩:=e1.info
 exact⟨_,by simp[execOp,Instr.indexAt,asIntOf,ep hu,h1,ba,bq,Go.sizeOf,typeInfo,eo,ee,lp,aQ];rfl,by simp[J.eq]⟩
def DS{k n s:Nat}(h:k<n):k*s+s<=n*s:=by rw[<-sY];exact iu _ h
def r7{i k T cap o:Nat}{key:aE Nat}{α γ:Type}[ak α][Inhabited α][ak γ]{xs:aa α}(l:aP α γ){r:γ}(ej:bU c.P t γ)(au:aU c E L x (.eq (.pointer (some ⟨key.getD 0,o,none⟩))))
 (ar:L[i]? =some ⟨key,.row T xs cap⟩) (hk:k<xs.length) (a6:o=k*ak.size α+l.off) (aG:l.get (ax xs k)=r):bj c E L ⟨d,.load t x,ty,pos,af,g⟩ (.of r):=.pure λa W s=>by
 subst a6;subst aG
 obtain⟨p,cs,rfl,fI,h1,ad,aB,aV⟩:=s.rowAt ar (by omega)
 have hf:=DS (s:=ak.size α) hk
 have an:=l.h7
 have hle:xs.length*ak.size α<=cap*ak.size α:=iu _ ad
 have h4:=l.kh (aV.2 k hk)
 rw[Af _ _ _ _ _ l.h7,wg,q8,oq (by omega)]at h4
 rw[dz xs hk]
 obtain⟨v,ba,bq⟩:=Ab (A:=ks L++c.b8) ej fI (off:=k*ak.size α+l.off) (by omega) h4
 have c0:a.eval x=_:=au a W s
 simp only[Option.getD_some]at c0
 exact⟨v,by simp[execOp,Instr.loadAt,Instr.sureAddr,c0,ba],bq⟩
def ae.AH{rest:aa Oper}{i k T cap o:Nat}{key:aE Nat}{α γ:Type}[ak α][Inhabited α][ak γ]{xs r:aa α}{v:γ}(l:aP α γ)(ej:bU c.P t γ)(au:aU c E L x (.eq (.pointer (some ⟨key.getD 0,o,none⟩))))(aR:aU c E L y (.of v))
 (ar:L[i]? =some ⟨key,.row T xs cap⟩) (hk:k<xs.length) (a6:o=k*ak.size α+l.off) (aG:iw xs k (l.set (ax xs k) v)=r)
 (k':ae c ops Q rest E (L.set i ⟨key,.row T r cap⟩)):ae c ops Q (⟨none,.store t x y,ty,pos,af,none⟩::rest) E L:=λa W s=>by
 subst a6;subst aG
 obtain⟨p,cs,rfl,fI,h1,ad,aB,aV⟩:=s.rowAt ar (by omega)
 have hf:=DS (s:=ak.size α) hk
 have an:=l.h7
 have hle:xs.length*ak.size α<=cap*ak.size α:=iu _ ad
 have bc:=aR a W s
 have qT:(a.eval y).cells.toList.length=ak.size γ:=ak.len bc.2
 have ba:=Lf (A:=ks L++c.b8) ej fI (off:=k*ak.size α+l.off) (by omega) bc
 have c0:a.eval x=_:=au a W s
 simp only[Option.getD_some]at c0
 refine jm I (R:=λv W'=>W'=W.setRow p (h0 cs.toList (k*ak.size α+l.off) (a.eval y).cells.toList).toArray) (.DE ?_ I) λu W' hw=>?_
 ·simp[execOp,Instr.storeAt,Instr.sureAddr,c0,ba]
 subst hw
 refine k' _ _ (s.store ar fI ?_)
 have n9:cs.toList.length=cap*ak.size α:=by simpa using h1
 have qU:(h0 cs.toList (k*ak.size α+l.off) (a.eval y).cells.toList).length=cs.toList.length:=by
  simp only[h0,gH,e8,ke,qT];omega
 refine⟨_,rfl,by simpa[n9]using qU,by simpa[iw]using ad,aB,?_⟩
 have g1:=aV.2 k hk
 have g2:=l.ox g1 bc.2
 have g3:=Qb aV hk g2
 have p8:(cs.toList.take (xs.length*ak.size α)).length=xs.length*ak.size α:=by rw[e8];omega
 rw[WZ _ _ _ _ _ _ l.h7 (by omega)]at g3
 have hlen:(iw xs k (l.set (ax xs k) v)).length=xs.length:=by simp[iw]
 rw[hlen,List.toList_toArray]
 have e:(h0 cs.toList (k*ak.size α+l.off) (a.eval y).cells.toList).take (xs.length*ak.size α)=
  (cs.toList.take (xs.length*ak.size α)).take (k*ak.size α+l.off)++(a.eval y).cells.toList++(cs.toList.take (xs.length*ak.size α)).drop (k*ak.size α+l.off+ak.size γ):=by
  have av:(cs.toList.take (k*ak.size α+l.off)).length=k*ak.size α+l.off:=by rw[e8];omega
  have aS:(cs.toList.take (k*ak.size α+l.off)++(a.eval y).cells.toList).length=k*ak.size α+l.off+ak.size γ:=by rw[gH,av,qT]
  rw[h0,qT,KP,aS,pL (by omega),q8,oq (by omega),wg]
 rw[e,show iw xs k (l.set (ax xs k) v)=xs.set k (l.set xs[k] v) by rw[iw,dz xs hk]]
 exact g3
def jL(key:aE Nat)(lo n cap size:Nat):br:=match key with
 |some p=>.slice (some (if cap=lo then⟨p,0,none⟩else⟨p,lo*size,none⟩)) n (cap-lo)
 |none=>.slice none 0 0
def Dw{key:aE Nat}{n cap size:Nat}:jL key 0 n cap size=aQ key n cap:=by
 cases key <;> simp[jL,aQ]
def HN{i T cap:Nat}{key:aE Nat}{α:Type}[ak α]{xs:aa α}{e:bJ}{lo aq:aE cw}{m n:Nat}{J1 J2:Int}(hu:c.P.underlying t=some (.slice e))(e1:bU c.P e α)(au:aU c E L x (.eq (aQ key xs.length cap)))
 (ar:L[i]? =some ⟨key,.row T xs cap⟩) (hP:zk c E L lo J1 0) (gE:zk c E L aq J2 xs.length) (hm:J1=m) (aM:J2=n) (h:m<=n∧n<=xs.length):
 bj c E L ⟨d,.slice t x lo aq none,ty,pos,af,g⟩ (.eq (jL key m (n-m) cap (ak.size α))):=.pure λa W s=>by
 subst hm;subst aM
 obtain⟨vL,mu⟩:=h
 obtain⟨hE,eo,ee⟩:=e1.info
 have h1:a.eval x=_:=au a W s
 have a6:=s.own _ (fB ar)
 cases key with
 | none=>
   have p7:xs=[]:=a6.1
   subst p7
   have vQ:n=0:=by simpa using mu
   have h8:m=0:=by omega
   subst vQ
   subst h8
   refine⟨.slice none 0 0,?_,rfl⟩
   have ar:(match lo.map a.eval with |some v=>Instr.sliceBound v 0 .sliceB|none=>pure 0:Sem Nat).run c.P W=.ok 0 W:=by
    cases hP with
    |none=>rfl
    |some an=>exact s0 (iS _) (of_int.1 (an a W s))
   have hH:(match aq.map a.eval,(none:aE br) with | some v,some _=>Instr.sliceBound v 0 .slice3B | some v,none=>Instr.sliceBound v 0 .sliceAcap | none,none=>pure 0 | none,some _=>stuck "Slice: max without high" :Sem Nat).run c.P W= .ok 0 W:=by
    cases gE with
    |none=>rfl
    |some an=>exact s0 (iS _) (of_int.1 (an a W s))
   cases hP <;> cases gE
   all_goals
    simp only[aQ,execOp,Instr.sliceAt,Instr.slice,Instr.sliceBounds,h1,eg,ep hu,Result.andThen_ok,Option.map_none,Option.map_some,Option.isSome_none,sR,ou,lX,Sem.run_pure]at ar hH⊢
    try simp only[ar,hH,Result.andThen_ok,Go.sizeOf,typeInfo,eg,run_program,eo,Sem.run_pure]
    try simp[eo]
 | some p=>
   obtain⟨o,fI,cs,rfl,g1,g2,g3,g4⟩:=a6
   refine⟨_,?_,rfl⟩
   simp only[jL]
   have ar:∀v,v=Value.int .i64 m->(Instr.sliceBound v n .sliceB).run c.P W=.ok m W:=λv bc=>s0 vL bc
   have hH:∀v,v=Value.int .i64 n->(Instr.sliceBound v cap .sliceAcap).run c.P W=.ok n W:=λv bc=>s0 (by omega) bc
   generalize hf:(n:Int)=adx at gE
   generalize xn:(m:Int)=ady at hP
   generalize Jf:(xs.length:Int)=adz at gE
   generalize acK:(0:Int)=adA at hP
   cases hP with
   | none=>
     have h8:m=0:=by omega
     cases gE with
     | none=>
       have mu:n=xs.length:=by omega
       subst mu
       subst h8
       simp[execOp,Instr.sliceAt,Instr.slice,Instr.sliceBounds,h1,aQ,ep hu,Go.sizeOf,typeInfo,eo,ee,lp]
     | some bT=>
       subst hf
       subst h8
       simp[execOp,Instr.sliceAt,Instr.slice,Instr.sliceBounds,h1,aQ,ep hu,Go.sizeOf,typeInfo,eo,ee,lp,hH _ (of_int.1 (bT a W s))]
   | some an=>
     subst xn
     cases gE with
     | none=>
       have mu:n=xs.length:=by omega
       subst mu
       simp[execOp,Instr.sliceAt,Instr.slice,Instr.sliceBounds,h1,aQ,ep hu,Go.sizeOf,typeInfo,eo,ee,lp,ar _ (of_int.1 (an a W s))]
       split <;> rfl
     | some bT=>
       subst hf
       simp[execOp,Instr.sliceAt,Instr.slice,Instr.sliceBounds,h1,aQ,ep hu,Go.sizeOf,typeInfo,eo,ee,lp,ar _ (of_int.1 (an a W s)),hH _ (of_int.1 (bT a W s))]
       split <;> rfl
def bO.again{a:Act}{W:bo}(s:bO c E L a W){i:Nat}{key:aE Nat}{cp cp':e0}(ar:L[i]? =some ⟨key,cp⟩)(h:∀A W o,cp.holds A W o->cp'.holds A W o)(aM:cp.pY->cp'.pY):bO c E (L.set i ⟨key,cp'⟩) a W:=by
 have hj:ks (L.set i ⟨key,cp'⟩)=ks L:=Mn (e:=⟨key,cp⟩) (cp:=cp') ar;exact
 {defers:=s.defers
  size:=s.size
  env:=λt τ an=>by rw[hj];exact s.env t τ an
  ef:=s.ef
  own:=λe he=>by
   rw[hj];obtain⟨j,aC⟩:=o5.1 he;rw[qn]at aC;split at aC
   ·split at aC
    ·simp only[gl]at aC;subst aC;have a6:=s.own _ (fB ar);cases key with
     |none=>exact aM a6
     |some p=>obtain⟨o,h1,ad⟩:=a6;exact⟨o,h1,h _ _ _ ad⟩
    cases aC
   exact s.own e (fB aC)
  nodup:=by rw[hj];exact s.nodup
  lt:=by rw[hj];exact s.lt
  hh:=by rw[hj];exact s.hh
  fe:=by rw[hj];exact s.fe}
def LN{T cap n:Nat}{α:Type}[ak α]{xs:aa α}(aM:n<=xs.length){A W o}(h:(e0.row T xs cap).holds A W o):(e0.row T (xs.take n) cap).holds A W o:=by
 obtain⟨cs,rfl,h1,ad,aB,aV⟩:=h;have an:(xs.take n).length=n:=by rw[e8];omega
 have hle:n*ak.size α<=xs.length*ak.size α:=iu _ aM;have M7:xs.length*ak.size α<=cap*ak.size α:=iu _ ad;refine⟨cs,rfl,h1,by omega,aB,?_⟩;rw[an];have n9:cs.toList.length=cap*ak.size α:=by simpa using h1
 refine⟨by rw[e8,an];omega,λi aq=>?_⟩;have iz:i<n:=by omega
 have hf:=DS (s:=ak.size α) iz;have:=aV.2 i (by omega);rw[wg,q8,oq (by omega)]at this⊢;rw[KI];exact this
def ae.anu{l:aa Oper}{i T cap n:Nat}{key:aE Nat}{α:Type}[ak α]{xs r:aa α}(bb:Nat)(an:look E bb=some (.eq (jL key 0 (n-0) cap (ak.size α))))(ar:L[i]? =some ⟨key,.row T xs cap⟩)(aM:n<=xs.length)(aG:xs.take n=r)
 (k:ae c ops Q l ((bb,.eq (aQ key r.length cap))::E) (L.set i ⟨key,.row T r cap⟩)):ae c ops Q l E L:=λa W s=>by
 subst aG
 have hlen:(xs.take n).length=n:=by rw[e8];omega
 have cv:=s.again ar (λ_ _ _ h=>LN aM h) (cp':=.row T (xs.take n) cap) (λ⟨h1,ad⟩=>⟨by rw[h1];simp,ad⟩)
 refine k a W {cv with env:=λt τ fm=>?_}
 simp only[look]at fm
 by_cases e:Nat.beq bb t=true
 ·rw[e]at fm
  simp only[cond_true,gl]at fm
  subst fm
  have:=fa.1 e
  subst this
  obtain⟨v,h1,ad⟩:=s.env bb _ an
  refine⟨v,h1,?_⟩
  have l0:v=_:=ad
  rw[Nat.sub_zero,Dw]at l0
  rw[hlen]
  exact l0
 simp only[jk]at e
 rw[e]at fm
 exact cv.env t τ fm
end
def vq{α:Type}[Inhabited α](xs:aa α)(lo n:Nat):aa α:=xs.take lo++List.replicate n default++xs.drop (lo+n)
def W3{α:Type}[ak α]{A W}{cs ds:aa br}{xs ys:aa α}{lo:Nat}(h:ig A W cs xs)(cU:ig A W ds ys)(hk:lo+ys.length<=xs.length):
 ig A W (cs.take (lo*ak.size α)++ds++cs.drop (lo*ak.size α+ds.length)) (xs.take lo++ys++xs.drop (lo+ys.length)):=by
 have an:=h.1
 have hle:lo*ak.size α<=xs.length*ak.size α:=iu _ (by omega)
 have t1:ig A W (cs.take (lo*ak.size α)) (xs.take lo):=by
  have e:(xs.take lo).length=lo:=by rw[e8];omega
  refine⟨by rw[e8,e];omega,λi aq=>?_⟩;have iz:i<lo:=by omega
  have:=h.2 i (by omega);have hf:=DS (s:=ak.size α) iz;rw[wg,q8,oq (by omega),KI];exact this
 have t3:ig A W (cs.drop (lo*ak.size α+ds.length)) (xs.drop (lo+ys.length)):=by
  have e:lo*ak.size α+ds.length=(lo+ys.length)*ak.size α:=by rw[cU.1,nU]
  rw[e];refine⟨by rw[ke,ke,an,<-Nat.sub_mul],λi aq=>?_⟩;rw[ke]at aq;have:=h.2 (lo+ys.length+i) (by omega);rw[Gr,<-nU,List.getElem_drop];exact this
 exact x7 (x7 t1 cU) t3
section
variable{c:cP}{E:aa (Nat×J)}{L:aa aK}{ops:Array Oper}{Q:Exit->Act->bo->Prop}
variable{d:aE Tmp}{ty:bJ}{pos:String}{af:Array Edge}{g:aE (Nat×Bool)}{x y:cw}{t t2:bJ}
def ae.clear{rest:aa Oper}{i e T cap lo n:Nat}{key:aE Nat}{α:Type}[ak α][Inhabited α]{xs r:aa α}(hu:c.P.underlying t=some (.slice e))(e1:bU c.P e α)(hS:dH c.P e (default:α))(ee:Nat.beq (ak.size α) 0=false)
 (au:aU c E L x (.eq (jL key lo n cap (ak.size α)))) (ar:L[i]? =some ⟨key,.row T xs cap⟩) (aM:lo+n<=xs.length) (aG:vq xs lo n=r)
 (k:ae c ops Q rest E (L.set i ⟨key,.row T r cap⟩)):ae c ops Q (⟨none,.call ⟨.builtin .clear,#[x],#[t]⟩,ty,pos,af,none⟩::rest) E L:=λa W s=>by
 subst aG
 have h1:a.eval x=_:=au a W s
 have a6:=s.own _ (fB ar)
 have iT:∀cp,L.set i ⟨key,cp⟩=L.set i ⟨key,cp⟩:=λ_=>rfl
 by_cases bC:n=0∨key=none
 ·have p7:vq xs lo n=xs:=by
   rcases bC with bC|bC
   ·subst bC;simp[vq]
   subst bC;have:xs=[]:=a6.1;subst this;have:n=0:=by simp at aM;omega
   subst this;simp[vq]
  have kH:(execOp a.eval ⟨none,.call ⟨.builtin .clear,#[x],#[t]⟩,ty,pos,af,none⟩).run c.P W=.ok (.value (.tuple #[])) W:=by
   rcases bC with bC|bC
   ·subst bC;cases key <;> simp[execOp,resolve,invoke,builtin,Builtin.clear_,h1,jL,ep hu]
   subst bC;simp[execOp,resolve,invoke,builtin,Builtin.clear_,h1,jL,ep hu]
  refine jm I (R:=λv W'=>W'=W) (.mR kH I) λv W' hw=>?_
  subst hw
  rw[p7]at k
  have:L.set i ⟨key,.row T xs cap⟩=L:=by
   apply nR;intro j;rw[qn];split
   ·rename_i gh;subst gh;have:=(ir.1 ar).1;rw[bh this,ar]
   rfl
  rw[this]at k
  exact k _ _ s
 have vQ:0<n:=by
  rcases Vo n with h|h
  ·exact absurd (.inl h) bC
  exact h
 obtain⟨p,cs,rfl,fI,g1,g2,g3,g4⟩:=s.rowAt ar (by omega)
 obtain⟨hE,eB,eo,bV,Ts⟩:=hS.zero
 have Nz:=Ts (ks L++c.b8) W
 have y4:eB.cells.toList.length=ak.size α:=ak.len Nz.2
 have uH:ak.size α≠0:=λh=>by rw[h]at ee;cases ee
 have Ji:=HG Nz n uH
 have Bz:eB.cells.size=ak.size α:=by simpa using y4
 have Tt:Builtin.zeroCells eB.cells n=(Array.range (n*ak.size α)).map (eB.cells[· % eB.cells.size]!):=by rw[Builtin.zeroCells,Bz]
 rw[<-Tt]at Ji
 generalize kZ:(Builtin.zeroCells eB.cells n).toList=D at Ji
 have acO:D.length=n*ak.size α:=by rw[Ji.1];simp
 have hP:cap≠lo:=by omega
 have hle:(lo+n)*ak.size α<=cap*ak.size α:=iu _ (by omega)
 rw[nU]at hle
 have b5:=FN (P:=c.P) p (lo*ak.size α) _ D 0 cs W fI (by omega) Ji.one
 have kH:(execOp a.eval ⟨none,.call ⟨.builtin .clear,#[x],#[t]⟩,ty,pos,af,none⟩).run c.P W=.ok (.value (.tuple #[])) (W.setRow p (h0 cs.toList (lo*ak.size α) D).toArray):=by
  obtain⟨m,rfl⟩:∃m,n=m+1:=⟨n-1,by omega⟩;simp only[Nat.add_zero]at b5;simp[execOp,resolve,invoke,builtin,Builtin.clear_,h1,jL,ep hu,hP,zeroValue,typeInfo,run_program,eo,bV,kZ,b5,h0]
 refine jm I (R:=λv W'=>W'=W.setRow p (h0 cs.toList (lo*ak.size α) D).toArray) (.mR kH I) λv W' hw=>?_
 subst hw
 refine k _ _ (s.store ar fI ?_)
 have n9:cs.toList.length=cap*ak.size α:=by simpa using g1
 have hlen:(vq xs lo n).length=xs.length:=by simp[vq];omega
 have p8:(cs.toList.take (xs.length*ak.size α)).length=xs.length*ak.size α:=by
  rw[e8];have:xs.length*ak.size α<=cap*ak.size α:=iu _ g2;omega
 have aqr:(lo+n)*ak.size α<=xs.length*ak.size α:=iu _ aM
 rw[nU]at aqr
 have aui:xs.length*ak.size α<=cap*ak.size α:=iu _ g2
 refine⟨_,rfl,?_,by rw[hlen];exact g2,g3,?_⟩
 ·simp only[FM,h0,gH,e8,ke];omega
 rw[hlen,List.toList_toArray]
 have g5:=W3 (lo:=lo) g4 Ji (by simpa using aM)
 have e:(h0 cs.toList (lo*ak.size α) D).take (xs.length*ak.size α)=(cs.toList.take (xs.length*ak.size α)).take (lo*ak.size α)++D++(cs.toList.take (xs.length*ak.size α)).drop (lo*ak.size α+D.length):=by
  have av:(cs.toList.take (lo*ak.size α)).length=lo*ak.size α:=by rw[e8];omega
  have aS:(cs.toList.take (lo*ak.size α)++D).length=lo*ak.size α+D.length:=by rw[gH,av]
  rw[h0,KP,aS,pL (by omega),q8,oq (by omega),wg]
 rw[e]
 simpa[vq]using g5
def bO.share{a:Act}{W:bo}(s:bO c E L a W){i gY p:Nat}{α:Type}[ak α]{z:α}(an:look E gY=some (.eq (.pointer (some ⟨p,0,none⟩))))(ar:L[i]? =some ⟨some p,.var z⟩):bO c ((gY,.ptr z)::E) (L.set i ⟨none,.dead⟩) a W:=by
 have hk:=s.kill i;refine {hk with env:=λt τ fm=>?_};simp only[look]at fm;by_cases e:Nat.beq gY t=true
 ·rw[e]at fm;simp only[cond_true,gl]at fm;subst fm;have:=fa.1 e;subst this;obtain⟨v,h1,ad⟩:=s.env gY _ an;have l0:v=_:=ad;subst l0;obtain⟨o,fI,cs,T,rfl,aG⟩:=s.own _ (fB ar);have hlen:cs.toList.length=ak.size α:=ak.len aG;refine⟨_,h1,p,0,cs,T,(0,0),rfl,s.HO ar,fI,by simp at hlen;omega,?_⟩;rw[wh,<-hlen,iD];have oJ:=De (L:=L) (i:=i) (cp:=.dead);exact ak.mono (.drop λk hm=>by
   rcases cF.1 hm with hm|hm
   ·exact cF.2 (.inl (oJ.subset hm))
   exact cF.2 (.inr hm)) aG
 simp only[jk]at e;rw[e]at fm;exact hk.env t τ fm
def ae.share{l:aa Oper}{p:Nat}{α:Type}[ak α]{z:α}(i gY:Nat)(an:look E gY=some (.eq (.pointer (some ⟨p,0,none⟩))))(ar:L[i]? =some ⟨some p,.var z⟩)(k:ae c ops Q l ((gY,.ptr z)::E) (L.set i ⟨none,.dead⟩)):ae c ops Q l E L:=
 λa W s=>k a W (s.share an ar)
def Mf{α β:Type}[ak α][ak β]{F:α->aE β}{f:FuncId}{xs:aa cw}{τs:aa J}(cf:bH c.P f)(au:jr c E L xs τs)(h:∀x r,F x=some r->dV c.P f (.of x::τs) (.of r)):
 bj c E L ⟨d,.makeFunc (.func f) #[] xs.toArray,ty,pos,af,g⟩ (.Bl c.P F):=.pure λa W s=>by
 have bT:=au.holds a W s
 refine⟨.func (.func f) #[] (xs.map a.eval).toArray,by simp[execOp,Instr.makeFunc],f,_,_,rfl,cf,λcV W' e e7 x r oX ku bc=>?_⟩
 simpa using h x r ku cV W' (oX::xs.map a.eval) e7 (.cons bc (bT.mono e))
def J.Flat(τ:J):Prop:=∀A W cV W' v,τ.holds A W v->τ.holds cV W' v
def HF{b:Bool}:(J.of b).Flat:=λ_ _ _ _ _ h=>h
def wB{b:Int}:(J.of b).Flat:=λ_ _ _ _ _ h=>h
def bj.abq{o:Oper}{τ:J}{T cap:Nat}{key:aE Nat}{α:Type}[ak α]{xs:aa α}(i s:Nat)(an:look E s=some (.eq (aQ key xs.length cap)))(ar:L[i]? =some ⟨key,.row T xs cap⟩)(aW:τ.Flat)
 (h:bj c ((s,.of xs)::E) (L.set i ⟨none,.dead⟩) o τ):bj c E L o τ:=λa W st=>by
 have:=h a W (st.freeze an ar)
 unfold h3 at this⊢
 exact tY (λiI W' ⟨v,h1,ad,aB⟩=>⟨v,h1,ad,aW _ _ _ _ _ aB⟩) this
def J.abU{α:Type}(xs:aa α):J where
 holds _ _ v:=∃b:Bool,v=.bool b∧(b=true->xs=[])
 mono _ h:=h
def WA{P:Program}{e:bJ}(W:bo)(d:Nat){t:bJ}(a:aE Addr)(l cp:Nat)(h:P.underlying t=some (.slice e)):(Op.equalIn (d+1) t (.slice a l cp) (.slice none 0 0)).run P W=.ok a.isNone W:=by
 cases a <;> simp[Op.equalIn,ep h]
def ZH{α:Type}[ak α]{xs:aa α}{e:bJ}(hu:c.P.underlying t=some (.slice e))(au:aU c E L x (.of xs)):bj c E L ⟨d,.binOp .eql t x (.const (.slice none 0 0)) t2,ty,pos,af,g⟩ (.abU xs):=.pure λa W s=>by
 have aM:a.eval (.const (.slice none 0 0))=.slice none 0 0:=rfl;rcases qw.1 (au a W s)with⟨h1,rfl⟩|⟨b,off,cap,cur,T,il,h1,ad⟩
 ·exact⟨.bool true,by
   simp only[execOp,eqGuard,binOp,h1,aM,Op.equal,Op.maxDepth];simp[WA W 9999 none 0 0 hu],true,rfl,λ_=>rfl⟩
 exact⟨.bool false,by
  simp only[execOp,eqGuard,binOp,h1,aM,Op.equal,Op.maxDepth];simp[WA W 9999 (some ⟨b,off,none⟩) xs.length cap hu],false,rfl,λh=>by cases h⟩
def ay.ZI{α:Type}{y z:Code}{xs:aa α}(an:aU c E L x (.abU xs))(bD:xs=[]->ay c Q y E L)(aW:ay c Q z E L):ay c Q (.cond x y z) E L:=λa W s=>by
 obtain⟨b,h1,ad⟩:=an a W s;exact wpIn_cond_split h1 (λh=>bD (ad h) a W s) (λ_=>aW a W s)
end
def dp(c:cP)(ops:Array Oper)(Q:Exit->Act->bo->Prop)(f:Nat)(ct:Array Bool)(E:aa (Nat×J))(L:aa aK):Prop:=
 ∀a W,bO c E L a W->wpAnyIn c.F 9 c.P .any ops Q f ct a W
def qk(K:Act->bo->Prop)(Q:Exit->Act->bo->Prop):Exit->Act->bo->Prop
 | .normal,a,W=>K a W
 |x,a,W=>Q x a W
def abV:Nat->Nat->aa Bool
 |0,_=>[]
 |n+1,k=>Nat.beq (k % 2) 1::abV n (k/2)
def jc(n k:Nat):Array Bool:=Array.mk (abV n k)
section
variable{c:cP}{E:aa (Nat×J)}{L:aa aK}{ops:Array Oper}{Q:Exit->Act->bo->Prop}
def Oper.ahQ{F:Fence}{n:Nat}{P:Program}{o:Oper}{a:Act}{K:Act->bo->Prop}{r:Result Next}(h:o.uponIn F n P a K (qk K Q) r):o.uponIn F n P a K Q r:=by
 cases r with
 | ok m rQ=>
   cases m <;> simp only[Oper.uponIn]at h⊢ <;>
    first
     |exact h
     |exact⟨h.1,CallsIn.mono h.2 (λe vP he=>by cases e <;> exact he)⟩
     |exact⟨h.1,RoundIn.mono h.2 (λe vP he=>by cases e <;> exact he)⟩
 |halt x rQ=>cases x <;> simp only[Oper.uponIn]at h⊢ <;> exact h
def PF{i:Nat}{o:Oper}{K:Act->bo->Prop}{a:Act}{W:bo}(aq:ops[i]? =some o)(h:c.sw ops (qk K Q) [o] a W):wpOpIn c.F 9 c.P ops Q i K a W:=by
 unfold wpOpIn;simp only[aq];simp only[cP.sw,wpListIn]at h;split
 ·rename_i hw;rw[bh hw]at h;exact⟨h.1,Oper.ahQ h.2⟩
 rename_i hw;rw[bf hw]at h;exact h
def Ir(c:cP)(ops:Array Oper)(Q:Exit->Act->bo->Prop)(f:Nat)(ct:Array Bool)(E:aa (Nat×J))(L:aa aK):aa Nat->Prop
 |[]=>True
 |i::r=>(∃o,ops[i]? =some o∧ae c ops (qk (wpAnyIn c.F 9 c.P .any ops Q f (ct.setIfInBounds i true)) Q) [o] E L)∧Ir c ops Q f ct E L r
def Ir.get{f:Nat}{ct:Array Bool}:∀{E1:aa Nat},Ir c ops Q f ct E L E1->∀i∈E1,∃o,ops[i]? =some o∧ae c ops (qk (wpAnyIn c.F 9 c.P .any ops Q f (ct.setIfInBounds i true)) Q) [o] E L
 | _::_,h,i,aq=>by
   rcases dP.1 aq with rfl|aq
   ·exact h.1
   exact Ir.get h.2 i aq
def dp.step{f:Nat}{ct:Array Bool}(E1:aa Nat)(aG:Region.ready .any ops ct=E1)(di:E1.isEmpty=false)(h:Ir c ops Q f ct E L E1):dp c ops Q (f+1) ct E L:=λa W s=>
 ⟨λbC=>(by rw[<-aG,bC]at di;exact absurd di (by simp)),λi aq=>(by
  rw[aG]at aq;obtain⟨o,h1,ad⟩:=h.get i aq;exact PF h1 (ad a W s))⟩
def dp.last{f:Nat}{ct:Array Bool}(aG:Region.ready .any ops ct=[])(h:al c Q .normal E L):dp c ops Q f ct E L:=λa W s=>by
 cases f with
 |zero=>exact⟨aG,h a W s⟩
 |succ f=>exact⟨λ_=>h a W s,λi aq=>(by rw[aG]at aq;exact absurd aq (by simp))⟩
def dp.le{f:Nat}{ct:Array Bool}{E':aa (Nat×J)}(h:fO E E')(k:dp c ops Q f ct E' L):dp c ops Q f ct E L:=λa W s=>k a W (s.less h.look)
def dp.df{f:Nat}{ct:Array Bool}{L2:aa aK}(h:L=L2)(k:dp c ops Q f ct E L2):dp c ops Q f ct E L:=h▸k
def al.any{f:Nat}{ct ug:Array Bool}(an:ct=ug)(k:dp c ops Q f ug E L):al c (qk (wpAnyIn c.F 9 c.P .any ops Q f ct) Q) .normal E L:=λa W s=>by
 subst an;exact k a W s
def al.fY{f:Nat}{ct ug:Array Bool}{E':aa (Nat×J)}(k:dp c ops Q f ug E' L)(h:fO E E':=by repeat (first|exact fO.nil|refine fO.same I ?_))(an:ct=ug:=by kernel_rfl):al c (qk (wpAnyIn c.F 9 c.P .any ops Q f ct) Q) .normal E L:=.any an (.le h k)
def ay.ank{kK:Nat}{l:aa Oper}(hm:c.P.follows .mixedOrders=true)(n:Nat)(ls:Array Bool)(aM:l.length=n)(BC:Array.replicate n false=ls)(h:dp c l.toArray Q n ls E L):ay c Q (.region kK l.toArray true) E L:=λa W s=>by
 subst aM BC;refine wpIn_region_any hm ?_;have:=h a W.drew (s.world (Fr.drew W));simpa using this
end
section
variable{c:cP}{E:aa (Nat×J)}{L:aa aK}{ops:Array Oper}{Q:Exit->Act->bo->Prop}
variable{d:aE Tmp}{ty:bJ}{pos:String}{af:Array Edge}{g:aE (Nat×Bool)}{x y:cw}{t t2:bJ}
def ae.si{α:Type}[ak α]{rest:aa Oper}{bb e n:Nat}{z:α}{r:aa α}{ev:aa (Nat×cw)}(hu:c.P.underlying t=some (.slice e))(e1:bU c.P e α)(hS:dH c.P e z)(hs:Nat.beq (ak.size α) 0=false)(aM:Nat.ble (n*ak.size α) 16777216=true)
 (aW:qC c E L (List.replicate n z) ev r) (jz:Nat.blt bb c.n=true) (k:∀p,ae c ops Q rest ((bb,.eq (aQ p r.length n))::E) (⟨p,.row e r n⟩::L)):
 ae c ops Q (⟨some bb,.buildSlice t n ev.toArray,ty,pos,af,none⟩::rest) E L:=λa W s=>by
 obtain⟨hE,eB,eo,bV,vR⟩:=hS.zero
 have qI:hE.size=ak.size α:=by
  obtain⟨i2,h1,ad⟩:=e1.info;rw[eo]at h1;cases h1;exact ad
 have jx:ak.size α≠0:=λh=>by rw[h]at hs;cases hs
 have uK:=HG (vR (ks L++c.b8) W) n jx
 obtain⟨ff,aB,aV,ba⟩:=aW.run a W s _ uK
 have hlen:r.length=n:=by rw[ba];simp
 have hm:(ev.toArray.map λ(x:Nat×cw)=>(x.1,a.eval x.2)).toList=ev.map λ(i,x)=>(i,a.eval x):=by simp
 have aqm:=pM aM
 refine jm I (R:=λv W'=>v=.slice (some ⟨W.heap.size,0,none⟩) n n∧W'=W.alloc (.cells ff e)) (.mR (v:=.slice (some ⟨W.heap.size,0,none⟩) n n) (W':=W.alloc (.cells ff e)) ?_ ⟨rfl,rfl⟩) λv W' ⟨h1,ad⟩=>?_
 ·simp only[execOp,Instr.buildSlice,eg,ep hu,Result.andThen_ok,Go.sizeOf,typeInfo,run_program,eo,Sem.run_pure,qI]
  rw[bf (by omega)]
  try simp only[Sem.run_pure,Result.andThen_ok,eg]
  by_cases bC:n*ak.size α=0
  ·have vQ:n=0:=by
    rcases Nat.mul_eq_zero.1 bC with h|h
    ·exact h
    exact absurd h jx
   subst vQ
   simp only[zY,lX,Sem.run_pure,Result.andThen_ok]
   try simp only[zY]at aB
   have hr:((Array.range 0).map (λx=>(#[]:Array br)[x % (#[]:Array br).size]!))=((Array.range 0).map (eB.cells[· % eB.cells.size]!)):=by simp
   simp only[pure_bind]
   rw[hr,hm,aB]
   simp[newRow]
  simp only[bC,ou,eg,zeroValue,typeInfo,run_program,Result.andThen_ok,eo,bV,Sem.run_pure]
  rw[hm,aB]
  simp[newRow]
 subst h1 ad
 have yD:n<=maxLen:=by
  have:n*1<=n*ak.size α:=Kx _ (by omega);have:maxLen=9223372036854775807:=rfl;omega
 have ee:ff.size=n*ak.size α:=by have:=aV.1;rw[hlen]at this;simpa using this
 have cv:=s.alloc (o:=.cells ff e) (cp:=.row e r n) ⟨ff,rfl,ee,by omega,yD,by
  have bq:=aV.1;rw[<-bq,iD];exact aV⟩
 refine k (some W.heap.size) _ _ (cv.put (τ:=.eq (aQ (some W.heap.size) r.length n)) (by simpa using jz) ?_)
 show _=_
 rw[hlen];rfl
def ae.kG{l:aa Oper}{key:aE Nat}{n m cap:Nat}(gY:Nat)(an:look E gY=some (.eq (aQ key n cap)))(aM:n=m)(k:ae c ops Q l ((gY,.eq (aQ key m cap))::E) L):ae c ops Q l E L:=λa W s=>by
 subst aM;refine k a W (s.less λt τ h=>?_);simp only[look]at h;by_cases e:Nat.beq gY t=true
 ·rw[e]at h;simp only[cond_true]at h;have:=fa.1 e;subst this;exact⟨τ,by rw[an,h],λ_ _ _ h=>h⟩
 simp only[jk]at e;rw[e]at h;exact⟨τ,h,λ_ _ _ h=>h⟩
end
def lH{α:Type}{xs r:aa α}{k:Nat}{v:α}(h:iw xs k v=r):xs.length=r.length:=by rw[<-h];simp[iw]
def WV{α:Type}{b:Nat}{r:aa α}(h:((eZ b [] ([]:aa α)).bind λy=>some y)=some r):r=[]:=by
 obtain⟨y,h1,ad⟩:=bind_some h;obtain⟨_,_,aB⟩:=W0 h1;rw[aB]at ad;exact(dt ad).symm
def mo:br:=.slice none 0 0
def blank:aa (Nat×br)->aa br->aa br
 |[],cs=>cs
 |o::r,cs=>blank r (cs.set o.1 mo)
def Hu:∀{os:aa (Nat×br)} {cs:aa br},(blank os cs).length=cs.length
 |[],_=>rfl
 |o::r,cs=>by rw[blank,Hu,xP]
def vk:∀{os:aa (Nat×br)} {cs:aa br} (i:Nat),(blank os cs)[i]? =if os.any (λh=>Nat.beq h.1 i)=true then cs[i]?.map (λ_=>mo)else cs[i]?
 |[],_,i=>by simp[blank]
 | o::r,cs,i=>by
   rw[blank,vk i,List.any_cons];by_cases h:o.1=i
   ·subst h;simp only[nh,Pq,lX,qn];by_cases an:o.1<cs.length
    ·simp[an]
    simp[an]
   have hb:Nat.beq o.1 i=false:=by
    cases hb:Nat.beq o.1 i
    ·rfl
    exact absurd (fa.1 hb) h
   rw[hb,r3,xJ h]
def vv(os:aa (Nat×br))(off n:Nat):Bool:=os.all λh=>Nat.blt h.1 off||Nat.ble (off+n) h.1
def WB{os:aa (Nat×br)}{off n i:Nat}(h:vv os off n=true)(h1:off<=i)(ad:i<off+n):os.any (λh=>Nat.beq h.1 i)=false:=by
 rw[wc];intro x au hb;have aB:=lk.1 h x au;have aV:=fa.1 hb;simp only[qo,Nat.blt_eq,Nat.ble_eq]at aB;omega
def ahR{os:aa (Nat×br)}{off n:Nat}{cs:aa br}(h:vv os off n=true):((blank os cs).drop off).take n=(cs.drop off).take n:=by
 apply nR;intro i;simp only[lE,mH];split
 ·rw[vk,WB h (by omega) (by omega)];rfl
 rfl
def An{cs ds:aa br}{off:Nat}(h:off+ds.length<=cs.length)(i:Nat):(h0 cs off ds)[i]? =if i<off then cs[i]? else if i<off+ds.length then ds[i-off]? else cs[i]? :=by
 have h1:(cs.take off).length=off:=by rw[e8];omega
 unfold h0;rw[iJ];by_cases aq:i<off
 ·rw[bh aq,Om (by omega),lE,bh aq]
 rw[bf aq,UL (by omega),h1];by_cases ad:i<off+ds.length
 ·rw[bh ad,Om (by omega)]
 rw[bf ad,UL (by omega),mH];congr 1;omega
def agt{os:aa (Nat×br)}{off:Nat}{cs ds:aa br}(h:vv os off ds.length=true)(hs:off+ds.length<=cs.length):blank os (h0 cs off ds)=h0 (blank os cs) off ds:=by
 apply nR;intro i;rw[vk,An hs,An (by rw[Hu];exact hs),vk];by_cases h1:i<off
 ·simp only[bh h1]
 simp only[bf h1];by_cases ad:i<off+ds.length
 ·simp only[bh ad,WB h (Nat.not_lt.1 h1) ad];rfl
 simp only[bf ad]
def ye(os:aa (Nat×br))(o:Nat)(u:br):aa (Nat×br):=
 bif os.any (λh=>Nat.beq h.1 o)then os.map (λh=>bif Nat.beq h.1 o then(o,u)else h)else(o,u)::os
def agG{os:aa (Nat×br)}{o:Nat}{u:br}{h:Nat×br}(hm:h∈ye os o u):h=(o,u)∨(h∈os∧h.1≠o):=by
 unfold ye at hm;cases hb:os.any (λh=>Nat.beq h.1 o)
 ·rw[hb]at hm;simp only[cond_false]at hm;rcases dP.1 hm with hm|hm
  ·exact .inl hm
  refine .inr ⟨hm,λe=>?_⟩;have:=wc.1 hb h hm;exact this (fa.2 e)
 rw[hb]at hm;simp only[cond_true]at hm;obtain⟨x,au,he⟩:=ic.1 hm;cases h1:Nat.beq x.1 o
 ·rw[h1]at he;simp only[cond_false]at he;subst he;exact .inr ⟨au,λe=>by rw[fa.2 e]at h1;cases h1⟩
 rw[h1]at he;exact .inl he.symm
def agH{os:aa (Nat×br)}{o i:Nat}{u:br}:(ye os o u).any (λh=>Nat.beq h.1 i)=(Nat.beq o i||os.any (λh=>Nat.beq h.1 i)):=by
 unfold ye;cases hb:os.any (λh=>Nat.beq h.1 o)
 ·simp only[cond_false,List.any_cons]
 simp only[cond_true,List.any_map];rw[kQ,qo,oo,oo];constructor
 ·rintro ⟨x,au,he⟩;simp only[Function.comp]at he;cases h1:Nat.beq x.1 o
  ·rw[h1]at he;exact .inr ⟨x,au,he⟩
  rw[h1]at he;exact .inl he
 rintro (h|⟨x,au,he⟩)
 ·obtain⟨x,au,h1⟩:=oo.1 hb;exact⟨x,au,by simp only[Function.comp,h1,cond_true];exact h⟩
 refine⟨x,au,?_⟩;simp only[Function.comp];cases h1:Nat.beq x.1 o
 ·exact he
 have av:=fa.1 h1;have aS:=fa.1 he;simp only[cond_true];exact fa.2 (by omega)
def vn(os:aa (Nat×br))(o:Nat):aa (Nat×br):=os.filter (λh=> !Nat.beq h.1 o)
def agI{os:aa (Nat×br)}{o i:Nat}:(vn os o).any (λh=>Nat.beq h.1 i)=(!(Nat.beq o i)&&os.any (λh=>Nat.beq h.1 i)):=by
 rw[kQ];simp only[oo,gm,r1,vn,tV];constructor
 ·rintro ⟨x,⟨h1,ad⟩,aB⟩;refine⟨?_,x,h1,aB⟩;cases hb:Nat.beq o i
  ·rfl
  have:=fa.1 hb;have aV:=fa.1 aB;rw[aV,<-this,nh]at ad;cases ad
 rintro ⟨bC,x,h1,aB⟩;refine⟨x,⟨h1,?_⟩,aB⟩;cases hb:Nat.beq x.1 o
 ·rfl
 have:=fa.1 hb;have aV:=fa.1 aB;rw[<-this,aV,nh]at bC;cases bC
def n2{α:Type}[ak α](A:aa Nat)(W:bo)(cs:aa br)(x:α)(os:aa (Nat×br)):Prop:=ak.rep A W (blank os cs) x∧∀h∈os,cs[h.1]? =some h.2∧h.2.oneCell'=true
def n2.len{α:Type}[ak α]{A W}{cs:aa br}{x:α}{os:aa (Nat×br)}(h:n2 A W cs x os):cs.length=ak.size α:=by rw[<-Hu (os:=os)];exact ak.len h.1
def n2.mono{α:Type}[ak α]{A W cV W'}{cs:aa br}{x:α}{os:aa (Nat×br)}(e:Ext A W cV W')(h:n2 A W cs x os):n2 cV W' cs x os:=⟨ak.mono e h.1,h.2⟩
def n2.one{α:Type}[ak α]{A W}{cs:aa br}{x:α}{os:aa (Nat×br)}(h:n2 A W cs x os):∀u∈cs,u.oneCell'=true:=by
 intro u hu;obtain⟨i,aq⟩:=o5.1 hu;by_cases hb:os.any (λh=>Nat.beq h.1 i)=true
 ·obtain⟨o,a6,he⟩:=oo.1 hb;have he:=fa.1 he;obtain⟨h1,ad⟩:=h.2 o a6;rw[he,aq]at h1;cases h1;exact ad
 have h1:=vk (os:=os) (cs:=cs) i;rw[bf hb,aq]at h1;exact ak.one h.1 u (fB h1)
def e0.cu{α:Type}[ak α](x:α)(os:aa (Nat×br)):e0 where
 holds A W o:=∃cs T,o=.cells cs T (0,0)∧n2 A W cs.toList x os
 pY:=False
 mono e h:=let⟨cs,T,a6,aG⟩:=h; ⟨cs,T,a6,aG.mono e⟩
def J.Tu{α:Type}[ak α](x:α)(os:aa (Nat×br)):J where
 holds A W v:=shaped (ak.agg α) v∧n2 A W v.cells.toList x os
 mono e h:=⟨h.1,h.2.mono e⟩
structure h9 where
 v:Value
instance:ak h9 where
 size:=1
 agg:=false
 rep _ _ cs x:=cs=[x.v]∧x.v.oneCell'=true
 len h:=by rw[h.1];rfl
 one h:=by rw[h.1];intro u hu;rw[hT.1 hu];exact h.2
 flat _:=rfl
 mono _ h:=h
def aaz{A W v}{u:br}:(J.of (⟨u⟩:h9)).holds A W v↔v=u∧u.oneCell'=true:=by
 constructor
 ·rintro ⟨h1,ad,aB⟩;have h1:v.oneCell'=true:=h1;exact⟨pS h1 ad,aB⟩
 rintro ⟨rfl,h⟩;exact⟨h,by show v.cells.toList=[v]∧_;rw[cells_one h];exact⟨rfl,h⟩⟩
theorem bU.ex{P:Program}{t:bJ}{γ:Type}[ak γ](h:bU P t (aa γ)):bU P t h9:=⟨h.size,h.acJ⟩
def jn{key:aE Nat}{n cap:Nat}:(aQ key n cap).oneCell'=true:=by cases key <;> rfl
def ake{A W}{γ:Type}[ak γ]:ak.rep A W [mo] ([]:aa γ):=⟨mo,rfl,.inl ⟨rfl,rfl⟩⟩
def Xv{α γ:Type}[ak α][ak γ]{A W}{cs ds:aa br}{x:α}{v:γ}{os:aa (Nat×br)}(l:aP α γ)(h:n2 A W cs x os)(hd:ak.rep A W ds v)(aY:vv os l.off (ak.size γ)=true):n2 A W (h0 cs l.off ds) (l.set x v) os:=by
 have h1:=h.len;have hf:=l.h7;have an:=ak.len hd;refine⟨?_,λo hm=>?_⟩
 ·have bq:=l.ox h.1 hd;rw[agt (by rw[an];exact aY) (by rw[an];omega)];simpa[h0,an]using bq
 refine⟨?_,(h.2 o hm).2⟩;rw[An (by rw[an];omega)];have c0:=lk.1 aY o hm;simp only[qo,Nat.blt_eq,Nat.ble_eq]at c0;rw[an];by_cases db:o.1<l.off
 ·rw[bh db];exact(h.2 o hm).1
 rw[bf db,bf (by omega)];exact(h.2 o hm).1
def W4{α γ:Type}[ak α][ak γ]{A W}{cs:aa br}{x:α}{u:br}{os:aa (Nat×br)}(l:aP α (aa γ))(h:n2 A W cs x os)(hu:u.oneCell'=true):n2 A W (h0 cs l.off [u]) (l.set x []) (ye os l.off u):=by
 have h1:=h.len;have hf:l.off+1<=ak.size α:=l.h7;refine⟨?_,λo hm=>?_⟩
 ·have bq:ak.rep A W ((blank os cs).take l.off++[mo]++(blank os cs).drop (l.off+1)) (l.set x []):=l.ox h.1 (ake (γ:=γ));have e:blank (ye os l.off u) (h0 cs l.off [u])=h0 (blank os cs) l.off [mo]:=by
   apply nR;intro i;rw[vk,An (by simp;omega),An (by rw[Hu];simp;omega),vk];rw[agH];by_cases aq:l.off=i
   ·subst aq;simp
   have hb:Nat.beq l.off i=false:=by
    cases hb:Nat.beq l.off i
    ·rfl
    exact absurd (fa.1 hb) aq
   rw[hb];simp only[r3,List.length_singleton];by_cases ad:i<l.off
   ·simp only[bh ad]
   have dE: ¬i<l.off+1:=by omega
   simp only[bf ad,bf dE]
  rw[e];simpa[h0]using bq
 rw[An (by simp;omega)];rcases agG hm with rfl|⟨aB,di⟩
 ·exact⟨by simp,hu⟩
  
 simp only[List.length_singleton]
 refine⟨?_,(h.2 o aB).2⟩
 by_cases db:o.1<l.off
 ·rw[bh db];exact(h.2 o aB).1
 rw[bf db,bf (by omega)];exact(h.2 o aB).1
def W5{α γ:Type}[ak α][ak γ]{A W}{cs:aa br}{x:α}{u:br}{xs:aa γ}{os:aa (Nat×br)}(l:aP α (aa γ))(h:n2 A W cs x os)(hm:(l.off,u)∈os)(hs:rT A W u xs):n2 A W cs (l.set x xs) (vn os l.off):=by
 have h1:=h.len;have hf:l.off+1<=ak.size α:=l.h7;have ar5:=(h.2 _ hm).1;refine⟨?_,λo a6=>h.2 o (tV.1 a6).1⟩;have bq:ak.rep A W ((blank os cs).take l.off++[u]++(blank os cs).drop (l.off+1)) (l.set x xs):=l.ox h.1 (ds:=[u]) (g:=xs) ⟨u,rfl,hs⟩;have e:blank (vn os l.off) cs=h0 (blank os cs) l.off [u]:=by
  apply nR;intro i;rw[vk,An (by rw[Hu];simp;omega),vk,agI];by_cases aq:l.off=i
  ·subst aq;simp[ar5]
  have hb:Nat.beq l.off i=false:=by
   cases hb:Nat.beq l.off i
   ·rfl
   exact absurd (fa.1 hb) aq
  rw[hb];simp only[KY,qp,List.length_singleton];by_cases ad:i<l.off
  ·simp only[bh ad]
  have dE: ¬i<l.off+1:=by omega
  simp only[bf ad,bf dE]
 rw[e];simpa[h0]using bq
section
variable{c:cP}{E:aa (Nat×J)}{L:aa aK}{ops:Array Oper}{Q:Exit->Act->bo->Prop}
variable{d:aE Tmp}{ty:bJ}{pos:String}{af:Array Edge}{g:aE (Nat×Bool)}{x y:cw}{t t2:bJ}
def bO.Ie{a:Act}{W:bo}(s:bO c E L a W){i:Nat}{key:aE Nat}{cp cp':e0}(ar:L[i]? =some ⟨key,cp⟩)(h:∀o,cp.holds (ks L++c.b8) W o->cp'.holds (ks L++c.b8) W o)(aM:cp.pY->cp'.pY):bO c E (L.set i ⟨key,cp'⟩) a W:=by
 have hj:ks (L.set i ⟨key,cp'⟩)=ks L:=Mn (e:=⟨key,cp⟩) (cp:=cp') ar;exact
 {defers:=s.defers
  size:=s.size
  env:=λt τ an=>by rw[hj];exact s.env t τ an
  ef:=s.ef
  own:=λe he=>by
   rw[hj];obtain⟨j,aC⟩:=o5.1 he;rw[qn]at aC;split at aC
   ·split at aC
    ·simp only[gl]at aC;subst aC;have a6:=s.own _ (fB ar);cases key with
     |none=>exact aM a6
     |some p=>obtain⟨o,h1,ad⟩:=a6;exact⟨o,h1,h _ ad⟩
    cases aC
   exact s.own e (fB aC)
  nodup:=by rw[hj];exact s.nodup
  lt:=by rw[hj];exact s.lt
  hh:=by rw[hj];exact s.hh
  fe:=by rw[hj];exact s.fe}
def ae.tg{l:aa Oper}{p:Nat}{β:Type}[ak β]{b:β}(i:Nat)(ar:L[i]? =some ⟨some p,.cu b []⟩)(k:ae c ops Q l E (L.set i ⟨some p,.var b⟩)):ae c ops Q l E L:=λa W s=>
 k a W (s.Ie ar (λo ⟨cs,T,h1,ad⟩=>⟨cs,T,h1,ad.1⟩) id)
def al.tg{z:Exit}{p:Nat}{β:Type}[ak β]{b:β}(i:Nat)(ar:L[i]? =some ⟨some p,.cu b []⟩)(k:al c Q z E (L.set i ⟨some p,.var b⟩)):al c Q z E L:=λa W s=>
 k a W (s.Ie ar (λo ⟨cs,T,h1,ad⟩=>⟨cs,T,h1,ad.1⟩) id)
def RB:aE br->Bool
 |some (.slice none 0 0)=>true
 |_=>false
def WC{v:aE br}(h:RB v=true):v=some mo:=by
 unfold RB at h;split at h
 ·rfl
 cases h
def kP(P:Program)(t:bJ)(hs:aa Nat):Prop:=((P.info? t).bind (·.zero)).any (λv=>hs.all λo=>RB v.cells.toList[o]?)=true
def PR:∀{os:aa (Nat×br)} {cs:aa br},(∀h∈os,cs[h.1]? =some mo)->blank os cs=cs
 |[],_,_=>rfl
 | o::r,cs,h=>by
   have h1:=h o (by simp);have e:cs.set o.1 mo=cs:=by
    apply nR;intro i;rw[qn];split
    ·rename_i he;subst he;have:=(ir.1 h1).1;rw[bh this,h1]
    rfl
   rw[blank,e];exact PR λx au=>h x (by simp[au])
def ae.sc{rest:aa Oper}{bb:Nat}{α:Type}[ak α]{z:α}(hs:aa Nat)(xB:kP c.P t hs)(hS:dH c.P t z)(aM:Nat.blt bb c.n=true)
 (k:∀p,ae c ops Q rest ((bb,.eq (.pointer (some ⟨p,0,none⟩)))::E) (⟨some p,.cu z (hs.map λo=>(o,mo))⟩::L)):ae c ops Q (⟨some bb,.alloc t,ty,pos,af,none⟩::rest) E L:=λa W s=>by
 obtain⟨i,eB,h1,ad,aB⟩:=hS.zero
 have bT:∀o∈hs,eB.cells.toList[o]? =some mo:=λo a6=>by
  unfold kP at xB;rw[h1]at xB;simp only[Option.bind_some,ad,Option.any_some]at xB;exact WC (lk.1 xB o a6)
 have acP:∀h∈hs.map (λo=>(o,mo)),eB.cells.toList[h.1]? =some h.2:=λh hm=>by
  obtain⟨o,a6,rfl⟩:=ic.1 hm;exact bT o a6
 refine jm I (R:=λv W'=>v=.pointer (some ⟨W.heap.size,0,none⟩)∧W'=W.alloc (.cells eB.cells t)) (.mR ?_ ⟨rfl,rfl⟩) λv W' ⟨bc,hw⟩=>?_
 ·simp[execOp,Instr.alloc,zeroValue,typeInfo,h1,ad,newVar,newRow]
 subst bc
 subst hw
 refine k _ _ _ ((s.alloc (cp:=.cu z (hs.map λo=>(o,mo))) ⟨eB.cells,t,rfl,?_,λh hm=>⟨acP h hm,by obtain⟨o,_,rfl⟩:=ic.1 hm;rfl⟩⟩).put (by simpa using aM) I)
 rw[PR λh hm=>by rw[acP h hm];obtain⟨o,_,rfl⟩:=ic.1 hm;rfl]
 exact(aB _ _).2
def ae.aa3{rest:aa Oper}{bb:Nat}{α:Type}[ak α]{z:α}{os:aa (Nat×br)}(au:aU c E L x (.Tu z os))(aM:Nat.blt bb c.n=true)
 (k:∀p,ae c ops Q rest ((bb,.eq (.pointer (some ⟨p,0,none⟩)))::E) (⟨some p,.cu z os⟩::L)):ae c ops Q (⟨some bb,.box t x,ty,pos,af,none⟩::rest) E L:=λa W s=>by
 refine jm I (R:=λv W'=>v=.pointer (some ⟨W.heap.size,0,none⟩)∧W'=W.alloc (.cells (a.eval x).cells t)) (.mR ?_ ⟨rfl,rfl⟩) λv W' ⟨bc,hw⟩=>?_
 ·simp[execOp,Instr.box,newVar,newRow]
 subst bc
 subst hw
 obtain⟨h1,ad⟩:=au a W s
 exact k _ _ _ ((s.alloc (cp:=.cu z os) ⟨_,t,rfl,ad⟩).put (by simpa using aM) I)
def HW{t:bJ}{i p o:Nat}{β γ:Type}[ak β][ak γ]{b:β}{os:aa (Nat×br)}(l:aP β γ){r:γ}(ej:bU c.P t γ)(au:aU c E L x (.eq (.pointer (some ⟨p,o,none⟩))))
 (ar:L[i]? =some ⟨some p,.cu b os⟩) (a6:o=l.off) (aG:l.get b=r) (aY:vv os l.off (ak.size γ)=true):bj c E L ⟨d,.load t x,ty,pos,af,g⟩ (.of r):=.pure λa W s=>by
 subst a6
 subst aG
 obtain⟨rR,fI,cs,T,rfl,h4⟩:=s.own _ (fB ar)
 have h1:cs.toList.length=ak.size β:=h4.len
 have ba:=l.kh h4.1
 rw[ahR aY]at ba
 obtain⟨v,ad,aB⟩:=Ab (A:=ks L++c.b8) ej fI (by have:=l.h7;simp at h1;omega) ba
 refine⟨v,?_,aB⟩
 have aV:a.eval x=_:=au a W s
 simp[execOp,Instr.loadAt,Instr.sureAddr,aV,ad]
def akf{cs:aa br}{o:Nat}{u:br}(h:cs[o]? =some u):(cs.drop o).take 1=[u]:=by
 apply nR;intro i;rw[lE,mH];cases i with
 |zero=>simpa using h
 |succ i=>simp
def hZ{t:bJ}{i p o q:Nat}{β γ:Type}[ak β][ak γ]{b:β}{os:aa (Nat×br)}{u:br}(ej:bU c.P t (aa γ))(au:aU c E L x (.eq (.pointer (some ⟨p,o,none⟩))))
 (ar:L[i]? =some ⟨some p,.cu b os⟩) (hq:os[q]? =some (o,u)):bj c E L ⟨d,.load t x,ty,pos,af,g⟩ (.eq u):=.pure λa W s=>by
 obtain⟨rR,fI,cs,T,rfl,h4,bT⟩:=s.own _ (fB ar)
 obtain⟨ba,hu⟩:=bT _ (fB hq)
 have b9:o<cs.size:=by have:=(ir.1 ba).1;simpa using this
 obtain⟨v,ad,aB⟩:=Ab (α:=h9) (x:=⟨u⟩) (A:=ks L++c.b8) ej.ex fI (show o+1<=cs.size by omega) ⟨akf ba,hu⟩
 refine⟨v,?_,(aaz.1 aB).1⟩
 have aV:a.eval x=_:=au a W s
 simp[execOp,Instr.loadAt,Instr.sureAddr,aV,ad]
def ae.yh{t:bJ}{rest:aa Oper}{i p o:Nat}{β γ:Type}[ak β][ak γ]{b b':β}{v:γ}{os:aa (Nat×br)}(l:aP β γ)(ej:bU c.P t γ)(au:aU c E L x (.eq (.pointer (some ⟨p,o,none⟩))))
 (aR:aU c E L y (.of v)) (ar:L[i]? =some ⟨some p,.cu b os⟩) (a6:o=l.off) (hb:l.set b v=b') (aY:vv os l.off (ak.size γ)=true)
 (k:ae c ops Q rest E (L.set i ⟨some p,.cu b' os⟩)):ae c ops Q (⟨none,.store t x y,ty,pos,af,none⟩::rest) E L:=λa W s=>by
 subst a6
 subst hb
 obtain⟨rR,fI,cs,T,rfl,h4⟩:=s.own _ (fB ar)
 have h1:cs.toList.length=ak.size β:=h4.len
 have hf:=l.h7
 have bc:=aR a W s
 have ad:=Lf (A:=ks L++c.b8) ej fI (off:=l.off) (by simp at h1;omega) bc
 have aV:a.eval x=_:=au a W s
 refine jm I (R:=λv W'=>W'=W.setRow p (h0 cs.toList l.off (a.eval y).cells.toList).toArray) (.DE ?_ I) λv W' hw=>?_
 ·simp[execOp,Instr.storeAt,Instr.sureAddr,aV,ad]
 subst hw
 exact k _ _ (s.store ar fI ⟨_,T,rfl,by rw[List.toList_toArray];exact Xv l h4 bc.2 aY⟩)
def ae.j3{t:bJ}{rest:aa Oper}{i p o:Nat}{β γ:Type}[ak β][ak γ]{b b':β}{u:br}{os os':aa (Nat×br)}(l:aP β (aa γ))(ej:bU c.P t (aa γ))(au:aU c E L x (.eq (.pointer (some ⟨p,o,none⟩))))
 (aR:aU c E L y (.eq u)) (hu:u.oneCell'=true) (ar:L[i]? =some ⟨some p,.cu b os⟩) (a6:o=l.off) (hb:l.set b []=b') (sB:ye os o u=os')
 (k:ae c ops Q rest E (L.set i ⟨some p,.cu b' os'⟩)):ae c ops Q (⟨none,.store t x y,ty,pos,af,none⟩::rest) E L:=λa W s=>by
 subst a6
 subst hb
 subst sB
 obtain⟨rR,fI,cs,T,rfl,h4⟩:=s.own _ (fB ar)
 have h1:cs.toList.length=ak.size β:=h4.len
 have hf:l.off+1<=ak.size β:=l.h7
 have acQ:a.eval y=u:=aR a W s
 have bc:(J.of (⟨u⟩:h9)).holds (ks L++c.b8) W (a.eval y):=aaz.2 ⟨acQ,hu⟩
 have ad:=Lf (A:=ks L++c.b8) ej.ex fI (off:=l.off) (show l.off+1<=cs.size by simp at h1;omega) bc
 have aV:a.eval x=_:=au a W s
 have n9:(a.eval y).cells.toList=[u]:=by rw[acQ,cells_one hu]
 rw[n9]at ad
 refine jm I (R:=λv W'=>W'=W.setRow p (h0 cs.toList l.off [u]).toArray) (.DE ?_ I) λv W' hw=>?_
 ·simp[execOp,Instr.storeAt,Instr.sureAddr,aV,ad]
 subst hw
 exact k _ _ (s.store ar fI ⟨_,T,rfl,by rw[List.toList_toArray];exact W4 l h4 hu⟩)
def afY{P:Program}{W:bo}{b off:Nat}{cur:Array br}{T t:bJ}{α:Type}[ak α]{v:br}(ty:bU P t α)
 (hb:W.heap[b]? =some (.cells cur T (0,0))) (hs:off+ak.size α<=cur.size) (an:v.cells.toList.length=ak.size α) (h1:∀u∈v.cells.toList,u.oneCell'=true):
 (storeVar t ⟨b,off,none⟩ v).run P W=.ok () (W.setRow b (h0 cur.toList off v.cells.toList).toArray):=by
 have ad:=FN P b off T v.cells.toList 0 cur W hb (by rw[an];omega) h1
 have ee:v.cells.size=ak.size α:=by simpa using an
 simp only[Nat.add_zero]at ad
 simp only[storeVar,eg,ty.sizeOf,Result.andThen_ok,ee]
 simp only[ne_eq,not_true_eq_false,↓reduceIte,Sem.run_pure,eg,Result.andThen_ok]
 simpa[h0]using ad
def ae.wK{t:bJ}{rest:aa Oper}{i p:Nat}{β:Type}[ak β]{b b':β}{os os':aa (Nat×br)}(ej:bU c.P t β)(au:aU c E L x (.eq (.pointer (some ⟨p,0,none⟩))))
 (aR:aU c E L y (.Tu b' os')) (ar:L[i]? =some ⟨some p,.cu b os⟩)
 (k:ae c ops Q rest E (L.set i ⟨some p,.cu b' os'⟩)):ae c ops Q (⟨none,.store t x y,ty,pos,af,none⟩::rest) E L:=λa W s=>by
 obtain⟨rR,fI,cs,T,rfl,h4⟩:=s.own _ (fB ar)
 have h1:cs.toList.length=ak.size β:=h4.len
 obtain⟨g1,g2⟩:=aR a W s
 have an:=g2.len
 have ad:=afY ej fI (off:=0) (by simp at h1;omega) an g2.one
 have aV:a.eval x=_:=au a W s
 have e:h0 cs.toList 0 (a.eval y).cells.toList=(a.eval y).cells.toList:=by
  unfold h0;rw[List.take_zero,List.nil_append,kR,an,<-h1,r2,ot]
 rw[e]at ad
 refine jm I (R:=λv W'=>W'=W.setRow p (a.eval y).cells.toList.toArray) (.DE ?_ I) λv W' hw=>?_
 ·simp[execOp,Instr.storeAt,Instr.sureAddr,aV,ad]
 subst hw
 exact k _ _ (s.store ar fI ⟨_,T,rfl,by rw[List.toList_toArray];exact g2⟩)
def jq{p:Addr}(au:aU c E L x (.eq (.pointer (some p)))):bj c E L ⟨d,.nilCheck x,ty,pos,af,g⟩ (.eq (.pointer (some p))):=.pure λa W s=>by
 have aV:a.eval x=_:=au a W s;exact⟨_,by simp[execOp,aV],rfl⟩
def ali{γ:Type}[ak γ]{r:γ}(au:aU c E L x (.ptr r)):bj c E L ⟨d,.nilCheck x,ty,pos,af,g⟩ (.ptr r):=.pure λa W s=>by
 have hp:=au a W s;obtain⟨b,off,cur,T,il,aV,ba⟩:=hp;exact⟨_,by simp[execOp,aV],b,off,cur,T,il,rfl,ba⟩
def bO.nx{a:Act}{W:bo}(s:bO c E L a W){i j p cap T:Nat}{key:aE Nat}{β γ:Type}[ak β][ak γ]{b b':β}{xs:aa γ}{os os':aa (Nat×br)}(l:aP β (aa γ))(gh:i≠j)(ar:L[i]? =some ⟨some p,.cu b os⟩)(tN:L[j]? =some ⟨key,.row T xs cap⟩)
 (q:Nat) (hq:os[q]? =some (l.off,aQ key xs.length cap)) (hb:l.set b xs=b') (sB:vn os l.off=os'):bO c E ((L.set j ⟨none,.dead⟩).set i ⟨some p,.cu b' os'⟩) a W:=by
 subst hb
 subst sB
 have hk:=s.kill j
 have aq:(L.set j ⟨none,.dead⟩)[i]? =some ⟨some p,.cu b os⟩:=by rw[xJ (λe=>gh e.symm)];exact ar
 have oJ:=De (L:=L) (i:=j) (cp:=.dead)
 have qU:rT (ks (L.set j ⟨none,.dead⟩)++c.b8) W (aQ key xs.length cap) xs:=by
  have a6:=s.own _ (fB tN);cases key with
  |none=>exact .inl ⟨rfl,a6.1⟩
  | some p=>
    obtain⟨o,fI,cs,rfl,ee,aM,Br,aG⟩:=a6
    obtain⟨aB,aV⟩:=PI ee aM aG
    refine .inr ⟨p,0,cap,cs,T,(0,0),rfl,s.HO tN,fI,aM,by omega,aB,?_⟩
    exact aV.mono (.drop λk hm=>by
     rcases cF.1 hm with hm|hm
     ·exact cF.2 (.inl (oJ.subset hm))
     exact cF.2 (.inr hm))
 exact hk.Ie aq (λo ⟨cs,T,h1,ad⟩=>⟨cs,T,h1,W5 l ad (fB hq) qU⟩) id
def ae.nx{J3:aa Oper}{p cap T:Nat}{key:aE Nat}{β γ:Type}[ak β][ak γ]{b b':β}{xs:aa γ}{os os':aa (Nat×br)}(l:aP β (aa γ))(i j q:Nat)(gh:Nat.beq i j=false)(ar:L[i]? =some ⟨some p,.cu b os⟩)(tN:L[j]? =some ⟨key,.row T xs cap⟩)
 (hq:os[q]? =some (l.off,aQ key xs.length cap)) (hb:l.set b xs=b') (sB:vn os l.off=os') (k:ae c ops Q J3 E ((L.set j ⟨none,.dead⟩).set i ⟨some p,.cu b' os'⟩)):ae c ops Q J3 E L:=
 λa W s=>k a W (s.nx l (λe=>by rw[e,nh]at gh;cases gh) ar tN q hq hb sB)
def bO.MK{a:Act}{W:bo}(s:bO c E L a W){i j p cap T gY:Nat}{key:aE Nat}{β γ:Type}[ak β][ak γ]{b b':β}{xs:aa γ}{os os':aa (Nat×br)}(l:aP β (aa γ))(gh:i≠j)(ar:L[i]? =some ⟨some p,.cu b os⟩)(tN:L[j]? =some ⟨key,.row T xs cap⟩)
 (q:Nat) (hq:os[q]? =some (l.off,aQ key xs.length cap)) (hb:l.set b xs=b') (sB:vn os l.off=os') (qU:look E gY=some (.eq (aQ key xs.length cap))):bO c ((gY,.of xs)::E) ((L.set j ⟨none,.dead⟩).set i ⟨some p,.cu b' os'⟩) a W:=by
 have h1:=s.freeze qU tN
 subst hb
 subst sB
 have aq:(L.set j ⟨none,.dead⟩)[i]? =some ⟨some p,.cu b os⟩:=by rw[xJ (λe=>gh e.symm)];exact ar
 obtain⟨v,ad,aB⟩:=h1.env gY (.of xs) (by simp[look,nh])
 obtain⟨zl,aV,ba⟩:=s.env gY _ qU
 rw[ad]at aV
 cases aV
 have ba:v=_:=ba
 subst ba
 exact h1.Ie aq (λo ⟨cs,T,g1,g2⟩=>⟨cs,T,g1,W5 l g2 (fB hq) (qw.1 aB)⟩) id
def al.MK{z:Exit}{p cap T:Nat}{key:aE Nat}{β γ:Type}[ak β][ak γ]{b b':β}{xs:aa γ}{os os':aa (Nat×br)}(l:aP β (aa γ))(i j q gY:Nat)(gh:Nat.beq i j=false)(ar:L[i]? =some ⟨some p,.cu b os⟩)(tN:L[j]? =some ⟨key,.row T xs cap⟩)
 (hq:os[q]? =some (l.off,aQ key xs.length cap)) (hb:l.set b xs=b') (sB:vn os l.off=os') (qU:look E gY=some (.eq (aQ key xs.length cap))) (k:al c Q z ((gY,.of xs)::E) ((L.set j ⟨none,.dead⟩).set i ⟨some p,.cu b' os'⟩)):al c Q z E L:=
 λa W s=>k a W (s.MK l (λe=>by rw[e,nh]at gh;cases gh) ar tN q hq hb sB qU)
inductive ym(c:cP)(E:List (Nat×J))(L:List aK)(place:Nat->Option (Nat×Nat)){β:Type}[ak β]:β->List (Nat×Value)->List (Nat×Operand)->β->List (Nat×Value)->Prop
 |nil {b os}:ym c E L place b os [] b os
 |cons {b dL b':β} {os os':List (Nat×Value)} {γ:Type} [ak γ] {v:γ} {i:Nat} {x:Operand} {r:List (Nat×Operand)} (l:aP β γ):place i=some (l.off,ak.size γ)->aU c E L x (.of v)->l.set b v=dL->vv os l.off (ak.size γ)=true->ym c E L place dL os r b' os'->ym c E L place b os ((i,x)::r) b' os'
 |hole {b dL b':β} {os Tv os':List (Nat×Value)} {γ:Type} [ak γ] {u:Value} {i:Nat} {x:Operand} {r:List (Nat×Operand)} (l:aP β (List γ)):place i=some (l.off,1)->aU c E L x (.eq u)->u.oneCell'=true->l.set b []=dL->ye os l.off u=Tv->ym c E L place dL Tv r b' os'->ym c E L place b os ((i,x)::r) b' os'
def ym.run{place:Nat->aE (Nat×Nat)}{β:Type}[ak β]{b b':β}{os os':aa (Nat×br)}{ev:aa (Nat×cw)}(h:ym c E L place b os ev b' os'):∀a W,bO c E L a W->∀cs:Array br,n2 (ks L++c.b8) W cs.toList b os->
 ∃ff,Instr.fill place cs (ev.map λ(i,x)=>(i,a.eval x))=some ff∧n2 (ks L++c.b8) W ff.toList b' os':=by
 induction h with
 |nil=>intro a W s cs aG;exact⟨cs,rfl,aG⟩
 | @cons b dL b' os os' γ _ v i x r l h1 ad aB aV _ cg=>
   intro a W s cs aG
   subst aB
   have bc:=ad a W s
   have ee:(a.eval x).cells.size=ak.size γ:=by have:=ak.len bc.2;simpa using this
   have an:cs.toList.length=ak.size β:=aG.len
   have hf:=l.h7
   rw[nS,LO h1 ee (by simp at an;omega)]
   refine cg a W s _ ?_
   have:=Xv l aG bc.2 aV
   simpa[h0,ak.len bc.2]using this
 | @hole b dL b' os Tv os' γ _ u i x r l h1 ad aB aV ba _ cg=>
   intro a W s cs aG
   subst aV
   subst ba
   have bc:a.eval x=u:=ad a W s
   have ag:(a.eval x).cells.toList=[u]:=by rw[bc,cells_one aB]
   have ee:(a.eval x).cells.size=1:=by have:=eG List.length ag;simpa using this
   have an:cs.toList.length=ak.size β:=aG.len
   have hf:l.off+1<=ak.size β:=l.h7
   rw[nS,LO h1 ee (by simp at an;omega)]
   refine cg a W s _ ?_
   have:=W4 l aG aB
   simpa[h0,ag]using this
def tZ{β:Type}[ak β]{z b:β}{ev:aa (Nat×cw)}{pl:Array (Nat×Nat)}{os:aa (Nat×br)}(uH:aa Nat)(xB:kP c.P t uH)(aY:ak.agg β=true)(JZ:gF c.P t pl)(hS:dH c.P t z)
 (aW:ym c E L (pl[·]?) z (uH.map λo=>(o,mo)) ev b os):bj c E L ⟨d,.build t ev.toArray,ty,pos,af,g⟩ (.Tu b os):=.pure λa W s=>by
 obtain⟨fs,hu,hs,rfl⟩:=JZ.at_
 obtain⟨i,eB,h1,ad,aB⟩:=hS.zero
 have bT:∀o∈uH,eB.cells.toList[o]? =some mo:=λo a6=>by
  unfold kP at xB;rw[h1]at xB;simp only[Option.bind_some,ad,Option.any_some]at xB;exact WC (lk.1 xB o a6)
 obtain⟨ff,aV,ba⟩:=aW.run a W s eB.cells ⟨by
  rw[PR λh hm=>by obtain⟨o,a6,rfl⟩:=ic.1 hm;exact bT o a6];exact(aB _ _).2,λh hm=>by obtain⟨o,a6,rfl⟩:=ic.1 hm;exact⟨bT o a6,rfl⟩⟩
 refine⟨.agg ff,?_,by simp[shaped,aY],by simpa[Value.cells]using ba⟩
 have hm:(ev.toArray.map λ(x:Nat×cw)=>(x.1,a.eval x.2)).toList=ev.map λ(i,x)=>(i,a.eval x):=by simp
 simp only[execOp,Instr.build,eg,zeroValue,typeInfo,run_program,Result.andThen_ok,h1,ad,Sem.run_pure,ep hu,We fs hs]
 rw[hm,aV]
 rfl
def Bw{α:Type}[Inhabited α](bytes:Nat)(n:Int):aE (aa α):=if 0<=n∧n<=140737488355328∧bytes*n<=140737488355328 then some (List.replicate n.toNat default)else none
def aiS{α:Type}[Inhabited α]{bytes:Nat}{n:Int}{r:aa α}(h:Bw bytes n=some r):0<=n∧n<=140737488355328∧bytes*n<=140737488355328∧List.replicate n.toNat default=r:=by
 unfold Bw at h;split at h
 ·rename_i ag;exact⟨ag.1,ag.2.1,ag.2.2,dt h⟩
 cases h
def ae.acu{α:Type}[ak α][Inhabited α]{rest:aa Oper}{bb e bytes:Nat}{r:aa α}{n:Int}(hu:c.P.underlying t=some (.slice e))(e1:bU c.P e α)(hS:dH c.P e (default:α))(hs:Nat.beq (ak.size α) 0=false)(hb:(c.P.info? e).map (·.bytes)=some bytes)
 (au:aU c E L x (.of n)) (aR:aU c E L y (.of n)) (hm:Bw bytes n=some r) (jz:Nat.blt bb c.n=true) (k:∀p,ae c ops Q rest ((bb,.eq (aQ p r.length r.length))::E) (⟨p,.row e r r.length⟩::L)):
 ae c ops Q (⟨some bb,.makeSlice t x y,ty,pos,af,none⟩::rest) E L:=λa W s=>by
 obtain⟨bC,aM,auA,rfl⟩:=aiS hm
 obtain⟨m,rfl⟩:=pK bC
 obtain⟨hE,eB,eo,bV,vR⟩:=hS.zero
 have qI:hE.size=ak.size α:=by
  obtain⟨i2,h1,ad⟩:=e1.info;rw[eo]at h1;cases h1;exact ad
 have By:hE.bytes=bytes:=by rw[eo]at hb;simpa using hb
 have jx:ak.size α≠0:=λh=>by rw[h]at hs;cases hs
 have uK:=HG (vR (ks L++c.b8) W) m jx
 have h1:=of_int.1 (au a W s)
 have ad:=of_int.1 (aR a W s)
 have hw:IntKind.i64.wrap (m:Int)=m:=by have:bm (m:Int)=m:=gQ (by omega) (by omega);exact this
 have hp:(2:Int)^48=281474976710656:=by decide
 simp only[Int.toNat_natCast,Fj]at k
 generalize kZ:(Array.range (m*ak.size α)).map (eB.cells[· % eB.cells.size]!)=D at uK
 refine jm I (R:=λv W'=>v=.slice (some ⟨W.heap.size,0,none⟩) m m∧W'=W.alloc (.cells D e)) (.mR (v:=.slice (some ⟨W.heap.size,0,none⟩) m m) (W':=W.alloc (.cells D e)) ?_ ⟨rfl,rfl⟩) λv W' ⟨aB,aV⟩=>?_
 ·have dv:((decide ((m:Int)<0)||decide ((hE.bytes:Int)*m>2^48))||decide ((m:Int)<0)||decide ((m:Int)>m))=false:=by
   rw[By,hp];simp;omega
  have NA:((Array.range (m*hE.size)).map λi=>(if m*hE.size=0 then(#[]:Array br)else eB.cells)[i % (if m*hE.size=0 then(#[]:Array br)else eB.cells).size]!)=D:=by
   rw[<-kZ,qI];by_cases h8:m*ak.size α=0
   ·rw[h8];simp
   simp only[bf h8]
  have aY:(asInt (.int .i64 (m:Int)):Sem Int).run c.P W=.ok (m:Int) W:=by simp[asInt,asIntOf]
  simp only[execOp,Instr.makeSlice,eg,ep hu,Result.andThen_ok,h1,ad,aY,Sem.run_pure,typeInfo,run_program,eo,hw,dv,sR,ou,run_askRoom,Go.sizeOf,Int.toNat_natCast]
  by_cases h8:m*hE.size=0
  ·simp only[h8,lX,Sem.run_pure,Result.andThen_ok,eg,newRow]at NA⊢
   rw[NA]
   simp
  simp only[h8,ou,Sem.run_pure,Result.andThen_ok,eg,newRow,zeroValue,typeInfo,run_program,eo,bV]at NA⊢
  rw[NA]
  simp
 subst aB aV
 have yD:m<=maxLen:=by
  have:maxLen=9223372036854775807:=rfl;omega
 have ee:D.size=m*ak.size α:=by have:=uK.1;simpa using this
 have cv:=s.alloc (o:=.cells D e) (cp:=.row e (List.replicate m (default:α)) m) ⟨D,rfl,ee,by simp,yD,by
  have bq:=uK.1;rw[Fj]at bq⊢;rw[<-bq,iD];exact uK⟩
 exact k (some W.heap.size) _ _ (cv.put (τ:=.eq (aQ (some W.heap.size) m m)) (by simpa using jz) I)
def al.ns{fn:Func}{δ:Type}{ρ:δ->J}{Lo:δ->aa aK}(bb:δ)(hs:(Lo bb).Sublist L)(aG:fn.results= #[])(sy:ρ bb=.bW [])(eR:c.ds=[]:=by rfl):al c (bodyPost c.P fn (k6 c.X c.b8 c.kc ρ Lo)) .ret E L:=λa W s=>
 ⟨s.Ax eR,.tuple #[],by simp[Am,aG],s.ends bb hs (by rw[sy];exact⟨_,rfl,.nil⟩)⟩
end
abbrev Hid:=Nat->aE Nat
def cJ(l:aa (aE Nat)):Hid:=λi=>(l[i]?).getD none
structure dU where
 slot:Option Nat
 up:List Nat
 rd:List Nat
 wr:List Nat
 τ:(Nat->Hid)->J
 dr:(Nat->Hid)->Nat->aK
def iA(up:aa Nat)(i:Nat)(hd:Nat->Hid):Nat->Hid:=λj=>bif Nat.beq j i||up.any (λk=>Nat.beq k j)then hd j else λ_=>none
def nF(hd:Nat->Hid)(i:Nat)(x:Hid):Nat->Hid:=λj=>bif Nat.beq j i then x else hd j
def ahS{up:aa Nat}{i:Nat}{hd hd':Nat->Hid}(h:hd i=hd' i)(cU:∀k∈up,hd k=hd' k):iA up i hd=iA up i hd':=by
 funext j;unfold iA;cases h1:Nat.beq j i
 ·cases ad:up.any (λk=>Nat.beq k j)
  ·rfl
  obtain⟨k,hk,he⟩:=oo.1 ad;have:=fa.1 he;subst this;simp only[r3,cond_true];exact cU k hk
 have:=fa.1 h1;subst this;simp only[Pq,cond_true];exact h
def p0:aa aK->(Nat->aK)->aa Nat->aa aK
 |L,_,[]=>L
 |L,f,j::r=>p0 (L.set j (f j)) f r
def Wo:∀{L:aa aK} {f:Nat->aK} {js:aa Nat},(p0 L f js).length=L.length
 |_,_,[]=>rfl
 |L,f,j::r=>by rw[p0,Wo,xP]
def Qd:∀{L:aa aK} {f:Nat->aK} {js:aa Nat} (i:Nat),(p0 L f js)[i]? =if js.contains i=true then L[i]?.map (λ_=>f i)else L[i]?
 |_,_,[],i=>by simp[p0]
 | L,f,j::r,i=>by
   rw[p0,Qd i];by_cases h:j=i
   ·subst h;simp only[Vl,BEq.rfl,Pq,lX,qn];by_cases an:j<L.length
    ·simp[an]
    simp[an]
   have hb:(i==j)=false:=by simp;exact λe=>h e.symm
   rw[Vl,hb,r3,xJ h]
def ht(ls:Nat->Bool)(hd:Nat->Hid):Nat->aa dU->aa aK->aa aK
 |_,[],L=>L
 |k,h::r,L=>ht ls hd (k+1) r (bif ls k then p0 L (h.dr (iA h.up k hd)) h.wr else L)
def iU(ls:Nat->Bool)(hd:Nat->Hid)(E:aa (Nat×J)):Nat->aa dU->aa (Nat×J)
 |_,[]=>E
 | k,h::r=>match ls k,h.slot with
   |true,some s=>(s,h.τ (iA h.up k hd))::iU ls hd E (k+1) r
   |_,_=>iU ls hd E (k+1) r
def oK(ls:Nat->Bool)(hd:Nat->Hid)(j:Nat):Nat->aa dU->aE aK->aE aK
 |_,[],v=>v
 |k,h::r,v=>oK ls hd j (k+1) r (bif ls k&&h.wr.contains j then v.map (λ_=>h.dr (iA h.up k hd) j)else v)
def Mo{ls:Nat->Bool}{hd:Nat->Hid}(j:Nat):∀{k:Nat} {hs:aa dU} {L:aa aK},(ht ls hd k hs L)[j]? =oK ls hd j k hs L[j]?
 |_,[],_=>rfl
 | k,h::r,L=>by
   rw[ht,oK,Mo j];congr 1;cases ls k
   ·rfl
   simp only[cond_true,qp];rw[Qd];cases h.wr.contains j <;> rfl
def PX{ls:Nat->Bool}{hd:Nat->Hid}{j:Nat}:∀{k:Nat} {hs:aa dU} {v:aE aK},(∀m h,hs[m]? =some h->h.wr.contains j=true->ls (k+m)=false)->oK ls hd j k hs v=v
 |_,[],_,_=>rfl
 | k,h::r,v,aM=>by
   rw[oK,PX λm x hm au=>by have:=aM (m+1) x (by simpa using hm) au;rw[<-this];congr 1;omega];cases hw:h.wr.contains j
   ·simp
   have:=aM 0 h I hw;simp only[Nat.add_zero]at this;rw[this];rfl
def PJ{ls:Nat->Bool}{hd:Nat->Hid}{j:Nat}:∀{k:Nat} {hs rs:aa dU} {v:aE aK},oK ls hd j k (hs++rs) v=oK ls hd j (k+hs.length) rs (oK ls hd j k hs v)
 |_,[],_,_=>rfl
 | k,h::r,rs,v=>by
   rw[List.cons_append,oK,PJ,oK,List.length_cons];congr 1;omega
def Lz{ls ls':Nat->Bool}{hd hd':Nat->Hid}{j:Nat}:∀{k:Nat} {hs:aa dU} {v:aE aK},(∀m h,hs[m]? =some h->h.wr.contains j=true->ls (k+m)=ls' (k+m)∧(ls (k+m)=true->iA h.up (k+m) hd=iA h.up (k+m) hd'))->oK ls hd j k hs v=oK ls' hd' j k hs v
 |_,[],_,_=>rfl
 | k,h::r,v,aM=>by
   have cg:=Lz (ls:=ls) (ls':=ls') (hd:=hd) (hd':=hd') (j:=j) (k:=k+1) (hs:=r) (v:=bif ls k&&h.wr.contains j then v.map (λ_=>h.dr (iA h.up k hd) j)else v) λm x hm au=>by
    have:=aM (m+1) x (by simpa using hm) au;rw[show k+1+m=k+(m+1) by omega];exact this
   rw[oK,oK,cg];congr 1;cases hw:h.wr.contains j
   ·simp
   have:=aM 0 h I hw;simp only[Nat.add_zero]at this;rw[<-this.1];cases an:ls k
   ·rfl
   rw[this.2 an]
def PY{ls:Nat->Bool}{hd:Nat->Hid}{E:aa (Nat×J)}{t:Nat}:∀{k:Nat} {hs:aa dU},(∀(m:Nat) (h:dU),hs[m]? =some h->ls (k+m)=true->h.slot≠some t)->look (iU ls hd E k hs) t=look E t
 |_,[],_=>rfl
 | k,h::r,aM=>by
   have cg:=PY (ls:=ls) (hd:=hd) (E:=E) (t:=t) (k:=k+1) (hs:=r) λm x hm an=>aM (m+1) x (by simpa using hm) (by rw[<-an];congr 1;omega);unfold iU;split
   ·rename_i s h1 ad;have di:Nat.beq s t=false:=by
     cases hb:Nat.beq s t
     ·rfl
     have:=fa.1 hb;subst this;exact absurd ad (aM 0 h I h1)
    simp only[look,di,cond_false];exact cg
   exact cg
def Qe{ls:Nat->Bool}{hd:Nat->Hid}{E:aa (Nat×J)}{s:Nat}:∀{k:Nat} {hs:aa dU} {j:Nat} {h:dU},hs[j]? =some h->ls (k+j)=true->h.slot=some s->(∀m x,hs[m]? =some x->x.slot=some s->m=j)->look (iU ls hd E k hs) s=some (h.τ (iA h.up (k+j) hd))
 |_,[],_,_,h,_,_,_=>by simp at h
 | k,x::r,0,h,aC,an,hs,_=>by
   simp only[List.getElem?_cons_zero,gl]at aC;subst aC;simp only[Nat.add_zero]at an;unfold iU;rw[an,hs];simp[look,nh]
 | k,x::r,j+1,h,aC,an,hs,hu=>by
   have cg:=Qe (ls:=ls) (hd:=hd) (E:=E) (s:=s) (k:=k+1) (hs:=r) (j:=j) (h:=h) (by simpa using aC) (by rw[<-an];congr 1;omega) hs λm y hm aR=>by
    have:=hu (m+1) y (by simpa using hm) aR;omega
   rw[show k+1+j=k+(j+1) by omega]at cg;unfold iU;split
   ·rename_i cv h1 ad;have di:Nat.beq cv s=false:=by
     cases hb:Nat.beq cv s
     ·rfl
     have:=fa.1 hb;subst this;have:=hu 0 x I ad;omega
    simp only[look,di,cond_false];exact cg
   exact cg
def Xw{ls:Nat->Bool}{hd:Nat->Hid}{E:aa (Nat×J)}{t:Nat}{τ:J}:∀{k:Nat} {hs:aa dU},look (iU ls hd E k hs) t=some τ->(∃(j:Nat) (h:dU),hs[j]? =some h∧ls (k+j)=true∧h.slot=some t∧τ=h.τ (iA h.up (k+j) hd))∨(look E t=some τ∧∀(m:Nat) (h:dU),hs[m]? =some h->ls (k+m)=true->h.slot≠some t)
 |_,[],h=>.inr ⟨h,λm h hm=>by simp at hm⟩
 | k,x::r,h=>by
   unfold iU at h;have go:(ls k=true->x.slot≠some t)->look (iU ls hd E (k+1) r) t=some τ->(∃(j:Nat) (h:dU),(x::r)[j]? =some h∧ls (k+j)=true∧h.slot=some t∧τ=h.τ (iA h.up (k+j) hd))∨(look E t=some τ∧∀(m:Nat) (h:dU),(x::r)[m]? =some h->ls (k+m)=true->h.slot≠some t):=λau h=>by
    rcases Xw h with⟨j,y,h1,ad,aB,aV⟩|⟨h1,ad⟩
    ·exact .inl ⟨j+1,y,by simpa using h1,by rw[<-ad];congr 1;omega,aB,by rw[aV];congr 2;omega⟩
    refine .inr ⟨h1,λm y hm an=>?_⟩;cases m with
    |zero=>simp only[List.getElem?_cons_zero,gl]at hm;subst hm;exact au an
    |succ m=>exact ad m y (by simpa using hm) (by rw[<-an];congr 1;omega)
   split at h
   ·rename_i s h1 ad;simp only[look]at h;by_cases e:Nat.beq s t=true
    ·rw[e]at h;simp only[cond_true,gl]at h;have:=fa.1 e;subst this;exact .inl ⟨0,x,rfl,h1,ad,h.symm⟩
    rw[jk]at e;rw[e]at h;exact go (λ_ jx=>by rw[ad]at jx;cases jx;rw[nh]at e;cases e) h
   rename_i fJ;exact go (λan jx=>fJ t an jx) h
def kL(hd:Nat->Hid)(hs:aa dU)(E:aa (Nat×J)):aa Nat->aa (Nat×J)
 |[]=>E
 | j::r=>match hs[j]? with
   | some h=>match h.slot with
     |some s=>(s,h.τ (iA h.up j hd))::kL hd hs E r
     |none=>kL hd hs E r
   |none=>kL hd hs E r
def Yw{hd:Nat->Hid}{hs:aa dU}{E:aa (Nat×J)}{t:Nat}{τ:J}:∀{ds:aa Nat},look (kL hd hs E ds) t=some τ->(∃j∈ds,∃h:dU,hs[j]? =some h∧h.slot=some t∧τ=h.τ (iA h.up j hd))∨look E t=some τ
 |[],h=>.inr h
 | j::r,h=>by
   have go:look (kL hd hs E r) t=some τ->(∃i∈j::r,∃h:dU,hs[i]? =some h∧h.slot=some t∧τ=h.τ (iA h.up i hd))∨look E t=some τ:=λh=>by
    rcases Yw h with⟨i,h1,ad⟩|h1
    ·exact .inl ⟨i,by simp[h1],ad⟩
    exact .inr h1
   unfold kL at h;split at h
   ·rename_i x au;split at h
    ·rename_i s qU;simp only[look]at h;by_cases e:Nat.beq s t=true
     ·rw[e]at h;simp only[cond_true,gl]at h;have:=fa.1 e;subst this;exact .inl ⟨j,by simp,x,au,qU,h.symm⟩
     simp only[jk]at e;rw[e]at h;exact go h
    exact go h
   exact go h
def yy(E:aa (Nat×J))(v:br):aa Nat->Prop
 |[]=>True
 |s::r=>look E s=some (.eq v)∧yy E v r
def yy.get{E:aa (Nat×J)}{v:br}:∀{ga:aa Nat},yy E v ga->∀s∈ga,look E s=some (.eq v)
 | _::_,h,s,hs=>by
   rcases dP.1 hs with rfl|hs
   ·exact h.1
   exact yy.get h.2 s hs
def BD(τ:J)(E:aa (Nat×J)):aa Nat->aa (Nat×J)
 |[]=>E
 |s::r=>(s,τ)::BD τ E r
def Xx{τ:J}{E:aa (Nat×J)}{t:Nat}{σ:J}:∀{ga:aa Nat},look (BD τ E ga) t=some σ->(t∈ga∧σ=τ)∨look E t=some σ
 |[],h=>.inr h
 | s::r,h=>by
   simp only[BD,look]at h;by_cases e:Nat.beq s t=true
   ·rw[e]at h;simp only[cond_true,gl]at h;have:=fa.1 e;subst this;exact .inl ⟨by simp,h.symm⟩
   simp only[jk]at e;rw[e]at h;rcases Xx h with⟨h1,ad⟩|h1
   ·exact .inl ⟨by simp[h1],ad⟩
   exact .inr h1
def Bf{w:Nat}(a b:BitVec w):BitVec w:=if a<=b then a else b
def sl:aE Nat->J->aa (Nat×J)->aa (Nat×J)
 |some s,τ,E=>(s,τ)::E
 |none,_,E=>E
section
variable{c:cP}{E:aa (Nat×J)}{L:aa aK}{ops:Array Oper}{Q:Exit->Act->bo->Prop}
def bO.kC{a:Act}{W:bo}{α:Type}[ak α]{i cap T:Nat}{ga:aa Nat}{key:aE Nat}{xs:aa α}(h:bO c E L a W)(an:yy E (aQ key xs.length cap) ga)(ar:L[i]? =some ⟨key,.row T xs cap⟩):
 bO c (BD (.of xs) E ga) (L.set i ⟨none,.dead⟩) a W:=by
 have hk:=h.kill i
 refine {hk with env:=λt τ fm=>?_}
 rcases Xx fm with⟨hm,rfl⟩|h1
 ·obtain⟨v,h1,ad⟩:=h.env t _ (an.get t hm)
  refine⟨v,h1,qw.2 ?_⟩
  have l0:v=aQ key xs.length cap:=ad
  subst l0
  have a6:=h.own _ (fB ar)
  cases key with
  |none=>exact .inl ⟨rfl,a6.1⟩
  | some p=>
    obtain⟨o,fI,cs,rfl,ee,aM,Br,aG⟩:=a6
    obtain⟨aB,aV⟩:=PI ee aM aG
    refine .inr ⟨p,0,cap,cs,T,(0,0),rfl,h.HO ar,fI,aM,by omega,aB,?_⟩
    have oJ:=De (L:=L) (i:=i) (cp:=.dead)
    exact aV.mono (.drop λk hm=>by
     rcases cF.1 hm with hm|hm
     ·exact cF.2 (.inl (oJ.subset hm))
     exact cF.2 (.inr hm))
 exact hk.env t τ h1
def ae.kC{l:aa Oper}{α:Type}[ak α]{key:aE Nat}{xs:aa α}{cap T:Nat}(i:Nat)(ga:aa Nat)(an:yy E (aQ key xs.length cap) ga)(ar:L[i]? =some ⟨key,.row T xs cap⟩)
 (k:ae c ops Q l (BD (.of xs) E ga) (L.set i ⟨none,.dead⟩)):ae c ops Q l E L:=λa W st=>k a W (st.kC an ar)
def al.kC{x:Exit}{α:Type}[ak α]{key:aE Nat}{xs:aa α}{cap T:Nat}(i:Nat)(ga:aa Nat)(an:yy E (aQ key xs.length cap) ga)(ar:L[i]? =some ⟨key,.row T xs cap⟩)
 (k:al c Q x (BD (.of xs) E ga) (L.set i ⟨none,.dead⟩)):al c Q x E L:=λa W st=>k a W (st.kC an ar)
def ay.kC{code:Code}{α:Type}[ak α]{key:aE Nat}{xs:aa α}{cap T:Nat}(i:Nat)(ga:aa Nat)(an:yy E (aQ key xs.length cap) ga)(ar:L[i]? =some ⟨key,.row T xs cap⟩)
 (k:ay c Q code (BD (.of xs) E ga) (L.set i ⟨none,.dead⟩)):ay c Q code E L:=λa W st=>k a W (st.kC an ar)
def ey(c:cP)(ops:Array Oper)(Q:Exit->Act->bo->Prop)(hs:aa dU)(E:aa (Nat×J))(L:aa aK)(i:Nat)(o:Oper)(h:dU):Prop:=
 ∀ (hd:Nat->Hid) (E':aa (Nat×J)) (L':aa aK),(∀t τ,look (kL hd hs E h.up) t=some τ->look E' t=some τ)->
   (∀j e,(ht (λ_=>true) hd 0 (hs.take i) L)[j]? =some e->h.rd.contains j=true->L'[j]? =some e)->
   ae c ops (qk (λa W=> ∃x,bO c (sl h.slot (h.τ (iA h.up i (nF hd i x))) E') (p0 L' (h.dr (iA h.up i (nF hd i x))) h.wr) a W) Q) [o] E' L'
def DT(c:cP)(ops:Array Oper)(Q:Exit->Act->bo->Prop)(hs:aa dU)(E:aa (Nat×J))(L:aa aK):Nat->aa Oper->aa dU->Prop
 |_,[],[]=>True
 |i,o::os,h::r=>ey c ops Q hs E L i o h∧DT c ops Q hs E L (i+1) os r
 |_,_,_=>False
def WD{ls ls':Nat->Bool}{hd:Nat->Hid}:∀{k:Nat} {hs:aa dU},(∀m,m<hs.length->ls (k+m)=ls' (k+m))->iU ls hd E k hs=iU ls' hd E k hs
 |_,[],_=>rfl
 | k,h::r,aM=>by
   have cg:=WD (ls:=ls) (ls':=ls') (hd:=hd) (k:=k+1) (hs:=r) λm hm=>by
    have:=aM (m+1) (by simp;omega);rw[show k+1+m=k+(m+1) by omega];exact this
   have bC:=aM 0 (by simp);simp only[Nat.add_zero]at bC;unfold iU;rw[bC,cg]
def Xy{ls ls':Nat->Bool}{hd:Nat->Hid}:∀{k:Nat} {hs:aa dU} {L:aa aK},(∀m,m<hs.length->ls (k+m)=ls' (k+m))->ht ls hd k hs L=ht ls' hd k hs L
 |_,[],_,_=>rfl
 | k,h::r,L,aM=>by
   have bC:=aM 0 (by simp);simp only[Nat.add_zero]at bC;rw[ht,ht,bC];exact Xy λm hm=>by
    have:=aM (m+1) (by simp;omega);rw[show k+1+m=k+(m+1) by omega];exact this
def l1(hs:aa dU):aa (aE Nat×aa Nat×aa Nat×aa Nat):=hs.map λh=>(h.slot,h.up,h.rd,h.wr)
def QE{hs:aa dU}{i:Nat}{h:dU}(aq:hs[i]? =some h):(l1 hs)[i]? =some (h.slot,h.up,h.rd,h.wr):=by simp[l1,aq]
def yn(c:cP)(ops:Array Oper)(Q:Exit->Act->bo->Prop)(hs:aa dU)(E:aa (Nat×J))(L:aa aK)(np:Nat)(i:Nat)(o:Oper)(h:dU):Prop:=
 ∀ (hd:Nat->Hid) (E':aa (Nat×J)) (L':aa aK),(∀t τ,look (kL hd hs E h.up) t=some τ->look E' t=some τ)->
   (∀j e,(ht (λ_=>true) hd 0 (hs.take i) L)[j]? =some e->h.rd.contains j=true->L'[j]? =some e)->L'.drop np=L.drop np->
   ae c ops (qk (λa W=> ∃x,bO c (sl h.slot (h.τ (iA h.up i (nF hd i x))) E') (p0 L' (h.dr (iA h.up i (nF hd i x))) h.wr) a W) Q) [o] E' L'
def qx(c:cP)(ops:Array Oper)(Q:Exit->Act->bo->Prop)(hs:aa dU)(E:aa (Nat×J))(L:aa aK)(np:Nat):Nat->aa Oper->aa dU->Prop
 |_,[],[]=>True
 |i,o::os,h::r=>yn c ops Q hs E L np i o h∧qx c ops Q hs E L np (i+1) os r
 |_,_,_=>False
def qx.get{hs:aa dU}{np:Nat}:∀{k:Nat} {os:aa Oper} {rs:aa dU},qx c ops Q hs E L np k os rs->∀i h o,rs[i]? =some h->os[i]? =some o->yn c ops Q hs E L np (k+i) o h
 |k,[],[],_,i,h,o,aq,_=>by simp at aq
 | k,au8::os,bC::r,bT,i,h,o,aq,a6=>by
   cases i with
   | zero=>
     simp only[List.getElem?_cons_zero,gl]at aq a6
     subst aq;subst a6;exact bT.1
   | succ i=>
     have:=qx.get bT.2 i h o (by simpa using aq) (by simpa using a6)
     rw[show k+1+i=k+(i+1) by omega]at this
     exact this
 |k,[],_::_,bT,_,_,_,_,_=>bT.elim
 |k,_::_,[],bT,_,_,_,_,_=>bT.elim
def DT.Jj{hs:aa dU}{np:Nat}:∀{k:Nat} {os:aa Oper} {rs:aa dU},DT c ops Q hs E L k os rs->qx c ops Q hs E L np k os rs
 |_,[],[],_=>trivial
 |_,_::_,_::_,h=>⟨λhd E' L' h1 ad _=>h.1 hd E' L' h1 ad,DT.Jj h.2⟩
 |_,[],_::_,h=>h.elim
 |_,_::_,[],h=>h.elim
def W6{n:Nat}:∀{L:aa aK} {f:Nat->aK} {js:aa Nat},(∀j∈js,j<n∨L.length<=j)->(p0 L f js).drop n=L.drop n
 |_,_,[],_=>rfl
 | L,f,j::r,h=>by
   rw[p0,W6 (λk hk=>by rw[xP];exact h k (by simp[hk]))];rcases h j (by simp)with h1|h1
   ·rw[List.drop_set_of_lt h1]
   rw[List.set_eq_of_length_le h1]
def QF{ls:Nat->Bool}{hd:Nat->Hid}{n:Nat}:∀{k:Nat} {hs:aa dU} {L:aa aK},(∀h∈hs,∀j∈h.wr,j<n∨L.length<=j)->(ht ls hd k hs L).drop n=L.drop n
 |_,[],_,_=>rfl
 | k,h::r,L,hw=>by
   rw[ht];cases an:ls k
   ·exact QF λx au=>hw x (by simp[au])
   simp only[cond_true];rw[QF (λx au j aC=>by rw[Wo];exact hw x (by simp[au]) j aC),W6 (hw h (by simp))]
def aaA{hs:aa dU}{ds:aa (aE Nat×aa Nat×aa Nat×aa Nat)}{np:Nat}(eR:l1 hs=ds)(h:(ds.all λd=>d.2.2.2.all λj=>Nat.blt j np)=true):∀h∈hs,∀j∈h.wr,j<np∨L.length<=j:=λx au j aC=>by
 subst eR;have h1:=lk.1 h (x.slot,x.up,x.rd,x.wr) (ic.2 ⟨x,au,rfl⟩);have ad:=lk.1 h1 j aC;exact .inl (Nat.blt_eq.mp ad)
def al.fin{slot:aE Nat}{up wr:aa Nat}{i:Nat}{hd:Nat->Hid}{τ:(Nat->Hid)->J}{dr:(Nat->Hid)->Nat->aK}{E' jh:aa (Nat×J)}{L' L2:aa aK}(x:Hid)(aD:jh=sl slot (τ (iA up i (nF hd i x))) E')(ar:L2=p0 L' (dr (iA up i (nF hd i x))) wr):
 al c (qk (λa W=> ∃x,bO c (sl slot (τ (iA up i (nF hd i x))) E') (p0 L' (dr (iA up i (nF hd i x))) wr) a W) Q) .normal jh L2:=λa W s=>by
 subst aD ar
 exact⟨x,s⟩
def al.place{z:Exit}{e:aK}(j:Nat)(aC:L[j]? =some ⟨none,.dead⟩)(k:al c Q z E (L.set j e)):al c Q z E (e::L):=λa W s=>by
 refine k a W (s.sub (λx au=>?_) ?_)
 ·rcases UO au with h|h
  ·exact dP.2 (.inr h)
  exact dP.2 (.inl h)
 have h1:=x9 aC;have ad:(L.set j e).Perm (e::L.eraseIdx j):=by
  have aB:(L.set j e)[j]? =some e:=by rw[Fi (ir.1 aC).1]
  have aV:=x9 aB;rwa[OB]at aV
 have ba:=AD (h1.cons e);have bq:ks (e::⟨none,.dead⟩::L.eraseIdx j)=ks (e::L.eraseIdx j):=by cases hk:e.key <;> simp[ks,hk]
 rw[bq]at ba;exact(AD ad).nodup_iff.2 (ba.nodup_iff.1 s.nodup)
def al.back{z:Exit}{e hr:aK}(j:Nat)(aC:L[j]? =some hr)(k:al c Q z E (L.set j e)):al c Q z E (e::L.eraseIdx j):=λa W s=>by
 have aB:(L.set j e)[j]? =some e:=by rw[Fi (ir.1 aC).1]
 have aV:=x9 aB;rw[OB]at aV;exact k a W (s.perm aV.symm)
def ay.mU{z:Code}(n:Nat)(k:ay c Q z E (L++List.replicate n ⟨none,.dead⟩)):ay c Q z E L:=λa W s=>by
 refine k a W ?_;have hk:ks (L++List.replicate n ⟨none,.dead⟩)=ks L:=by
  rw[fL];have:∀n,ks (List.replicate n (⟨none,.dead⟩:aK))=[]:=λn=>by
   induction n with
   |zero=>rfl
   |succ n cg=>rw[List.replicate_succ];simp[ks,cg]
  rw[this,ot]
 exact
 {defers:=s.defers
  size:=s.size
  env:=λt τ an=>by rw[hk];exact s.env t τ an
  ef:=s.ef
  own:=λe he=>by
   rw[hk];rcases cF.1 he with he|he
   ·exact s.own e he
   rw[(List.mem_replicate.1 he).2];trivial
  nodup:=by rw[hk];exact s.nodup
  lt:=by rw[hk];exact s.lt
  hh:=by rw[hk];exact s.hh
  fe:=by rw[hk];exact s.fe}
def ay.AZ{z:Code}(n m:Nat)(k:ay c Q z E (L.take m++(List.replicate n ⟨none,.dead⟩++L.drop m))):ay c Q z E L:=by
 refine ay.mU n λa W s=>k a W (s.perm ?_);have e:L=L.take m++L.drop m:=(gw m L).symm;conv=>lhs;rw[e]
 rw[iJ];exact nQ.append_left _
def al.df{z:Exit}{L2:aa aK}(h:L=L2)(k:al c Q z E L2):al c Q z E L:=by subst h;exact k
def al.kG{z:Exit}{key:aE Nat}{n m cap:Nat}(gY:Nat)(an:look E gY=some (.eq (aQ key n cap)))(aM:n=m)(k:al c Q z ((gY,.eq (aQ key m cap))::E) L):al c Q z E L:=λa W s=>by
 subst aM;refine k a W (s.less λt τ h=>?_);simp only[look]at h;by_cases e:Nat.beq gY t=true
 ·rw[e]at h;simp only[cond_true]at h;have:=fa.1 e;subst this;exact⟨τ,by rw[an,h],λ_ _ _ h=>h⟩
 simp only[jk]at e;rw[e]at h;exact⟨τ,h,λ_ _ _ h=>h⟩
variable{hs:aa dU}{i d:Nat}{up rd:aa Nat}{dr:(Nat->Hid)->Nat->aK}{o:Oper}
def km{τ:J}(bu:o.guard=none)(hd:o.dst=some d)(aM:Nat.blt d c.n=true)
 (h:∀(hd:Nat->Hid) (E':aa (Nat×J)) (L':aa aK),(∀t τ,look (kL hd hs E up) t=some τ->look E' t=some τ)->(∀j e,(ht (λ_=>true) hd 0 (hs.take i) L)[j]? =some e->rd.contains j=true->L'[j]? =some e)->bj c E' L' o τ):
 ey c ops Q hs E L i o ⟨some d,up,rd,[],λ_=>τ,dr⟩:=λJk E' L' aD ar=>
 ae.v (h Jk E' L' aD ar) bu hd aM (ae.nil (al.fin (λ_=>none) I I))
def abo{j g:Nat}{b want:Bool}{τ:J}(bu:o.guard=some (j,want))(aC:(ops[j]?).bind (·.dst)=some g)(hd:o.dst=some d)(aM:Nat.blt d c.n=true)
 (an:∀hd,look (kL hd hs E up) g=some (.of b))
 (h:∀(hd:Nat->Hid) (E':aa (Nat×J)) (L':aa aK),(∀t τ,look (kL hd hs E up) t=some τ->look E' t=some τ)->(∀j e,(ht (λ_=>true) hd 0 (hs.take i) L)[j]? =some e->rd.contains j=true->L'[j]? =some e)->b=want->bj c E' L' o τ):
 ey c ops Q hs E L i o ⟨some d,up,rd,[],λ_=>.cond (b=want) τ,dr⟩:=λJk E' L' aD ar=>
 ae.g (h Jk E' L' aD ar) bu aC (aD _ _ (an Jk)) hd aM (ae.nil (al.fin (λ_=>none) I I))
variable{ty t:bJ}{pos:String}{af:Array Edge}
def ae.abg{α:Type}[ak α]{rest:aa Oper}{bb e n:Nat}{z:α}{r0 r:aa α}{ev:aa (Nat×cw)}(hu:c.P.underlying t=some (.slice e))(e1:bU c.P e α)(hS:dH c.P e z)(hs:Nat.beq (ak.size α) 0=false)(aM:Nat.ble (n*ak.size α) 16777216=true)
 (aW:qC c E L (List.replicate n z) ev r0) (aG:r0=r) (jz:Nat.blt bb c.n=true) (k:∀p,ae c ops Q rest ((bb,.eq (aQ p r.length n))::E) (⟨p,.row e r n⟩::L)):
 ae c ops Q (⟨some bb,.buildSlice t n ev.toArray,ty,pos,af,none⟩::rest) E L:=by subst aG;exact ae.si hu e1 hS hs aM aW jz k
variable{g:aE (Nat×Bool)}{x y:cw}
def aiT{a b:BitVec 64}{bb:aE Tmp}{ats:Array bJ}(au:aU c E L x (.of a))(aR:aU c E L y (.of b)):bj c E L ⟨bb,.call ⟨.builtin .min,#[x,y],ats⟩,ty,pos,af,g⟩ (.of (Bf a b)):=.pure λA W s=>
 ⟨.int .u64 (Bf a b).toNat,by
   simp[execOp,resolve,invoke,builtin,Builtin.min_,Builtin.min2,hK.1 (au A W s),hK.1 (aR A W s)];unfold Bf;split <;> split <;> first|rfl|(rename_i h1 ad;simp only[CS]at *;omega),hK.2 I⟩
end
section
variable{c:cP}{E:aa (Nat×J)}{L:aa aK}{ops:Array Oper}{Q:Exit->Act->bo->Prop}
variable{d:aE Tmp}{ty:bJ}{pos:String}{af:Array Edge}{g:aE (Nat×Bool)}{x y:cw}{t t2:bJ}
def Src(c:cP)(E:aa (Nat×J))(L:aa aK)(y:cw)(N:Nat){α:Type}[ak α](vs:aa α):Prop:=
 ∀a W,bO c E L a W->(Builtin.lenOf (a.eval y)).run c.P W=.ok N W∧∃cells:aa br,(Builtin.firstCells (ak.size α) vs.length (a.eval y)).run c.P W=.ok cells.toArray W∧ig (ks L++c.b8) W cells vs∧∀v∈cells,v.oneCell'=true
def ae.MP{rest:aa Oper}{i e p off bb dLen dCap N T:Nat}{cp cp':e0}{α:Type}[ak α]{vs:aa α}(hu:c.P.underlying t=some (.slice e))(e1:bU c.P e α)
 (au:aU c E L x (.eq (.slice (some ⟨p,off,none⟩) dLen dCap))) (aR:Src c E L y N vs) (aqs:Nat.min N dLen=vs.length) (ar:L[i]? =some ⟨some p,cp⟩) (aM:Nat.blt bb c.n=true)
 (NB:∀A W o cells,cp.holds A W o->ig A W cells vs->∃cs,o=.cells cs T (0,0)∧off+cells.length<=cs.size∧cp'.holds A W (.cells (cs.toList.take off++cells++cs.toList.drop (off+cells.length)).toArray T (0,0)))
 (k:ae c ops Q rest ((bb,.of (vs.length:Int))::E) (L.set i ⟨some p,cp'⟩)):
 ae c ops Q (⟨some bb,.call ⟨.builtin .copy,#[x,y],#[t,t2]⟩,ty,pos,af,none⟩::rest) E L:=λa W s=>by
 have jz:bb<c.n:=by simpa using aM
 have h1:a.eval x=_:=au a W s
 obtain⟨an,cells,ag,aG,EF⟩:=aR a W s
 obtain⟨o,a6,bT⟩:=s.own _ (fB ar)
 obtain⟨cs,rfl,M8,tt⟩:=NB _ _ _ _ bT aG
 obtain⟨hE,eo,ee⟩:=e1.info
 have b5:=FN (P:=c.P) p off T cells 0 cs W a6 (by omega) EF
 simp only[Nat.add_zero]at b5
 have kH:(execOp a.eval ⟨some bb,.call ⟨.builtin .copy,#[x,y],#[t,t2]⟩,ty,pos,af,none⟩).run c.P W=.ok (.value (goInt vs.length)) (W.setRow p (cs.toList.take off++cells++cs.toList.drop (off+cells.length)).toArray):=by
  simp[execOp,resolve,invoke,builtin,Builtin.copy_,h1,ep hu,an,aqs,Go.sizeOf,typeInfo,eo,ee,ag,b5]
 refine jm I (R:=λv iY=>v=goInt vs.length∧iY=W.setRow p (cs.toList.take off++cells++cs.toList.drop (off+cells.length)).toArray) (.mR kH ⟨rfl,rfl⟩) λv iY ⟨bc,hw⟩=>?_
 subst bc
 subst hw
 exact k _ _ ((s.store ar a6 tt).put jz (of_int.2 I))
def L5{i T cap lo N k:Nat}{key:aE Nat}{α:Type}[ak α]{xs:aa α}(aR:aU c E L y (.eq (jL key lo N cap (ak.size α))))(ar:L[i]? =some ⟨key,.row T xs cap⟩)(hk:0<k)(hP:lo+k<=xs.length):
 Src c E L y N ((xs.drop lo).take k):=λa W s=>by
 obtain⟨p,cs,rfl,fI,g1,g2,g3,g4⟩:=s.rowAt ar (by omega)
 have h1:a.eval y=_:=aR a W s
 have n9:cap≠lo:=by omega
 have bc:a.eval y=.slice (some ⟨p,lo*ak.size α,none⟩) N (cap-lo):=by rw[h1];simp[jL,n9]
 have hlen:((xs.drop lo).take k).length=k:=by rw[e8,ke];omega
 have uI:cs.toList.length=cap*ak.size α:=by simpa using g1
 have aqt:(lo+k)*ak.size α<=xs.length*ak.size α:=iu _ hP
 have M7:xs.length*ak.size α<=cap*ak.size α:=iu _ g2
 rw[nU]at aqt
 have abW:((cs.toList.drop (lo*ak.size α)).take (k*ak.size α)).length=k*ak.size α:=by rw[e8,ke];omega
 have h4:ig (ks L++c.b8) W ((cs.toList.drop (lo*ak.size α)).take (k*ak.size α)) ((xs.drop lo).take k):=by
  refine⟨by rw[abW,hlen],λj aC=>?_⟩;rw[hlen]at aC;have ba:=g4.2 (lo+j) (by omega);have hf:=DS (s:=ak.size α) aC;have auj:=DS (s:=ak.size α) (show lo+j<xs.length by omega);rw[wg,q8,oq (by omega)]at ba;rw[wg,q8,oq (by omega),Gr,<-nU];simpa using ba
 have dE:=KD (P:=c.P) W ⟨p,lo*ak.size α,none⟩ ((cs.toList.drop (lo*ak.size α)).take (k*ak.size α)) λj v bc=>by
  rw[lp,C0 W p _ cs T (0,0) fI];rw[lE]at bc;split at bc
  ·rw[mH]at bc;simpa using bc
  cases bc
 rw[abW]at dE
 refine⟨by rw[bc];rfl,(cs.toList.drop (lo*ak.size α)).take (k*ak.size α),?_,h4,h4.one⟩
 rw[bc]
 simp only[Builtin.firstCells]
 rw[hlen]
 exact dE
def Qy{p lo n cap size:Nat}(h:cap≠lo):jL (some p) lo n cap size=Value.slice (some ⟨p,lo*size,none⟩) n (cap-lo):=by simp[jL,h]
def Yo{i T cap:Nat}{key:aE Nat}{α:Type}[ak α]{xs:aa α}(aR:aU c E L y (.eq (aQ key xs.length cap)))(ar:L[i]? =some ⟨key,.row T xs cap⟩)(au:0<xs.length):Src c E L y xs.length xs:=by
 have:=L5 (lo:=0) (k:=xs.length) (N:=xs.length) (by rw[Dw];exact aR) ar au (by omega);simpa using this
def Mk{key:aE Nat}{n cap size:Nat}(h:aU c E L x (.eq (jL key 0 n cap size))):aU c E L x (.eq (aQ key n cap)):=by rw[<-Dw (size:=size)];exact h
def Rg{p lo n cap size:Nat}(ag:cap≠lo)(h:aU c E L x (.eq (jL (some p) lo n cap size))):aU c E L x (.eq (.slice (some ⟨p,lo*size,none⟩) n (cap-lo))):=by rw[<-Qy ag];exact h
def e0.I7{α:Type}[ak α](T:bJ)(xs:aa α)(i m cap:Nat):e0 where
 holds A W o:=∃cs,o=.cells cs T (0,0)∧cs.size=cap*ak.size α∧xs.length+m<=cap∧cap<=maxLen∧ig A W (cs.toList.take (i*ak.size α)) (xs.take i)∧
  ig A W ((cs.toList.drop ((i+m)*ak.size α)).take ((xs.length-i)*ak.size α)) (xs.drop i)
 pY:=False
 mono e h:=let⟨cs,h1,ad,aB,aV,ba,bq⟩:=h; ⟨cs,h1,ad,aB,aV,ba.mono e,bq.mono e⟩
def ajP{α:Type}[ak α]{T i m cap:Nat}{xs:aa α}(aq:i<=xs.length)(hm:xs.length+m<=cap){A W o cells}(h:(e0.row T xs cap).holds A W o)(ag:ig A W cells (xs.drop i)):
 ∃cs,o=.cells cs T (0,0)∧(i+m)*ak.size α+cells.length<=cs.size∧(e0.I7 T xs i m cap).holds A W (.cells (cs.toList.take ((i+m)*ak.size α)++cells++cs.toList.drop ((i+m)*ak.size α+cells.length)).toArray T (0,0)):=by
 obtain⟨cs,rfl,g1,g2,g3,g4⟩:=h
 have uI:cs.toList.length=cap*ak.size α:=by simpa using g1
 have n9:cells.length=(xs.length-i)*ak.size α:=by rw[ag.1,ke]
 have av:(i+m)*ak.size α+(xs.length-i)*ak.size α=(xs.length+m)*ak.size α:=by rw[<-nU];congr 1;omega
 have aS:(xs.length+m)*ak.size α<=cap*ak.size α:=iu _ hm
 have cM:i*ak.size α<=(i+m)*ak.size α:=iu _ (by omega)
 have eW:i*ak.size α<=xs.length*ak.size α:=iu _ aq
 have jY:(cs.toList.take ((i+m)*ak.size α)).length=(i+m)*ak.size α:=by rw[e8];omega
 refine⟨cs,rfl,by omega,_,rfl,?_,hm,g3,?_,?_⟩
 ·simp only[FM,gH,e8,ke];omega
 ·rw[List.toList_toArray,iJ,Cg (by rw[jY];omega),q8,oq cM]
  have:=LN aq (⟨cs,rfl,g1,g2,g3,g4⟩:(e0.row T xs cap).holds A W (.cells cs T (0,0)))
  obtain⟨ar6,h1,_,_,_,ba⟩:=this
  cases h1
  rwa[e8,oq aq]at ba
 rw[List.toList_toArray,iJ,List.drop_left' jY,<-n9,Gs]
 exact ag
def aiJ{α:Type}[ak α]{T i cap:Nat}{xs vs:aa α}(aq:i<=xs.length){A W o cells}(h:(e0.I7 T xs i vs.length cap).holds A W o)(ag:ig A W cells vs):
 ∃cs,o=.cells cs T (0,0)∧i*ak.size α+cells.length<=cs.size∧(e0.row T (xs.take i++vs++xs.drop i) cap).holds A W (.cells (cs.toList.take (i*ak.size α)++cells++cs.toList.drop (i*ak.size α+cells.length)).toArray T (0,0)):=by
 obtain⟨cs,rfl,g1,g2,g3,g4,g5⟩:=h
 have uI:cs.toList.length=cap*ak.size α:=by simpa using g1
 have n9:cells.length=vs.length*ak.size α:=ag.1
 have hr:i*ak.size α+vs.length*ak.size α=(i+vs.length)*ak.size α:=by rw[<-nU]
 have av:(i+vs.length)*ak.size α+(xs.length-i)*ak.size α=(xs.length+vs.length)*ak.size α:=by rw[<-nU];congr 1;omega
 have aS:(xs.length+vs.length)*ak.size α<=cap*ak.size α:=iu _ g2
 have hlen:(xs.take i++vs++xs.drop i).length=xs.length+vs.length:=by simp;omega
 refine⟨cs,rfl,by omega,_,rfl,?_,by rw[hlen];exact g2,g3,?_⟩
 ·simp only[FM,gH,e8,ke];omega
 rw[List.toList_toArray,hlen]
 have n1:=x7 (x7 g4 ag) g5
 have jY:(cs.toList.take (i*ak.size α)++cells).length=(i+vs.length)*ak.size α:=by rw[gH,e8];omega
 have l9:(cs.toList.take (i*ak.size α)++cells++cs.toList.drop (i*ak.size α+cells.length)).take ((xs.length+vs.length)*ak.size α)=cs.toList.take (i*ak.size α)++cells++(cs.toList.drop ((i+vs.length)*ak.size α)).take ((xs.length-i)*ak.size α):=by
  rw[KP,jY,pL (by omega),n9,hr];congr 2;omega
 rw[l9]
 exact n1
def Qa{α:Type}[ak α]{T lo cap:Nat}{xs vs:aa α}(hk:lo+vs.length<=xs.length){A W o cells}(h:(e0.row T xs cap).holds A W o)(ag:ig A W cells vs):
 ∃cs,o=.cells cs T (0,0)∧lo*ak.size α+cells.length<=cs.size∧(e0.row T (xs.take lo++vs++xs.drop (lo+vs.length)) cap).holds A W (.cells (cs.toList.take (lo*ak.size α)++cells++cs.toList.drop (lo*ak.size α+cells.length)).toArray T (0,0)):=by
 obtain⟨cs,rfl,g1,g2,g3,g4⟩:=h
 have uI:cs.toList.length=cap*ak.size α:=by simpa using g1
 have n9:cells.length=vs.length*ak.size α:=ag.1
 have hr:lo*ak.size α+vs.length*ak.size α=(lo+vs.length)*ak.size α:=by rw[<-nU]
 have av:(lo+vs.length)*ak.size α<=xs.length*ak.size α:=iu _ hk
 have aS:xs.length*ak.size α<=cap*ak.size α:=iu _ g2
 have hlen:(xs.take lo++vs++xs.drop (lo+vs.length)).length=xs.length:=by simp;omega
 refine⟨cs,rfl,by omega,_,rfl,?_,by rw[hlen];exact g2,g3,?_⟩
 ·simp only[FM,gH,e8,ke];omega
 rw[List.toList_toArray,hlen]
 have g5:=W3 (lo:=lo) g4 ag hk
 have e:(cs.toList.take (lo*ak.size α)++cells++cs.toList.drop (lo*ak.size α+cells.length)).take (xs.length*ak.size α)=(cs.toList.take (xs.length*ak.size α)).take (lo*ak.size α)++cells++(cs.toList.take (xs.length*ak.size α)).drop (lo*ak.size α+cells.length):=by
  have cM:(cs.toList.take (lo*ak.size α)++cells).length=lo*ak.size α+cells.length:=by rw[gH,e8];omega
  rw[KP,cM,pL (by omega),q8,oq (by omega),wg]
 rw[e]
 exact g5
def akW{p n cap e:Nat}(hu:c.P.underlying t=some (.slice e))(au:aU c E L x (.eq (aQ (some p) n cap))):bj c E L ⟨d,.call ⟨.builtin .cap,#[x],#[t]⟩,ty,pos,af,g⟩ (.of (cap:Int)):=.pure λa W s=>by
 have h1:a.eval x=_:=au a W s;exact⟨.int .i64 cap,by simp[execOp,resolve,invoke,builtin,Builtin.cap_,h1,aQ,ep hu,goInt],of_int.2 I⟩
def wC{p n cap:Nat}{α:Type}[ak α]{e:bJ}{lo aq:aE cw}{m h:Nat}{J1 J2:Int}(hu:c.P.underlying t=some (.slice e))(e1:bU c.P e α)(au:aU c E L x (.eq (aQ (some p) n cap)))
 (hP:zk c E L lo J1 0) (gE:zk c E L aq J2 n) (hm:J1=m) (aM:J2=h) (bT:m<=h∧h<=cap):
 bj c E L ⟨d,.slice t x lo aq none,ty,pos,af,g⟩ (.eq (jL (some p) m (h-m) cap (ak.size α))):=.pure λa W s=>by
 subst hm;subst aM
 obtain⟨vL,mu⟩:=bT
 obtain⟨hE,eo,ee⟩:=e1.info
 have h1:a.eval x=_:=au a W s
 refine⟨_,?_,rfl⟩
 simp only[jL]
 have ar:∀v,v=Value.int .i64 m->(Instr.sliceBound v h .sliceB).run c.P W=.ok m W:=λv bc=>s0 vL bc
 have hH:∀v,v=Value.int .i64 h->(Instr.sliceBound v cap .sliceAcap).run c.P W=.ok h W:=λv bc=>s0 (by omega) bc
 generalize hf:(h:Int)=adx at gE
 generalize xn:(m:Int)=ady at hP
 generalize Jf:(n:Int)=adz at gE
 generalize acK:(0:Int)=adA at hP
 cases hP with
 | none=>
   have h8:m=0:=by omega
   cases gE with
   | none=>
     have mu:h=n:=by omega
     subst mu
     subst h8
     simp[execOp,Instr.sliceAt,Instr.slice,Instr.sliceBounds,h1,aQ,ep hu,Go.sizeOf,typeInfo,eo,ee,lp]
   | some bT=>
     subst hf
     subst h8
     simp[execOp,Instr.sliceAt,Instr.slice,Instr.sliceBounds,h1,aQ,ep hu,Go.sizeOf,typeInfo,eo,ee,lp,hH _ (of_int.1 (bT a W s))]
 | some an=>
   subst xn
   cases gE with
   | none=>
     have mu:h=n:=by omega
     subst mu
     simp[execOp,Instr.sliceAt,Instr.slice,Instr.sliceBounds,h1,aQ,ep hu,Go.sizeOf,typeInfo,eo,ee,lp,ar _ (of_int.1 (an a W s))]
     split <;> rfl
   | some bT=>
     subst hf
     simp[execOp,Instr.sliceAt,Instr.slice,Instr.sliceBounds,h1,aQ,ep hu,Go.sizeOf,typeInfo,eo,ee,lp,ar _ (of_int.1 (an a W s)),hH _ (of_int.1 (bT a W s))]
     split <;> rfl
def am2{f:FuncId}{fn:Func}{p q T U cap cap' i j e tR bI adD fP BZ adE rR:Nat}{α:Type}[ak α]{xs vs:aa α}(IS:Nat.beq (ak.size α) 0=false)
 (aW:c.P.funcs[f]? =some fn) (anD:(fn.name== "runtime.NumGoroutine")=false) (hb:fn.body.isNone=true) (aM:Extern.findNext fn=none)
 (he:Extern.find fn=some (Extern.SlicesOverlaps.overlaps #[t,t] #[tR])) (hu:c.P.underlying t=some (.slice e)) (e1:bU c.P e α)
 (au:aU c E L x (.eq (.slice (some ⟨q,adE,none⟩) bI adD))) (aR:aU c E L y (.eq (.slice (some ⟨p,rR,none⟩) fP BZ)))
 (aq:L[i]? =some ⟨some p,.row T xs cap⟩) (aC:L[j]? =some ⟨some q,.row U vs cap'⟩) (Nr:p≠q) (yD:0<cap):
 bj c E L ⟨d,.call ⟨.value (.func f),#[x,y],#[t,t]⟩,ty,pos,af,g⟩ (.of false):=.pure λa W s=>by
 obtain⟨o,a6,cs,rfl,g1,g2,g3,g4⟩:=s.own _ (fB aq)
 obtain⟨o',qQ,ff,rfl,aJ,bx,cB,fo⟩:=s.own _ (fB aC)
 obtain⟨hE,eo,ee⟩:=e1.info
 have h1:a.eval x=_:=au a W s
 have ad:a.eval y=_:=aR a W s
 have uH:ak.size α≠0:=λh=>by rw[h]at IS;cases IS
 have di:cs.size≠0:=by rw[g1];exact Nat.mul_ne_zero (by omega) uH
 have NC:=Lib.run_overlaps_apart (P:=c.P) W t tR e hu (ak.size α) (λw=>by simp[Go.sizeOf,typeInfo,eo,ee]) ⟨q,adE,none⟩ ⟨p,rR,none⟩ bI adD fP BZ (λh=>Nr h.symm) U T ff.size cs.size
  (by simp[World.shape?,qQ]) (by simp[World.shape?,a6]) di (by simp[World.frozen?,qQ]) (by simp[World.frozen?,qQ])
 refine⟨.bool false,?_,by exact of_bool.2 I⟩
 have bC:a.eval (.func f)=.func (.func f) #[] #[]:=rfl
 simp[execOp,resolve,Deferred.ofValue,bC,invoke,run_callFunc_extern aW anD hb aM he,h1,ad,NC]
def ae.apu{α:Type}[ak α]{rest:aa Oper}{bb i e bytes cap m k p T:Nat}{hR:IntKind}{xs:aa α}{z:α}(hu:c.P.underlying t=some (.slice e))(mv:c.P.underlying t2=some (.int hR))(e1:bU c.P e α)(hS:dH c.P e z)(IS:Nat.beq (ak.size α) 0=false)
 (By:(c.P.info? e).map (·.bytes)=some bytes) (au:aU c E L x (.eq (jL (some p) 0 m cap (ak.size α)))) (aR:aU c E L y (.of (k:Int))) (ar:L[i]? =some ⟨some p,.row T xs cap⟩) (hm:m<=xs.length) (hk:0<k) (bu:cap<m+k)
 (tA:(m+k)*bytes<=140737488355328) (qP:m+k<=maxLen) (aM:Nat.blt bb c.n=true)
 (nM:∀q cap',ae c ops Q rest ((bb,.eq (aQ (some q) (m+k) cap'))::E) (⟨some q,.row e (xs.take m++List.replicate k z) cap'⟩::L)):
 ae c ops Q (⟨some bb,.call ⟨.builtin .append,#[x,y],#[t,t2]⟩,ty,pos,af,none⟩::rest) E L:=λa W s=>by
 obtain⟨hE,eB,eo,bV,vR⟩:=hS.zero
 have qI:hE.size=ak.size α:=by
  obtain⟨i2,h1,ad⟩:=e1.info;rw[eo]at h1;cases h1;exact ad
 have RA:hE.bytes=bytes:=by simpa[eo]using By
 subst RA
 have Bz:eB.cells.size=ak.size α:=by have:=ak.len (vR [] W).2;simpa using this
 have uH:ak.size α≠0:=λh=>by rw[h]at IS;cases IS
 have jz:bb<c.n:=by simpa using aM
 have h1:a.eval x=.slice (some ⟨p,0,none⟩) m cap:=by
  have:=au a W s;rw[Dw]at this;exact this
 obtain⟨o,a6,cs,rfl,g1,g2,g3,g4⟩:=s.own _ (fB ar)
 have uG:maxLen=9223372036854775807:=rfl
 have ad:a.eval y=.int .i64 k:=of_int.1 (aR a W s)
 have aqu:=LN hm (⟨cs,rfl,g1,g2,g3,g4⟩:(e0.row T xs cap).holds (ks L++c.b8) W (.cells cs T (0,0)))
 obtain⟨ar6,av,_,_,_,Jl⟩:=aqu
 cases av
 have S2:(xs.take m).length=m:=by rw[e8];omega
 rw[S2]at Jl
 have wY:∀(j:Nat) u,(cs.toList.take (m*ak.size α))[j]? =some u->W.drew.cell? ((⟨p,0,none⟩:Addr).add j)=some u:=by
  intro j u px;rw[lE]at px;split at px
  ·rw[lp,kR,C0 W.drew p j cs T (0,0) a6];simpa using px
  cases px
 have hold:=KD (P:=c.P) W.drew ⟨p,0,none⟩ _ wY
 rw[Jl.1,S2]at hold
 have aG:=Lib.run_append_grow_zeros (P:=c.P) W t t2 ty e hE eB .i64 hR hu mv eo bV (some ⟨p,0,none⟩) m cap _ (by simp only[Builtin.firstCells];rw[qI];exact hold) k hk (by omega) bu (by omega)
  (by have:k*hE.bytes<=(m+k)*hE.bytes:=iu _ (by omega)
      omega) (growslice_fits bu tA)
 have uJ:=grownCap_ge W (m+k) cap e
 have hle:=grownCap_le_maxLen W (m+k) cap e qP
 have Nz:=vR (ks L++c.b8) W
 have uK:=HG Nz k uH
 have Tt:Builtin.zeroCells eB.cells k=(Array.range (k*ak.size α)).map (eB.cells[· % eB.cells.size]!):=by rw[Builtin.zeroCells,Bz]
 rw[<-Tt]at uK
 have w3:=(x7 Jl uK).mono (Ext.ef (Fr.drew W))
 have hlen:(xs.take m++List.replicate k z).length=m+k:=by rw[gH,S2,Fj]
 have b5:=(s.world (Fr.drew W)).alloc (o:=.cells ((cs.toList.take (m*ak.size α)).toArray++Builtin.zeroCells eB.cells k++Builtin.zeroCells eB.cells (grownCap W (m+k) cap e-(m+k))) e)
  (cp:=.row e (xs.take m++List.replicate k z) (grownCap W (m+k) cap e))
  (QC (T:=e) w3 (ds:=(Builtin.zeroCells eB.cells (grownCap W (m+k) cap e-(m+k))).toList) (by rw[Array.length_toList,size_zeroCells,Bz,hlen]) (by rw[hlen];exact uJ) hle (by simp))
 refine jm I (R:=λv iY=>v=aQ (some W.heap.size) (m+k) (grownCap W (m+k) cap e)∧iY=W.drew.alloc (.cells ((cs.toList.take (m*ak.size α)).toArray++Builtin.zeroCells eB.cells k++Builtin.zeroCells eB.cells (grownCap W (m+k) cap e-(m+k))) e)) (.mR ?_ ⟨rfl,rfl⟩) λv iY ⟨bc,hw⟩=>?_
 ·simp only[execOp,resolve,invoke,builtin,eg,Sem.run_pure,Result.andThen_ok]
  have av:(#[x,y]:Array cw).map a.eval= #[a.eval x,a.eval y]:=by simp
  rw[av,h1,ad,aG]
  rfl
 subst bc
 subst hw
 exact nM _ _ _ _ (b5.put jz I)
def J.zg(τ:J):J where
 holds A W v:=∃b cur T il u,v=.pointer (some ⟨b,0,none⟩)∧b∉A∧W.heap[b]? =some (.cells cur T il)∧cur[0]? =some u∧u.oneCell'=true∧τ.holds A W u
 mono e h:=by
  obtain⟨b,cur,T,il,u,rfl,hb,bT,hs,h1,aG⟩:=h;have b9:b<_:=(sP.1 bT).1;exact⟨b,cur,T,il,u,rfl,λhm=>hb (e.new b hm b9),by rw[e.block b b9 hb];exact bT,hs,h1,τ.mono e aG⟩
def ae.ao1{rest:aa Oper}{bb:Nat}{τ:J}(au:aU c E L x τ)(h1:∀A W v,τ.holds A W v->v.oneCell'=true)(aM:Nat.blt bb c.n=true)
 (k:ae c ops Q rest ((bb,.zg τ)::E) L):ae c ops Q (⟨some bb,.box t x,ty,pos,af,none⟩::rest) E L:=λa W s=>by
 have bc:=au a W s
 have a6:=h1 _ _ _ bc
 refine jm I (R:=λv W'=>v=.pointer (some ⟨W.heap.size,0,none⟩)∧W'=W.alloc (.cells (a.eval x).cells t)) (.mR ?_ ⟨rfl,rfl⟩) λv W' ⟨p9,hw⟩=>?_
 ·simp[execOp,Instr.box,newVar,newRow]
 subst p9
 subst hw
 have s1:=((s.alloc (o:=.cells (a.eval x).cells t) (cp:=.dead) lJ).kill 0).sf 1
 refine k _ _ (bO.put s1 (by simpa using aM) ?_)
 refine⟨W.heap.size,(a.eval x).cells,t,(0,0),a.eval x,rfl,λhm=>?_,Ry W _,by rw[cells_one a6];rfl,a6,τ.mono (A:=ks L++c.b8) (W:=W) ⟨by simp,λk hk _=>Ml W _ k hk,λk h _=>h⟩ bc⟩
 rcases cF.1 hm with hm|hm
 ·exact zW _ (s.lt _ hm)
 exact zW _ (s.fe _ hm).1
def Yn{τ:J}{D:TypeDesc}(hu:c.P.underlying t=some D)(hd:(match (motive:=TypeDesc->Bool) D with | .struct _| .array _ _=>true|_=>false)=false)(au:aU c E L x (.zg τ)):bj c E L ⟨d,.load t x,ty,pos,af,g⟩ τ:=.pure λa W s=>by
 obtain⟨b,cur,T,il,u,h1,hb,bT,hs,ad,aG⟩:=au a W s;have Jm:(isAgg t).run c.P W=.ok false W:=by
  unfold Go.isAgg;rw[eg,ep hu W];simp only[Result.andThen_ok];cases D <;> simp_all
 have wY:W.cell? ⟨b,0,none⟩=some u:=by rw[C0 W b 0 cur T il bT];exact hs
 refine⟨u,?_,aG⟩;simp[execOp,Instr.loadAt,Instr.sureAddr,h1,loadVar,eg,Jm,wY]
def ay.some{code:Code}{i T cap:Nat}{key:aE Nat}{α:Type}[ak α]{xs:aa α}(ar:L[i]? =Option.some ⟨key,.row T xs cap⟩)(au:0<xs.length)(k:∀p,key=Option.some p->xs.length<=cap->cap<=maxLen->ay c Q code E L):ay c Q code E L:=λa W s=>by
 obtain⟨p,cs,rfl,fI,g1,g2,g3,g4⟩:=s.rowAt ar au;exact k p I g2 g3 a W s
def ay.apart{code:Code}{p q:Nat}{cp cp':e0}{L':aa aK}(ar:L=⟨Option.some p,cp⟩::⟨Option.some q,cp'⟩::L')(k:p≠q->ay c Q code E L):ay c Q code E L:=λa W s=>by
 refine k (λe=>?_) a W s;have:=s.nodup;rw[ar,e]at this;simp[ks]at this
def QG{s:Nat}{τ:J}:look ((s,τ)::E) s=some τ:=by
 show(bif Nat.beq s s then some τ else look E s)=some τ;rw[nh];rfl
def Yx{s u:Nat}{τ:J}(h:Nat.beq s u=false):look ((s,τ)::E) u=look E u:=by
 show(bif Nat.beq s u then some τ else look E u)=look E u;rw[h];rfl
def J.both(τ σ:J):J where
 holds A W v:=τ.holds A W v∧σ.holds A W v
 mono e h:=⟨τ.mono e h.1,σ.mono e h.2⟩
def ae.alj{rest:aa Oper}{s B0 i j p o T cap:Nat}{key:aE Nat}{β α:Type}[ak β][ak α]{b b':β}{xs:aa α}(l:aP β (aa α))(ej:bU c.P t (aa α))
 (au:look E B0=some (.eq (.pointer (some ⟨p,o,none⟩)))) (hs:Nat.beq s B0=false) (aR:look E s=some (.eq (aQ key xs.length cap)))
 (aq:L[i]? =some ⟨some p,.var b⟩) (aC:L[j]? =some ⟨key,.row T xs cap⟩) (gh:Nat.beq j i=false) (a6:o=l.off) (hb:l.set b xs=b')
 (k:ae c ops Q rest E ((L.set j ⟨none,.dead⟩).set i ⟨some p,.var b'⟩)):ae c ops Q (⟨none,.store t (.tmp B0) (.tmp s),ty,pos,af,none⟩::rest) E L:=λa W st=>by
 have aD:∀t τ,look ((s,J.both (.eq (aQ key xs.length cap)) (.of xs))::E) t=some τ->(s=t∧τ=J.both (.eq (aQ key xs.length cap)) (.of xs))∨look E t=some τ:=λt τ h=>by
  simp only[look]at h;by_cases e:Nat.beq s t=true
  ·rw[e]at h;simp only[cond_true,gl]at h;exact .inl ⟨fa.1 e,h.symm⟩
  simp only[jk]at e;rw[e]at h;exact .inr h
 have hk:=st.kill j
 have aW:=st.freeze aR aC
 have aqv:∀t τ,look ((s,J.both (.eq (aQ key xs.length cap)) (.of xs))::E) t=some τ->∃v,a.tmps[t]? =some v∧τ.holds (ks (L.set j ⟨none,.dead⟩)++c.b8) W v:=λt τ h=>by
  rcases aD t τ h with⟨rfl,rfl⟩|h
  ·obtain⟨v,h1,ad⟩:=aW.env s (.of xs) QG;obtain⟨zl,aB,aV⟩:=hk.env s _ aR;rw[h1]at aB;simp only[gl]at aB;subst aB;exact⟨v,h1,aV,ad⟩
  exact hk.env t τ h
 have anE:bO c ((s,J.both (.eq (aQ key xs.length cap)) (.of xs))::E) (L.set j ⟨none,.dead⟩) a W:= {hk with env:=aqv}
 have di:j≠i:=λe=>by rw[fa.2 e]at gh;cases gh
 refine(ae.store (c:=c) (E:=(s,J.both (.eq (aQ key xs.length cap)) (.of xs))::E) (L:=L.set j ⟨none,.dead⟩) (i:=i) (p:=p) (b:=b) (b':=b') (v:=xs) l ej
  (ah ((Yx hs).trans au)) (λa W h=>?_) (by rw[xJ di];exact aq) a6 hb (λa W h=>k a W (h.less λt τ bD=>?_))) a W anE
 ·obtain⟨v,h1,ad⟩:=h.env s _ QG
  have e:a.eval (.tmp s)=v:=by simp[Act.eval,h1]
  rw[e];exact ad.2
 by_cases e:Nat.beq s t=true
 ·have:=fa.1 e
  subst this
  rw[aR]at bD
  simp only[gl]at bD
  subst bD
  exact⟨_,QG,λA W v h=>h.1⟩
 simp only[jk]at e
 exact⟨τ,(Yx e).trans bD,λ_ _ _ h=>h⟩
def ae.ajS{rest:aa Oper}{s B0 i j p o T cap:Nat}{key:aE Nat}{β α:Type}[ak β][ak α]{b b':β}{xs:aa α}(l:aP β (aa α))(ej:bU c.P t (aa α))
 (au:look E B0=some (.eq (.pointer (some ⟨p,o,none⟩)))) (hs:Nat.beq s B0=false) (aR:look E s=some (.eq (aQ key xs.length cap)))
 (aq:L[i]? =some ⟨some p,.var b⟩) (aC:L[j]? =some ⟨key,.row T xs cap⟩) (gh:Nat.beq j i=false) (a6:o=l.off) (hb:l.set b xs=b')
 (k:ae c ops Q rest E ((L.set i ⟨some p,.var b'⟩).set j ⟨none,.dead⟩)):ae c ops Q (⟨none,.store t (.tmp B0) (.tmp s),ty,pos,af,none⟩::rest) E L:=
 ae.alj l ej au hs aR aq aC gh a6 hb (by rw[List.set_comm _ _ (λe=>by rw[fa.2 e]at gh;cases gh)];exact k)
def Xz{α γ:Type}[ak α][ak γ]{A W}{cs:aa br}{x:α}{os:aa (Nat×br)}{u:br}(l:aP α (aa γ))(h:n2 A W cs x os)(hq:(l.off,u)∈os):n2 A W cs (l.set x []) os:=by
 refine⟨?_,h.2⟩;have h1:=l.ox (ds:=[mo]) (g:=([]:aa γ)) h.1 (show ak.rep A W [mo] ([]:aa γ)from by
  have:=(qw (A:=A) (W:=W) (v:=mo) (xs:=([]:aa γ))).2 (.inl ⟨rfl,rfl⟩);exact this.2)
 have hb:(blank os cs)[l.off]? =some mo:=by
  rw[vk,bh (oo.2 ⟨_,hq,by simp⟩),(h.2 _ hq).1];rfl
 have b9:l.off<(blank os cs).length:=(ir.1 hb).1;have he:(blank os cs).take l.off++[mo]++(blank os cs).drop (l.off+ak.size (aa γ))=blank os cs:=by
  show(blank os cs).take l.off++[mo]++(blank os cs).drop (l.off+1)=blank os cs;have ad:(blank os cs)[l.off]=mo:=(ir.1 hb).2;rw[<-ad,iJ,List.singleton_append,Oq,gw]
 rwa[he]at h1
def ae.Nl{J3:aa Oper}{p:Nat}{β γ:Type}[ak β][ak γ]{b b':β}{os:aa (Nat×br)}{u:br}(l:aP β (aa γ))(i q:Nat)(ar:L[i]? =some ⟨some p,.cu b os⟩)(hq:os[q]? =some (l.off,u))(hb:l.set b []=b')
 (k:ae c ops Q J3 E (L.set i ⟨some p,.cu b' os⟩)):ae c ops Q J3 E L:=λa W s=>
 k a W (s.again ar (λA W o ⟨cs,T,h1,ad⟩=>⟨cs,T,h1,hb▸Xz l ad (fB hq)⟩) id)
def al.Nl{z:Exit}{p:Nat}{β γ:Type}[ak β][ak γ]{b b':β}{os:aa (Nat×br)}{u:br}(l:aP β (aa γ))(i q:Nat)(ar:L[i]? =some ⟨some p,.cu b os⟩)(hq:os[q]? =some (l.off,u))(hb:l.set b []=b')
 (k:al c Q z E (L.set i ⟨some p,.cu b' os⟩)):al c Q z E L:=λa W s=>
 k a W (s.again ar (λA W o ⟨cs,T,h1,ad⟩=>⟨cs,T,h1,hb▸Xz l ad (fB hq)⟩) id)
end
def IL{α:Type}(bytes:Nat)(xs:aa α)(i:Int)(vs:aa α):aE (aa α):=
 if 0<=i∧i<=xs.length∧0<vs.length∧(xs.length+vs.length)*bytes<=140737488355328∧xs.length+vs.length<=maxLen then some (xs.take i.toNat++vs++xs.drop i.toNat)else none
def ahz{α:Type}{bytes:Nat}{xs vs r:aa α}{i:Int}(h:IL bytes xs i vs=some r):
 ∃k:Nat,i=k∧k<=xs.length∧0<vs.length∧(xs.length+vs.length)*bytes<=140737488355328∧xs.length+vs.length<=maxLen∧r=xs.take k++vs++xs.drop k:=by
 unfold IL at h
 split at h
 ·rename_i ag
  obtain⟨h1,ad,aB,aV,ba⟩:=ag
  exact⟨i.toNat,by omega,by omega,aB,aV,ba,(by simp only[gl]at h;exact h.symm)⟩
 cases h
end Gv
