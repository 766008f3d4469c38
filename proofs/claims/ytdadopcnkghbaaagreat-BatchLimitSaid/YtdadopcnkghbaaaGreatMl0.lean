/-
  The library of the decompiler, as far as it is needed here. Conditions: none.
-/
import Derived.WalkKit
import Derived.StillTail
import Derived.OwnWalkIn
import Derived.RangeFuncNested
import Derived.RangeFuncLeaves
import Derived.RangeFuncCalls
import Derived.ChangeSame
import Derived.OpenShut
import Derived.Carry
import Derived.DataReads
import Derived.Lib.AppendZerosOnto
import Derived.Lib.Overlaps
set_option linter.defProp false
set_option linter.unusedVariables false
set_option linter.unusedSimpArgs false
namespace Gv
open Go
def I{α:Sort _}{a:α}:a=a:=rfl
def q5:True:=trivial
abbrev aa:=@List
abbrev av:=@Option
abbrev bc:=@Go.World
abbrev bd:=@Go.Value
abbrev bo:=@Go.TypeId
abbrev bO:=@Go.Operand
def PG:=@Array.getD_eq_getD_getElem?
def tb:=@Array.getElem?_append_left
def Fv:=@Array.getElem?_eq_getElem
def PT:=@Array.getElem?_eq_none
def qR:=@Array.getElem?_eq_some_iff
def JN:=@Array.getElem?_modify
def JA:=@Array.getElem?_setIfInBounds_ne
def wq:=@Array.getElem?_toList
def JF:=@Array.size_setIfInBounds
def Qb:=@Array.toList_filter
def PQ:=@BitVec.eq_of_getLsbD_eq
def yU:=@BitVec.eq_of_toNat_eq
def P5:=@BitVec.getLsbD_of_ge
def JB:=@BitVec.getLsbD_ushiftRight
def Kv:=@BitVec.lt_def
def PN:=@BitVec.toNat_ushiftRight
def gJ:=@Bool.and_eq_true
def y1:=@Bool.eq_false_iff
def mI:=@Bool.eq_iff_iff
def p4:=@Bool.false_eq_true
def tj:=@Bool.false_or
def Qj:=@Bool.not_eq_false'
def kN:=@Bool.not_eq_true
def wB:=@Bool.not_eq_true'
def P6:=@Bool.or_eq_false_iff
def nT:=@Bool.or_eq_true
def wM:=@Bool.true_and
def KK:=@Bool.true_or
def PK:=@Classical.byContradiction
def GO:=@Eq.trans
def uH:=@Int.eq_ofNat_of_zero_le
def KR:=@Int.le_refl
def Qk:=@Int.natCast_nonneg
def BA:=@Int.tmod_lt_of_pos
def Kl:=@Int.tmod_nonneg
def F8:=@List.Perm.refl
def wC:=@List.Sublist.refl
def mG:=@List.all_eq_true
def uJ:=@List.any_eq_false
def nj:=@List.any_eq_true
def h3:=@List.append_assoc
def Fw:=@List.append_cancel_left
def JO:=@List.append_inj_left'
def l8:=@List.append_nil
def Ql:=@List.contains_cons
def JP:=@List.contains_iff_mem
def PX:=@List.contains_toArray
def PY:=@List.countP_le_length
def Ka:=@List.count_append
def Qm:=@List.count_eq_zero
def FB:=@List.count_le_length
def Kc:=@List.drop_append
def PF:=@List.drop_append_of_le_length
def B8:=@List.drop_drop
def tc:=@List.drop_eq_getElem_cons
def P7:=@List.drop_eq_nil_iff
def yS:=@List.drop_eq_nil_of_le
def uK:=@List.drop_length
def Bo:=@List.drop_of_length_le
def Qc:=@List.drop_succ_cons
def tg:=@List.drop_take
def th:=@List.drop_zero
def Ft:=@List.eq_nil_of_length_eq_zero
def JV:=@List.eraseIdx_set_eq
def BP:=@List.ext_getElem
def k6:=@List.ext_getElem?
def PZ:=@List.filterMap_append
def td:=@List.filter_append
def wo:=@List.filter_cons_of_neg
def yR:=@List.filter_cons_of_pos
def wx:=@List.filter_eq_self
def Qd:=@List.filter_sublist
def FI:=@List.find?_eq_none
def J0:=@List.flatMap_append
def PR:=@List.flatMap_eq_nil_iff
def F2:=@List.forIn_cons
def JW:=@List.getElem?_append
def JD:=@List.getElem?_append_left
def PI:=@List.getElem?_append_right
def kM:=@List.getElem?_drop
def oO:=@List.getElem?_eq_getElem
def JQ:=@List.getElem?_eq_none
def fY:=@List.getElem?_eq_some_iff
def PU:=@List.getElem?_eraseIdx
def nR:=@List.getElem?_set
def uI:=@List.getElem?_set_ne
def yT:=@List.getElem?_set_self
def jN:=@List.getElem?_take
def JL:=@List.getElem_cons_drop
def y4:=@List.getElem_map
def mH:=@List.getElem_mem
def Qe:=@List.getElem_of_mem
def FJ:=@List.getElem_range
def fB:=@List.length_append
def jh:=@List.length_drop
def PV:=@List.length_eq_one_iff
def Fx:=@List.length_eq_zero_iff
def PO:=@List.length_erase_of_mem
def Bq:=@List.length_filter_le
def jO:=@List.length_map
def PW:=@List.length_pos_of_mem
def wD:=@List.length_range
def Bp:=@List.length_replicate
def sc:=@List.length_set
def fg:=@List.length_take
def tf:=@List.map_append
def J1:=@List.map_congr_left
def mJ:=@List.map_cons
def uN:=@List.map_map
def Gx:=@List.map_nil
def bX:=@List.mem_append
def JX:=@List.mem_append_left
def Br:=@List.mem_append_right
def dB:=@List.mem_cons
def fr:=@List.mem_cons_of_mem
def j8:=@List.mem_cons_self
def P8:=@List.mem_erase_of_ne
def sd:=@List.mem_filter
def J9:=@List.mem_filterMap
def yX:=@List.mem_iff_getElem
def mE:=@List.mem_iff_getElem?
def gH:=@List.mem_map
def er:=@List.mem_of_getElem?
def yY:=@List.mem_of_mem_drop
def PL:=@List.mem_or_eq_of_mem_set
def nn:=@List.mem_range
def gG:=@List.mem_singleton
def qT:=@List.nil_sublist
def nS:=@List.nodup_append
def nm:=@List.nodup_cons
def Kq:=@List.nodup_nil
def uL:=@List.not_mem_nil
def FC:=@List.pairwise_append
def l6:=@List.pairwise_cons
def BF:=@List.pairwise_map
def mF:=@List.perm_append_comm
def PJ:=@List.perm_ext_iff_of_nodup
def p6:=@List.perm_middle
def y6:=@List.range_succ
def P0:=@List.set_getElem_self
def Qn:=@List.singleton_inj
def BG:=@List.size_toArray
def Kw:=@List.take_add
def Kb:=@List.take_add_one
def FV:=@List.take_append
def fw:=@List.take_append_drop
def yQ:=@List.take_append_of_le_length
def F9:=@List.take_left
def l7:=@List.take_length
def qS:=@List.take_of_length_le
def p8:=@List.take_take
def Gg:=@Nat.add_assoc
def KL:=@Nat.add_comm
def lG:=@Nat.add_mul
def ma:=@Nat.beq_refl
def P1:=@Nat.ble_eq_true_of_le
def BW:=@Nat.div_add_mod
def Kg:=@Nat.div_eq_of_lt
def P2:=@Nat.div_lt_iff_lt_mul
def P9:=@Nat.div_lt_of_lt_mul
def KS:=@Nat.div_one
def P3:=@Nat.eq_of_beq_eq_true
def Qo:=@Nat.eq_zero_or_pos
def ni:=@Nat.le_of_ble_eq_true
def h5:=@Nat.le_refl
def oQ:=@Nat.le_trans
def Gh:=@Nat.lt_irrefl
def p5:=@Nat.lt_of_lt_of_le
def wP:=@Nat.lt_or_ge
def nk:=@Nat.min_eq_left
def Kd:=@Nat.min_eq_right
def Kh:=@Nat.mod_eq_of_lt
def Cv:=@Nat.mod_lt
def p9:=@Nat.mul_comm
def FE:=@Nat.mul_le_mul_left
def gp:=@Nat.mul_le_mul_right
def KM:=@Nat.ne_of_lt
def KT:=@Nat.one_mul
def BB:=@Nat.pos_of_ne_zero
def PM:=@Nat.shiftRight_eq_div_pow
def qa:=@Nat.succ_mul
def iS:=@Nat.zero_add
def uO:=@Nat.zero_le
def wQ:=@Nat.zero_mul
def w0:=@Ne.symm
def Kx:=@Go.Oper.semAt_eq
def tk:=@Go.Oper.wp_mono
def PS:=@Option.bind_eq_some_iff
def JE:=@Option.isNone_iff_eq_none
def JG:=@Option.isSome_iff_exists
def y7:=@Option.some.inj
def fC:=@Option.some.injEq
def zg:=@Prod.mk.injEq
def JY:=@Go.Region.waitsFor_spec
def df:=@Go.Sem.run_bind
def Jz:=@Std.Legacy.Range.forIn_eq_forIn_range'
def Ky:=@Go.StepsIn.trans
def JJ:=@Go.World.putObj_heap_other
def FW:=@Go.World.size_alloc
def GP:=@and_true
def Qa:=@beq_eq_false_iff_ne
def nV:=@beq_iff_eq
def BQ:=@beq_self_eq_true
def GD:=@Go.calls_of_wp
def Ct:=@Go.cell_of_row
def dF:=@congrArg
def wH:=@decide_eq_false
def mD:=@decide_eq_false_iff_not
def za:=@decide_eq_true
def fZ:=@decide_eq_true_eq
def KN:=@decide_false
def KU:=@decide_true
def zm:=@Go.fenced_calm
def mK:=@if_false
def bk:=@if_neg
def bm:=@if_pos
def kO:=@if_true
def uP:=@Go.mem_ready
def w1:=@not_or
def Qp:=@of_decide_eq_false
def wE:=@of_decide_eq_true
def uR:=@or_false
def GF:=@Go.run_endLoop
def Km:=@Go.run_eqGuard_agg
def FK:=@Go.run_loadCells_list
def BH:=@Go.run_storeCells_at
def dn:=@Go.run_underlying
def Mz(w:bc)(o:Obj)(i:Nat)(h:i<w.heap.size):(w.alloc o).heap[i]? =w.heap[i]? :=by
 show(w.heap.push o)[i]? =w.heap[i]?;rw[Array.getElem?_push,bk (KM h)]
def TI(w:bc)(o:Obj):(w.alloc o).heap[w.heap.size]? =some o:=by
 show(w.heap.push o)[w.heap.size]? =some o;simp
structure Fr(X:List Nat)(W W':World):Prop where
 os:W'.os=W.os
 tape:W'.tape=W.tape
 output:W'.output=W.output
 drawn:W.drawn<=W'.drawn
 size:W.heap.size<=W'.heap.size
 block:∀k,k<W.heap.size->k∉X->W'.heap[k]? =W.heap[k]?
def Fr.refl(X:aa Nat)(W:bc):Fr X W W:=⟨rfl,rfl,rfl,h5 _,h5 _,λ_ _ _=>rfl⟩
def Fr.trans{X:aa Nat}{A B C:bc}(h:Fr X A B)(k:Fr X B C):Fr X A C:=
 ⟨k.os.trans h.os,k.tape.trans h.tape,k.output.trans h.output,oQ h.drawn k.drawn,oQ h.size k.size,
   λi aw al=>(k.block i (p5 aw h.size) al).trans (h.block i aw al)⟩
def Fr.weaken{X Y:aa Nat}{A B:bc}(h:Fr X A B)(s:∀k∈X,k∈Y):Fr Y A B:=
 ⟨h.os,h.tape,h.output,h.drawn,h.size,λi aw al=>h.block i aw λhm=>al (s _ hm)⟩
def Fr.nil{X:aa Nat}{A B:bc}(h:Fr [] A B):Fr X A B:=h.weaken (by simp)
def Fr.alloc{X:aa Nat}(W:bc)(o:Obj):Fr X W (W.alloc o):=
 ⟨rfl,rfl,rfl,h5 _,by simp,λk hk _=>Mz W o k hk⟩
def Fr.drew{X:aa Nat}(W:bc):Fr X W W.drew:=⟨rfl,rfl,rfl,Nat.le_succ _,h5 _,λ_ _ _=>rfl⟩
def Fr.setRow{X:aa Nat}(W:bc)(g:Nat)(cs:Array bd)(h:g∈X):Fr X W (W.setRow g cs):=
 ⟨rfl,rfl,rfl,h5 _,by simp,λk _ al=>setRow_other W g k cs (λe=>al (e▸h))⟩
structure Ext(A:List Nat)(W:World)(cg:List Nat)(W':World):Prop where
 size:W.heap.size<=W'.heap.size
 block:∀k,k<W.heap.size->k∉A->W'.heap[k]? =W.heap[k]?
 new:∀k∈cg,k<W.heap.size->k∈A
def Ext.refl(A:aa Nat)(W:bc):Ext A W A W:=⟨h5 _,λ_ _ _=>rfl,λ_ h _=>h⟩
def Ext.trans{A B C:aa Nat}{U V W:bc}(h:Ext A U B V)(k:Ext B V C W):Ext A U C W:=
 ⟨oQ h.size k.size,
  λi aw a1=>(k.block i (p5 aw h.size) (λhb=>a1 (h.new i hb aw))).trans (h.block i aw a1),
  λi ak aw=>h.new i (k.new i ak (p5 aw h.size)) aw⟩
def Ext.US{A X:aa Nat}{W W':bc}(h:Fr X W W')(s:∀k∈X,k∈A):Ext A W A W':=
 ⟨h.size,λk hk a1=>h.block k hk λal=>a1 (s k al),λ_ h _=>h⟩
def Ext.cW{A:aa Nat}{W W':bc}(h:Fr [] W W'):Ext A W A W':=.US h (by simp)
def Ext.drop{A cg:aa Nat}{W:bc}(s:∀k∈cg,k∈A):Ext A W cg W:=⟨h5 _,λ_ _ _=>rfl,λk h _=>s k h⟩
structure J where
 holds:List Nat->World->Value->Prop
 mono:∀{A W cg W' v},Ext A W cg W'->holds A W v->holds cg W' v
class ag (α:Type)where
 size:Nat
 agg:Bool
 rep:aa Nat->bc->aa bd->α->Prop
 len:∀{A W cs x},rep A W cs x->cs.length=size
 one:∀{A W cs x},rep A W cs x->∀v∈cs,v.oneCell'=true
 flat:agg=false->size=1
 mono:∀{A W cg W' cs x},Ext A W cg W'->rep A W cs x->rep cg W' cs x
def shaped(b:Bool)(v:bd):Prop:=if b=true then ∃cs,v=.agg cs else v.oneCell'=true
def cells_one{v:bd}(h:v.oneCell'=true):v.cells= #[v]:=by cases v <;> first|rfl|simp[Value.oneCell']at h
def J.of{α:Type}[ag α](x:α):J where
 holds A W v:=shaped (ag.agg α) v∧ag.rep A W v.cells.toList x
 mono e h:=⟨h.1,ag.mono e h.2⟩
def J.eq(u:bd):J where
 holds _ _ v:=v=u
 mono _ h:=h
def J.cond(c:Prop)(τ:J):J where
 holds A W v:=(c->τ.holds A W v)∧(¬c->v=undef)
 mono e h:=⟨λak=>τ.mono e (h.1 ak),h.2⟩
def J.any:J where
 holds _ _ _:=True
 mono _ h:=h
inductive fK(A:List Nat)(W:World):List J->List Value->Prop
 |nil:fK A W [] []
 |cons {τ v τs vs}:τ.holds A W v->fK A W τs vs->fK A W (τ::τs) (v::vs)
def fK.mono{A W cg W'}(e:Ext A W cg W'):∀{τs vs},fK A W τs vs->fK cg W' τs vs
 |_,_,.nil=>.nil
 |_,_,.cons h r=>.cons (J.mono _ e h) (r.mono e)
def fK.length{A W}:∀{τs vs},fK A W τs vs->vs.length=τs.length
 |_,_,.nil=>rfl
 |_,_,.cons _ r=>by simp[r.length]
def J.bR(τs:aa J):J where
 holds A W v:=∃vs:Array bd,v=.tuple vs∧fK A W τs vs.toList
 mono e h:=let⟨vs,a7,ch⟩:=h; ⟨vs,a7,ch.mono e⟩
def J.ptr{α:Type}[ag α](x:α):J where
 holds A W v:=∃b off cur T hQ,v=.pointer (some ⟨b,off,none⟩)∧b∉A∧W.heap[b]? =some (.cells cur T hQ)∧off+ag.size α<=cur.size∧ag.rep A W ((cur.toList.drop off).take (ag.size α)) x
 mono e h:=by
  obtain⟨b,off,cur,T,hQ,rfl,hb,ch,hs,aC⟩:=h;have bS:b<_:=(qR.1 ch).1;exact⟨b,off,cur,T,hQ,rfl,λhm=>hb (e.new b hm bS),by rw[e.block b bS hb];exact ch,hs,ag.mono e aC⟩
structure dN where
 holds:List Nat->World->Obj->Prop
 nA:Prop
 mono:∀{A W cg W' o},Ext A W cg W'->holds A W o->holds cg W' o
def dN.var{α:Type}[ag α](x:α):dN where
 holds A W o:=∃cs T,o=.cells cs T (0,0)∧ag.rep A W cs.toList x
 nA:=False
 mono e h:=let⟨cs,T,aS,aC⟩:=h; ⟨cs,T,aS,ag.mono e aC⟩
def gi{α:Type}[ag α](A:aa Nat)(W:bc)(cs:aa bd)(xs:aa α):Prop:=
 cs.length=xs.length*ag.size α∧∀i (h:i<xs.length),ag.rep A W ((cs.drop (i*ag.size α)).take (ag.size α)) xs[i]
def gi.mono{α:Type}[ag α]{A W cg W'}{cs:aa bd}{xs:aa α}(e:Ext A W cg W')(h:gi A W cs xs):gi cg W' cs xs:=
 ⟨h.1,λi aw=>ag.mono e (h.2 i aw)⟩
def dN.row{α:Type}[ag α](T:bo)(xs:aa α)(cap:Nat):dN where
 holds A W o:=∃cs,o=.cells cs T (0,0)∧cs.size=cap*ag.size α∧xs.length<=cap∧cap<=maxLen∧gi A W (cs.toList.take (xs.length*ag.size α)) xs
 nA:=xs=[]∧cap=0
 mono e h:=let⟨cs,h1,ad,ay,aN,a6⟩:=h; ⟨cs,h1,ad,ay,aN,a6.mono e⟩
def dN.dead:dN where
 holds _ _ _:=True
 nA:=True
 mono _ h:=h
structure aA where
 key:Option Nat
 cp:dN
def aA.ok(A:aa Nat)(W:bc)(e:aA):Prop:=
 match e.key with
 |some p=> ∃o,W.heap[p]? =some o∧e.cp.holds A W o
 |none=>e.cp.nA
def ks:aa aA->aa Nat
 |[]=>[]
 | e::r=>match e.key with
   |some p=>p::ks r
   |none=>ks r
def qh{L:aa aA}{k:Nat}:k∈ks L↔∃e∈L,e.key=some k:=by
 induction L with
 |nil=>simp[ks]
 | cons e r bN=>
   cases hk:e.key with
   |none=>simp[ks,hk,bN]
   |some p=>simp[ks,hk,bN,eq_comm]
structure bW where
 P:Program
 n:Nat
 iE:World
 X:List Nat
 bL:List Nat
 rd:Option Nat
 ds:List Deferred
def rk(D:Nat):Deferred:= {target:=.collected D,args:= #[]}
abbrev bW.F(c:bW):Fence:= {fn:=λ_=>True,depth:=none,alive:=false,round:=c.rd}
abbrev bW.wp(c:bW)(y:Code)(Q:Exit->Act->bc->Prop):Act->bc->Prop:=y.wpIn c.F 9 c.P Q
abbrev bW.rE(c:bW)(ops:Array Oper)(Q:Exit->Act->bc->Prop):aa Oper->Act->bc->Prop:=wpListIn c.F 9 c.P ops Q
def look:aa (Nat×J)->Nat->av J
 |[],_=>none
 |(s,τ)::r,t=>bif Nat.beq s t then some τ else look r t
structure bA(c:bW)(E:List (Nat×J))(L:List aA)(a:Act)(W:World):Prop where
 defers:a.defers=c.ds
 size:a.tmps.size=c.n
 env:∀t τ,look E t=some τ->∃v,a.tmps[t]? =some v∧τ.holds (ks L++c.bL) W v
 cW:Fr c.X c.iE W
 own:∀e∈L,e.ok (ks L++c.bL) W
 nodup:(ks L).Nodup
 lt:∀k∈ks L,k<W.heap.size
 fa:∀k∈ks L,k<c.iE.heap.size->k∈c.X
 dK:∀k∈c.bL,k<W.heap.size∧k∉ks L
def eO{s t:Nat}:Nat.beq s t=true↔s=t:=by
 constructor
 ·exact P3
 rintro rfl;exact ma s
def bA.C6{c E L a W}(h:bA c E L a W):∀k∈ks L++c.bL,k<W.heap.size:=by
 intro k hk;rcases bX.1 hk with hk|hk
 ·exact h.lt k hk
 exact(h.dK k hk).1
def bA.world{c E L a W W'}(h:bA c E L a W)(f:Fr [] W W'):bA c E L a W' where
 defers:=h.defers
 size:=h.size
 env t τ ao:=let⟨v,h1,ad⟩:=h.env t τ ao; ⟨v,h1,τ.mono (.cW f) ad⟩
 cW:=h.cW.trans f.nil
 own e he:=by
  have h1:=h.own e he;unfold aA.ok at *;split at h1
  ·rename_i p hp;obtain⟨o,aS,ch⟩:=h1;have bS:=h.lt p (qh.2 ⟨e,he,hp⟩);exact⟨o,by rw[f.block p bS (by simp)];exact aS,dN.mono _ (.cW f) ch⟩
  exact h1
 nodup:=h.nodup
 lt k hk:=p5 (h.lt k hk) f.size
 fa:=h.fa
 dK k hk:=⟨p5 (h.dK k hk).1 f.size,(h.dK k hk).2⟩
def bA.put{c E L a W}(h:bA c E L a W){d:Nat}(hd:d<c.n){v:bd}{τ:J}(a7:τ.holds (ks L++c.bL) W v):
 bA c ((d,τ)::E) L (a.put (some d) v) W where
 defers:=h.defers
 size:=by simp[Act.put,h.size]
 env t rF ao:=by
  simp only[look]at ao;simp only[Act.put];by_cases e:Nat.beq d t=true
  ·rw[e]at ao;simp only[cond_true,fC]at ao;subst ao;have:=eO.1 e;subst this;exact⟨v,by simp[h.size,hd],a7⟩
  simp only[kN]at e;rw[e]at ao;simp only[cond_false]at ao;obtain⟨u,h1,ad⟩:=h.env t rF ao;have cR:d≠t:=λh=>by rw[eO.2 h]at e;cases e
  exact⟨u,by rw[JA cR];exact h1,ad⟩
 cW:=h.cW
 own:=h.own
 nodup:=h.nodup
 lt:=h.lt
 fa:=h.fa
 dK:=h.dK
def bA.xg{c E L a W}(s:bA c E L a W)(h:c.ds=[]):a.defers=[]:=by rw[s.defers,h]
def bA.less{c E E' L a W}(h:bA c E L a W)(aK:∀t τ,look E' t=some τ->∃σ,look E t=some σ∧∀A W v,σ.holds A W v->τ.holds A W v):bA c E' L a W:=
 {h with env:=λt τ ao=>let⟨_,h1,ad⟩:=aK t τ ao;let⟨v,ay,aN⟩:=h.env t _ h1; ⟨v,ay,ad _ _ _ aN⟩}
def bA.alloc{c E L a W}(h:bA c E L a W){o:Obj}{cp:dN}(ak:cp.holds (ks L++c.bL) W o):
 bA c E (⟨some W.heap.size,cp⟩::L) a (W.alloc o):=by
 have qw:W.heap.size∉ks L:=λhm=>Gh _ (h.lt _ hm)
 have ha:Ext (ks L++c.bL) W (ks (⟨some W.heap.size,cp⟩::L)++c.bL) (W.alloc o):=
  ⟨by simp,λk hk _=>Mz W o k hk,λk hk bS=>by
   simp only[ks,List.cons_append,dB]at hk;rcases hk with rfl|hk
   ·exact absurd bS (Gh _)
   exact hk⟩
 exact
 {defers:=h.defers
  size:=h.size
  env:=λt τ ao=>let⟨v,h1,ad⟩:=h.env t τ ao; ⟨v,h1,τ.mono ha ad⟩
  cW:=h.cW.trans (Fr.alloc W o)
  own:=λe he=>by
   rcases dB.1 he with rfl|he
   ·exact⟨o,TI W o,cp.mono ha ak⟩
   have h1:=h.own e he;unfold aA.ok at *;split at h1
   ·rename_i p hp;obtain⟨o',aS,ch⟩:=h1;exact⟨o',by rw[Mz W o p (h.lt p (qh.2 ⟨e,he,hp⟩))];exact aS,dN.mono _ ha ch⟩
   exact h1
  nodup:=by simp only[ks];exact nm.2 ⟨qw,h.nodup⟩
  lt:=λk hk=>by
   simp only[ks,dB]at hk;rw[FW];rcases hk with rfl|hk
   ·omega
   have:=h.lt k hk;omega
  fa:=λk hk bS=>by
   simp only[ks,dB]at hk;rcases hk with rfl|hk
   ·have:=h.cW.size;omega
   exact h.fa k hk bS
  dK:=λk hk=>by
   obtain⟨h1,ad⟩:=h.dK k hk;refine⟨by rw[FW];omega,λhm=>?_⟩;simp only[ks,dB]at hm;rcases hm with rfl|hm
   ·omega
   exact ad hm}
def bA.sub{c E L L' a W}(h:bA c E L a W)(ar:∀e∈L',e∈L)(aG:(ks L').Nodup):bA c E L' a W:=by
 have hk:∀k∈ks L',k∈ks L:=λk hk=>by
  obtain⟨e,he,ad⟩:=qh.1 hk;exact qh.2 ⟨e,ar e he,ad⟩
 have ha:Ext (ks L++c.bL) W (ks L'++c.bL) W:=.drop λk hm=>by
  rcases bX.1 hm with hm|hm
  ·exact bX.2 (.inl (hk k hm))
  exact bX.2 (.inr hm)
 exact
 {defers:=h.defers
  size:=h.size
  env:=λt τ ao=>let⟨v,h1,ad⟩:=h.env t τ ao; ⟨v,h1,τ.mono ha ad⟩
  cW:=h.cW
  own:=λe he=>by
   have h1:=h.own e (ar e he);unfold aA.ok at *;split at h1
   ·obtain⟨o',aS,ch⟩:=h1;exact⟨o',aS,dN.mono _ ha ch⟩
   exact h1
  nodup:=aG
  lt:=λk hm=>h.lt k (hk k hm)
  fa:=λk hm=>h.fa k (hk k hm)
  dK:=λk hm=>⟨(h.dK k hm).1,λad=>(h.dK k hm).2 (hk k ad)⟩}
def ef(L R:aa aA):ks (L++R)=ks L++ks R:=by
 induction L with
 |nil=>rfl
 |cons e r bN=>cases hk:e.key <;> simp[ks,hk,bN]
def HH{L:aa aA}{i:Nat}{e:aA}{cp:dN}(aw:L[i]? =some e):ks (L.set i ⟨e.key,cp⟩)=ks L:=by
 induction L generalizing i with
 |nil=>simp at aw
 | cons x r bN=>
   cases i with
   |zero=>simp only[List.getElem?_cons_zero,fC]at aw;subst aw;simp[ks]
   |succ i=>simp only[List.getElem?_cons_succ]at aw;simp[ks,bN aw]
def MA{L:aa aA}(aG:(ks L).Nodup){i j:Nat}{e f:aA}{p:Nat}(aw:L[i]? =some e)(aD:L[j]? =some f)(he:e.key=some p)(aU:f.key=some p):i=j:=by
 induction L generalizing i j with
 |nil=>simp at aw
 | cons x r bN=>
   have aC:(ks r).Nodup:=by
    cases al:x.key with
    |none=>simpa[ks,al]using aG
    |some q=>simp only[ks,al]at aG;exact(nm.1 aG).2
   have DE:∀q,x.key=some q->q∉ks r:=λq al=>by simp only[ks,al]at aG;exact(nm.1 aG).1
   cases i with
   | zero=>
     simp only[List.getElem?_cons_zero,fC]at aw
     subst aw
     cases j with
     |zero=>rfl
     | succ j=>
       simp only[List.getElem?_cons_succ]at aD
       exact absurd (qh.2 ⟨f,er aD,aU⟩) (DE p he)
   | succ i=>
     simp only[List.getElem?_cons_succ]at aw
     cases j with
     | zero=>
       simp only[List.getElem?_cons_zero,fC]at aD
       subst aD
       exact absurd (qh.2 ⟨e,er aw,he⟩) (DE p aU)
     | succ j=>
       simp only[List.getElem?_cons_succ]at aD
       rw[bN aC aw aD]
def bA.store{c E L a W}(h:bA c E L a W){i p:Nat}{cp cp':dN}(aw:L[i]? =some ⟨some p,cp⟩){cs dY:Array bd}{T:bo}
 (aS:W.heap[p]? =some (.cells cs T (0,0))) (ak:cp'.holds (ks L++c.bL) W (.cells dY T (0,0))):
 bA c E (L.set i ⟨some p,cp'⟩) a (W.setRow p dY):=by
 have fz:ks (L.set i ⟨some p,cp'⟩)=ks L:=HH (cp:=cp') aw
 have hp:p∈ks L:=qh.2 ⟨_,er aw,rfl⟩
 have ha:Ext (ks L++c.bL) W (ks L++c.bL) (W.setRow p dY):=
  ⟨by simp,λk _ a1=>setRow_other W p k dY (λe=>a1 (e▸bX.2 (.inl hp))),λ_ h _=>h⟩
 exact
 {defers:=h.defers
  size:=h.size
  env:=λt τ ao=>by rw[fz];exact let⟨v,h1,ad⟩:=h.env t τ ao; ⟨v,h1,τ.mono ha ad⟩
  cW:=⟨h.cW.os,h.cW.tape,h.cW.output,h.cW.drawn,by simpa using h.cW.size,λk hk al=>by
   rw[setRow_other W p k dY (λe=>al (e▸h.fa p hp (e▸hk)))];exact h.cW.block k hk al⟩
  own:=λe he=>by
   rw[fz];obtain⟨j,aD⟩:=mE.1 he;rw[nR]at aD;split at aD
   ·rename_i gD;subst gD;split at aD
    ·simp only[fC]at aD;subst aD;exact⟨_,setRow_heap W p cs dY T (0,0) aS,cp'.mono ha ak⟩
    cases aD
   rename_i gD;have h1:=h.own e (er aD);unfold aA.ok at *;split at h1
   ·rename_i q hq;obtain⟨o',ox,ch⟩:=h1;have cR:q≠p:=λe'=>gD (MA h.nodup aw aD I (e'▸hq));exact⟨o',by rw[setRow_other W p q dY cR];exact ox,dN.mono _ ha ch⟩
   exact h1
  nodup:=by rw[fz];exact h.nodup
  lt:=by rw[fz];simpa using h.lt
  fa:=by rw[fz];exact h.fa
  dK:=by rw[fz];simpa using h.dK}
abbrev ag.scalar{α:Type}(val:α->bd)(h:∀x,(val x).oneCell'=true):ag α where
 size:=1
 agg:=false
 rep _ _ cs x:=cs=[val x]
 len h:=by rw[h];rfl
 one aC:=by subst aC;intro v a7;rw[gG.1 a7];exact h _
 flat _:=rfl
 mono _ h:=h
instance:ag Bool:=.scalar Value.bool λ_=>rfl
instance:ag Int:=.scalar (Value.int .i64) λ_=>rfl
instance:ag (BitVec 64):=.scalar (λx=>Value.int .u64 (x.toNat:Int)) λ_=>rfl
instance:ag (BitVec 32):=.scalar (λx=>Value.int .u32 (x.toNat:Int)) λ_=>rfl
instance:ag (BitVec 16):=.scalar (λx=>Value.int .u16 (x.toNat:Int)) λ_=>rfl
instance:ag (BitVec 8):=.scalar (λx=>Value.int .u8 (x.toNat:Int)) λ_=>rfl
instance:ag ByteArray:=.scalar Value.string λ_=>rfl
def mM{v u:bd}(h:v.oneCell'=true)(e:v.cells.toList=[u]):v=u:=by
 rw[cells_one h]at e;simpa using e
def of_bool{A W v}{b:Bool}:(J.of b).holds A W v↔v=.bool b:=
 ⟨λh=>mM h.1 h.2,λh=>by subst h;exact⟨rfl,rfl⟩⟩
def of_int{A W v}{x:Int}:(J.of x).holds A W v↔v=.int .i64 x:=
 ⟨λh=>mM h.1 h.2,λh=>by subst h;exact⟨rfl,rfl⟩⟩
def im{A W v}{x:BitVec 64}:(J.of x).holds A W v↔v=.int .u64 (x.toNat:Int):=
 ⟨λh=>mM h.1 h.2,λh=>by subst h;exact⟨rfl,rfl⟩⟩
def H9{A W v}{x:BitVec 8}:(J.of x).holds A W v↔v=.int .u8 (x.toNat:Int):=
 ⟨λh=>mM h.1 h.2,λh=>by subst h;exact⟨rfl,rfl⟩⟩
def HI{A W v}{x:ByteArray}:(J.of x).holds A W v↔v=.string x:=
 ⟨λh=>mM h.1 h.2,λh=>by subst h;exact⟨rfl,rfl⟩⟩
def aL(c:bW)(E:aa (Nat×J))(L:aa aA)(x:bO)(τ:J):Prop:=∀a W,bA c E L a W->τ.holds (ks L++c.bL) W (a.eval x)
section
variable{c:bW}{E:aa (Nat×J)}{L:aa aA}
def ai{t:Nat}{τ:J}(h:look E t=some τ):aL c E L (.tmp t) τ:=λa W s=>by
 obtain⟨v,h1,ad⟩:=s.env t τ h;have:a.eval (.tmp t)=v:=by simp[Act.eval,h1]
 rw[this];exact ad
def cM{t:Nat}{τ:J}{p:Prop}(h:look E t=some (.cond p τ))(hp:p):aL c E L (.tmp t) τ:=λa W s=>(ai h a W s).1 hp
def Hw(v:bd):aL c E L (.const v) (.eq v):=λ_ _ _=>rfl
def c8(k:Int):aL c E L (.const (.int .i64 k)) (.of k):=λ_ _ _=>of_int.2 I
def gI(b:Bool):aL c E L (.const (.bool b)) (.of b):=λ_ _ _=>of_bool.2 I
def xe(x:BitVec 64){k:Int}(h:(x.toNat:Int)=k):aL c E L (.const (.int .u64 k)) (.of x):=λ_ _ _=>im.2 (by rw[h];rfl)
def fJ(s:ByteArray):aL c E L (.const (.string s)) (.of s):=λ_ _ _=>HI.2 I
def gz(P:Program)(o:Oper)(a:Act)(W:bc)(R:bd->bc->Prop):Prop:=
 o.wp P a W (λgQ W'=> ∃v,gQ=a.put o.dst v∧R v W') (λ_ _ _=>False)
def CallsIn.L3{rd:av Nat}{n:Nat}{P:Program}{f:FuncId}{args:Array bd}{w:bc}{R:Ending->bc->Prop}
 (h:Calls P f args w R):CallsIn {fn:=λ_=>True,depth:=none,alive:=false,round:=rd} n P f args w R:=
 (callsIn_wide (n:=n)).2 h
def RowsIn.aeo{rd:av Nat}{n:Nat}{P:Program}{row:String}{args:Array bd}{w:bc}{R:bd->bc->Prop}
 (h:Rows P row args w R):RowsIn {fn:=λ_=>True,depth:=none,alive:=false,round:=rd} n P row args w R:=
 λc cs _=>let⟨v,ps,r,s⟩:=h c cs; ⟨v,ps,r,stepsIn_wide.2 s⟩
def gz.wp{P:Program}{o:Oper}{a:Act}{W:bc}{R:bd->bc->Prop}{next:Act->bc->Prop}{Q:Exit->Act->bc->Prop}
 (h:gz P o a W R) (hk:∀v W',R v W'->next (a.put o.dst v) W'):o.wp P a W next Q:=by
 unfold gz Oper.wp at *
 generalize (execOp a.eval o).run P W=r at *
 cases r with
 | ok n W'=>
   cases n <;> simp only[Oper.upon]at h⊢
   case value v=>obtain⟨u,h1,ad⟩:=h;rw[h1];exact hk _ _ ad
   case skip=>obtain⟨u,h1,ad⟩:=h;rw[h1];exact hk _ _ ad
   case defer d=>obtain⟨u,h1,ad⟩:=h;rw[h1];exact hk _ _ ad
   case enter f args=>
    refine h.mono λe sT he=>?_
    cases e with
    |returned v=>obtain⟨u,h1,ad⟩:=he;simp only at h1⊢;rw[h1];exact hk _ _ ad
    |panicked E5=>exact he.elim
    |outgrown=>obtain⟨_,_,h1⟩:=he;exact h1.elim
   case row row args=>exact h.mono λv sT ⟨u,h1,ad⟩=>by rw[h1];exact hk _ _ ad
 |halt x W'=>cases x <;> simp only[Oper.upon]at h
def gz.acb{P:Program}{o:Oper}{a:Act}{W:bc}{R:bd->bc->Prop}(h:gz P o a W R):∀c,o.op≠ .defer c:=by
 intro c aS;unfold gz Oper.wp execOp at h;rw[aS]at h;simp only[df]at h;generalize (resolve a.eval c o.type).run P W=r at h;cases r with
 | ok d W'=>
   simp only[Result.andThen,Sem.run_pure,Oper.upon]at h
   obtain⟨v,h1,_⟩:=h
   have:=dF Act.defers h1
   cases hd:o.dst <;> simp[Act.put,hd]at this
 |halt x W'=>cases x <;> simp only[Result.andThen,Oper.upon]at h
def gz.wpIn{c:bW}{n:Nat}{o:Oper}{a:Act}{W:bc}{R:bd->bc->Prop}{next:Act->bc->Prop}{Q:Exit->Act->bc->Prop}
 (h:gz c.P o a W R) (hk:∀v W',R v W'->next (a.put o.dst v) W'):o.wpIn c.F n c.P a W next Q:=by
 refine⟨λ_ _=>trivial,?_⟩
 rw[Kx _ _ _ h.acb]
 unfold gz Oper.wp at h
 generalize (execOp a.eval o).run c.P W=r at *
 cases r with
 | ok m W'=>
   cases m <;> simp only[Oper.upon,Oper.uponIn]at h⊢
   case value v=>obtain⟨u,h1,ad⟩:=h;rw[h1];exact hk _ _ ad
   case skip=>obtain⟨u,h1,ad⟩:=h;rw[h1];exact hk _ _ ad
   case defer d=>obtain⟨u,h1,ad⟩:=h;rw[h1];exact hk _ _ ad
   case enter f args=>
    refine⟨λh=>by simp at h,CallsIn.L3 ?_⟩
    refine h.mono λe sT he=>?_
    cases e with
    |returned v=>obtain⟨u,h1,ad⟩:=he;simp only at h1⊢;rw[h1];exact hk _ _ ad
    |panicked E5=>exact he.elim
    |outgrown=>obtain⟨_,_,h1⟩:=he;exact h1.elim
   case row row args=>
    refine⟨λh=>by simp at h,RowsIn.aeo ?_⟩
    exact h.mono λv sT ⟨u,h1,ad⟩=>by rw[h1];exact hk _ _ ad
 |halt x W'=>cases x <;> simp only[Oper.upon]at h
def K3{F:Fence}{n:Nat}{P:Program}{md:Region.Mode}{ops:Array Oper}{rR:Exit->Act->bc->Prop}:∀(l:aa Oper) (k:Nat) (bQ:Array Bool) (a:Act) (w:bc),(∀j,l[j]? =ops[k+j]?)->
 Region.seqB md ops l.length k bQ=true->wpListIn F n P ops rR l a w->wpAnyIn F n P md ops rR l.length bQ a w
 |[],_,_,_,_,_,ec,h=>⟨by simpa[Region.seqB]using ec,h⟩
 | o::l,k,bQ,a,w,ao,ec,h=>by
   have bw:ops[k]? =some o:=by simpa using (ao 0).symm
   simp only[List.length_cons,Region.seqB,gJ,fZ]at ec;refine⟨λh1=>(by rw[ec.1]at h1;cases h1),λi aw=>?_⟩;rw[ec.1]at aw;have mX:i=k:=by simpa using aw
   subst mX;have hw:wpOpIn F n P ops rR i (wpListIn F n P ops rR l) a w:=by unfold wpOpIn;simp only[bw];exact h
   exact wpOpIn_mono (λgQ ps cC=>K3 l (i+1) _ gQ ps (λj=>by have:=ao (j+1);simpa[Gg,KL 1 j]using this) ec.2 cC) hw
def gz.lj{P:Program}{o:Oper}{a:Act}{W W':bc}{R:bd->bc->Prop}{v:bd}
 (h:(execOp a.eval o).run P W=.ok (.value v) W') (aC:R v W'):gz P o a W R:=by
 unfold gz Oper.wp
 rw[h]
 exact⟨v,rfl,aC⟩
def gz.zS{P:Program}{o:Oper}{a:Act}{W W':bc}{R:bd->bc->Prop}
 (h:(execOp a.eval o).run P W=.ok .skip W') (aC:R undef W'):gz P o a W R:=by
 unfold gz Oper.wp
 rw[h]
 exact⟨undef,rfl,aC⟩
def gz.tt{P:Program}{o:Oper}{a:Act}{W W':bc}{R:bd->bc->Prop}{f:FuncId}{args:Array bd}
 (h:(execOp a.eval o).run P W=.ok (.enter f args) W') (aC:Calls P f args W' λe sT=> ∃v,e=.returned v∧R v sT):gz P o a W R:=by
 unfold gz Oper.wp
 rw[h]
 exact aC.mono λe sT ⟨v,he,ad⟩=>by subst he;exact⟨v,rfl,ad⟩
def ba(c:bW)(E:aa (Nat×J))(L:aa aA)(o:Oper)(τ:J):Prop:=
 ∀a W,bA c E L a W->gz c.P o a W λv W'=>Fr [] W W'∧τ.holds (ks L++c.bL) W' v
def ba.pure{o:Oper}{τ:J}(h:∀a W,bA c E L a W->∃v,(execOp a.eval o).run c.P W=.ok (.value v) W∧τ.holds (ks L++c.bL) W v):ba c E L o τ:=
 λa W s=>let⟨_,h1,ad⟩:=h a W s; .lj h1 ⟨.refl _ _,ad⟩
variable{ops:Array Oper}{Q:Exit->Act->bc->Prop}
def ae(c:bW)(ops:Array Oper)(Q:Exit->Act->bc->Prop)(l:aa Oper)(E:aa (Nat×J))(L:aa aA):Prop:=
 ∀a W,bA c E L a W->c.rE ops Q l a W
def aq(c:bW)(Q:Exit->Act->bc->Prop)(x:Exit)(E:aa (Nat×J))(L:aa aA):Prop:=∀a W,bA c E L a W->Q x a W
def ae.nil(h:aq c Q .normal E L):ae c ops Q [] E L:=λa W s=>wpListIn_nil (h a W s)
def hl{c:bW}{o:Oper}{rest:aa Oper}{a:Act}{W:bc}(bu:o.guard=none){R:bd->bc->Prop}(h:gz c.P o a W R)
 (hk:∀v W',R v W'->c.rE ops Q rest (a.put o.dst v) W'):c.rE ops Q (o::rest) a W:=
 wpListIn_plain bu λ_ pt=>h.wpIn λv W' aC=>pt _ _ (hk v W' aC)
def ae.v{o:Oper}{rest:aa Oper}{d:Nat}{τ:J}(h:ba c E L o τ)(bu:o.guard=none)(hd:o.dst=some d)(aG:Nat.blt d c.n=true)
 (k:ae c ops Q rest ((d,τ)::E) L):ae c ops Q (o::rest) E L:=λa W s=>
 hl bu (h a W s) λv W' ⟨f,a7⟩=>by
  rw[hd];exact k _ _ ((s.world f).put (by simpa using aG) a7)
def G1{j g:Nat}{b:Bool}(aD:(ops[j]?).bind (·.dst)=some g)(ao:look E g=some (.of b)){a:Act}{W:bc}(s:bA c E L a W):
 yielded ops a.tmps j=some b:=by
 obtain⟨v,h1,ad⟩:=s.env g _ ao
 unfold yielded
 rw[aD]
 simp only[Option.bind_some,h1,of_bool.1 ad]
def ae.g{o:Oper}{rest:aa Oper}{d j g:Nat}{b want:Bool}{τ:J}(h:b=want->ba c E L o τ)(bu:o.guard=some (j,want))(aD:(ops[j]?).bind (·.dst)=some g)
 (ao:look E g=some (.of b)) (hd:o.dst=some d) (aG:Nat.blt d c.n=true)
 (k:ae c ops Q rest ((d,.cond (b=want) τ)::E) L):ae c ops Q (o::rest) E L:=λa W s=>by
 have hy:=G1 aD ao s
 unfold bW.rE wpListIn
 by_cases hb:b=want
 ·rw[bm (by simp[Region.wanted,bu,hy,hb])]
  refine((h hb a W s).wpIn λv W' ⟨f,a7⟩=>?_)
  rw[hd]
  exact k _ _ ((s.world f).put (by simpa using aG) ⟨λ_=>a7,λh=>absurd hb h⟩)
 rw[bk (by simp[Region.wanted,bu,hy,hb])]
 rw[hd]
 exact⟨λ_ _=>trivial,k _ _ (s.put (by simpa using aG) ⟨λh=>absurd h hb,λ_=>rfl⟩)⟩
def aay{j g:Nat}{p:Prop}{b:Bool}(aD:(ops[j]?).bind (·.dst)=some g)(ao:look E g=some (.cond p (.of b))){a:Act}{W:bc}(s:bA c E L a W):
 (p->yielded ops a.tmps j=some b)∧(¬p->yielded ops a.tmps j=none):=by
 obtain⟨v,h1,ad,ay⟩:=s.env g _ ao
 unfold yielded
 rw[aD]
 simp only[Option.bind_some,h1]
 exact⟨λhp=>by simp only[of_bool.1 (ad hp)],λhp=>by simp only[ay hp];rfl⟩
def ae.gg{o:Oper}{rest:aa Oper}{d j g:Nat}{p:Prop}{b want:Bool}{τ:J}(h:p∧b=want->ba c E L o τ)(bu:o.guard=some (j,want))(aD:(ops[j]?).bind (·.dst)=some g)
 (ao:look E g=some (.cond p (.of b))) (hd:o.dst=some d) (aG:Nat.blt d c.n=true)
 (k:ae c ops Q rest ((d,.cond (p∧b=want) τ)::E) L):ae c ops Q (o::rest) E L:=λa W s=>by
 have hy:=aay aD ao s
 unfold bW.rE wpListIn
 by_cases hb:p∧b=want
 ·rw[bm (by simp[Region.wanted,bu,hy.1 hb.1,hb.2])]
  refine((h hb a W s).wpIn λv W' ⟨f,a7⟩=>?_)
  rw[hd]
  exact k _ _ ((s.world f).put (by simpa using aG) ⟨λ_=>a7,λh=>absurd hb h⟩)
 have hw:Region.wanted o (yielded ops a.tmps)=false:=by
  by_cases hp:p
  ·have: ¬(b=want):=λh=>hb ⟨hp,h⟩;simp[Region.wanted,bu,hy.1 hp,this]
  simp[Region.wanted,bu,hy.2 hp]
 rw[bk (by simp[hw])]
 refine⟨λ_ _=>trivial,?_⟩
 rw[hd]
 exact k _ _ (s.put (by simpa using aG) ⟨λh=>absurd h hb,λ_=>rfl⟩)
inductive eb(E:List (Nat×J)):List (Nat×J)->Prop
 |nil:eb E []
 |cons {t τ σ r}:look E t=some σ->(∀A W v,σ.holds A W v->τ.holds A W v)->eb E r->eb E ((t,τ)::r)
def eb.same{t:Nat}{τ:J}{r:aa (Nat×J)}(h:look E t=some τ)(k:eb E r):eb E ((t,τ)::r):=.cons h (λ_ _ _ h=>h) k
def eb.all{r:aa (Nat×J)}(h:eb E r:=by repeat (first|exact eb.nil|refine eb.same I ?_)):eb E r:=h
def eb.look:∀{E':aa (Nat×J)},eb E E'->∀t τ,Gv.look E' t=some τ->∃σ,Gv.look E t=some σ∧∀A W v,σ.holds A W v->τ.holds A W v
 |_,.nil,t,τ,h=>by simp[Gv.look]at h
 | _,.cons (t:=s) (σ:=σ) h1 ad r,t,τ,h=>by
   simp only[Gv.look]at h;by_cases e:Nat.beq s t=true
   ·rw[e]at h;simp only[cond_true,fC]at h;subst h;rw[eO.1 e]at h1;exact⟨σ,h1,ad⟩
   simp only[kN]at e;rw[e]at h;exact r.look t τ h
def aq.le{x:Exit}{E':aa (Nat×J)}(h:eb E E')(k:aq c Q x E' L):aq c Q x E L:=λa W s=>k a W (s.less h.look)
def ae.le{l:aa Oper}{E':aa (Nat×J)}(h:eb E E')(k:ae c ops Q l E' L):ae c ops Q l E L:=λa W s=>k a W (s.less h.look)
def ax(c:bW)(Q:Exit->Act->bc->Prop)(code:Code)(E:aa (Nat×J))(L:aa aA):Prop:=∀a W,bA c E L a W->c.wp code Q a W
def ax.le{code:Code}{E':aa (Nat×J)}(h:eb E E')(k:ax c Q code E' L):ax c Q code E L:=λa W s=>k a W (s.less h.look)
def ax.fc{id:Nat}{l:aa Oper}(h:ae c l.toArray Q l E L):ax c Q (.region id l.toArray false) E L:=λa W s=>wpIn_region_lit (h a W s)
def ax.seq{x y:Code}(h:ax c (Exit.then (c.wp y Q) Q) x E L):ax c Q (.seq x y) E L:=λa W s=>wpIn_seq (h a W s)
def aq.next{y:Code}(h:ax c Q y E L):aq c (Exit.then (c.wp y Q) Q) .normal E L:=λa W s=>h a W s
def aq.exit{y:Act->bc->Prop}{id:Nat}(h:aq c Q (.exit id) E L):aq c (Exit.then y Q) (.exit id) E L:=λa W s=>h a W s
def aq.ret{y:Act->bc->Prop}(h:aq c Q .ret E L):aq c (Exit.then y Q) .ret E L:=λa W s=>h a W s
def ax.block{id:Nat}{x:Code}(h:ax c (Exit.inBlock id Q) x E L):ax c Q (.block id x) E L:=λa W s=>wpIn_block (h a W s)
def aq.q7{id:Nat}(h:aq c Q .normal E L):aq c (Exit.inBlock id Q) .normal E L:=λa W s=>h a W s
def aq.q6{id:Nat}(h:aq c Q .normal E L):aq c (Exit.inBlock id Q) (.exit id) E L:=λa W s=>by
 show(if id=id then Q .normal a W else Q (.exit id) a W);rw[bm I];exact h a W s
def aq.aep{id D8:Nat}(cR:Nat.beq D8 id=false)(h:aq c Q (.exit D8) E L):aq c (Exit.inBlock id Q) (.exit D8) E L:=λa W s=>by
 show(if D8=id then Q .normal a W else Q (.exit D8) a W);rw[bk (λe=>by rw[e,ma]at cR;cases cR)];exact h a W s
def aq.sI{id:Nat}(h:aq c Q .ret E L):aq c (Exit.inBlock id Q) .ret E L:=λa W s=>h a W s
def ax.skip(h:aq c Q .normal E L):ax c Q .skip E L:=λa W s=>wpIn_skip (h a W s)
def ax.exit{id:Nat}(h:aq c Q (.exit id) E L):ax c Q (.exit id) E L:=λa W s=>wpIn_exit (h a W s)
def ax.ret(h:aq c Q .ret E L):ax c Q .ret E L:=λa W s=>wpIn_ret (h a W s)
def ax.cond{x:bO}{b:Bool}{y z:Code}(ao:aL c E L x (.of b))(bq:b=true->ax c Q y E L)(aU:b=false->ax c Q z E L):ax c Q (.cond x y z) E L:=
 λa W s=>wpIn_cond_split (of_bool.1 (ao a W s)) (λh=>bq h a W s) (λh=>aU h a W s)
def eh{σ ε:Type}:Nat->(σ->av (σ⊕ε))->σ->av ε
 |0,_,_=>none
 | n+1,b,s=>match b s with
   |none=>none
   |some (.inl b1)=>eh n b b1
   |some (.inr e)=>some e
def amk{σ ε:Type}(c:bW)(E:σ->aa (Nat×J))(L:σ->aa aA)(xs:ε->Exit)(dL:ε->aa (Nat×J))(Lx:ε->aa aA):σ⊕ε->Exit->Act->bc->Prop
 | .inl s,x,a,W=>x=.normal∧bA c (E s) (L s) a W
 | .inr e,x,a,W=>x≠ .normal∧x=xs e∧bA c (dL e) (Lx e) a W
def aq.round{σ ε:Type}{E':σ->aa (Nat×J)}{L':σ->aa aA}{xs:ε->Exit}{dL:ε->aa (Nat×J)}{Lx:ε->aa aA}{s:σ}
 (h:∀a W,bA c E L a W->bA c (E' s) (L' s) a W):aq c (amk c E' L' xs dL Lx (.inl s)) .normal E L:=λa W st=>⟨rfl,h a W st⟩
def abB{F:Fence}{n:Nat}{P:Program}{body:Code}{σ ε:Type}(b:σ->av (σ⊕ε))(eX:σ->Act->bc->Prop)(X:ε->Exit->Act->bc->Prop)
 (su:∀s r,b s=some r->∀a W,eX s a W->body.wpIn F n P (λx a W=>match r with | .inl b1=>x=.normal∧eX b1 a W| .inr e=>x≠ .normal∧X e x a W) a W)
 (Q:Exit->Act->bc->Prop) (e:ε) (n4:∀x a W,X e x a W->Q x a W) {s0:σ} {N:Nat} (ao:eh N b s0=some e) {a0:Act} {iE:bc} (bw:eX s0 a0 iE):
 (Code.loop body).wpIn F n P Q a0 iE:=by
 intro cW k cs oy hb aC
 have key:∀N s,eh N b s=some e->∀a W,eX s a W->
  ∃x gQ W',Q x gQ W'∧ArrivesIn (Machine.fenced P F) P (lone (cW.atR a (.code body::.inLoop body::k)) cs W) cW k cs x gQ W':=by
  intro N
  induction N with
  |zero=>intro s h;simp[eh]at h
  | succ N bN=>
    intro s h a W nM
    simp only[eh]at h
    split at h
    ·cases h
    ·rename_i b1 hs
     obtain⟨x,qx,Aq,hq,mS⟩:=su s _ hs a W nM cW (.inLoop body::k) cs oy hb aC
     obtain⟨al,Oe⟩:=hq
     subst al
     obtain⟨NR,NS,NT,Ni,L4⟩:=bN b1 h qx Aq Oe
     exact⟨NR,NS,NT,Ni,.of_steps (Ky mS (.one (zm hb aC I) stepR_inLoop)) L4⟩
    rename_i e' hs
    simp only[fC]at h
    subst h
    obtain⟨x,qx,Aq,hq,mS⟩:=su s _ hs a W nM cW (.inLoop body::k) cs oy hb aC
    obtain⟨al,oL⟩:=hq
    exact⟨x,qx,Aq,n4 _ _ _ oL,.pass (x:=.inLoop body) I (λ_ _=>.inl al) mS⟩
 obtain⟨x,gQ,W',hq,mS⟩:=key N s0 ao a0 iE bw
 exact⟨x,gQ,W',hq,.of_steps (.one (zm hb aC I) stepR_loop) mS⟩
def cn(P:Program)(f:FuncId)(τs:aa J)(ρ:J):Prop:=
 ∀ (A:aa Nat) (W:bc) (vs:aa bd),(∀k∈A,k<W.heap.size)->fK A W τs vs->
   Calls P f vs.toArray W λe W'=> ∃v,e=.returned v∧Fr [] W W'∧ρ.holds A W' v
def params:Nat->aa J->aa (Nat×J)
 |_,[]=>[]
 |k,τ::r=>(k,τ)::params (k+1) r
def w4{A:aa Nat}{W:bc}{τs:aa J}{vs:aa bd}(h:fK A W τs vs):∀(k t:Nat) (τ:J),look (params k τs) t=some τ->k<=t∧∃v,vs[t-k]? =some v∧τ.holds A W v:=by
 induction h with
 |nil=>intro k t τ h;simp[params,look]at h
 | cons h1 r bN=>
   intro k t τ ao
   simp only[params,look]at ao
   by_cases e:Nat.beq k t=true
   ·rw[e]at ao
    simp only[cond_true,fC]at ao
    subst ao
    rw[eO.1 e]
    exact⟨h5 _,_,by simp,h1⟩
   simp only[kN]at e
   rw[e]at ao
   have cR:k≠t:=λh=>by rw[eO.2 h]at e;cases e
   obtain⟨ad,v,ay,aN⟩:=bN (k+1) t τ ao
   refine⟨by omega,v,?_,aN⟩
   rw[show t-k=(t-(k+1))+1 by omega,List.getElem?_cons_succ]
   exact ay
def cn.enter{P:Program}{f:FuncId}{fn:Func}{code:Code}{n:Nat}{τs:aa J}{ρ:J}(aU:P.funcs[f]? =some fn)(hb:fn.body=some code)(aG:fn.ntmps=n)(hlen:Nat.ble τs.length n=true)
 (h:∀W A,ax ⟨P,n,W,[],A,none,[]⟩ (bodyPost P fn λe W'=> ∃v,e=.returned v∧Fr [] W W'∧ρ.holds A W' v) code (params 0 τs) []):cn P f τs ρ:=by
 intro A W vs eo a7
 refine GD aU hb (wpIn_wide.1 (h W A _ _ ?_))
 have ao:=a7.length
 have hle:τs.length<=n:=ni hlen
 exact
 {defers:=rfl
  size:=by simp[aG,ao];omega
  env:=λt τ jG=>by
   obtain⟨_,v,ad,ay⟩:=w4 a7 0 t τ jG;refine⟨v,?_,ay⟩;have bS:t<vs.length:=(fY.1 ad).1;rw[tb (by simpa using bS)];simpa using ad
  cW:=.refl _ _
  own:=by simp
  nodup:=by simp[ks]
  lt:=by simp[ks]
  fa:=by simp[ks]
  dK:=λk hk=>⟨eo k hk,by simp[ks]⟩}
def Rw{ρ:J}{A B:aa Nat}{W:bc}{v:bd}(h:ρ.holds (B++A) W v):ρ.holds A W v:=ρ.mono (.drop λ_ h=>bX.2 (.inr h)) h
end
section
variable{c:bW}{E:aa (Nat×J)}{L:aa aA}{ops:Array Oper}{Q:Exit->Act->bc->Prop}
def jL(c:bW)(ops:Array Oper)(E:aa (Nat×J))(L:aa aA)(o:Oper)(τ:J):Prop:=
 ∀ a W,bA c E L a W->
   (Region.wanted o (yielded ops a.tmps)=true->gz c.P o a W λv W'=>Fr [] W W'∧τ.holds (ks L++c.bL) W' v)∧
   (Region.wanted o (yielded ops a.tmps)=false->τ.holds (ks L++c.bL) W undef)
def jL.v{o:Oper}{τ:J}(h:ba c E L o τ)(bu:o.guard=none):jL c ops E L o τ:=λa W s=>
 ⟨λ_=>h a W s,λhw=>by simp[Region.wanted,bu]at hw⟩
def jL.g{o:Oper}{j g:Nat}{b want:Bool}{τ:J}(h:b=want->ba c E L o τ)(bu:o.guard=some (j,want))(aD:(ops[j]?).bind (·.dst)=some g)(ao:look E g=some (.of b)):
 jL c ops E L o (.cond (b=want) τ):=λa W s=>by
 have hy:=G1 aD ao s
 constructor
 ·intro hw
  have hb:b=want:=by simpa[Region.wanted,bu,hy]using hw
  refine gz.wp (h hb a W s) λv W' ⟨f,a7⟩=>⟨v,rfl,f,λ_=>a7,λh=>absurd hb h⟩
 intro hw
 exact⟨λhb=>by simp[Region.wanted,bu,hy,hb]at hw,λ_=>rfl⟩
inductive rS
 |val (τ:J)
 |new (cp:dN)
 |oz (i:Nat) (cp:dN)
 |Of (j:Nat) (cp:dN)
def rS.agH:rS->Bool
 | .oz _ _| .Of _ _=>true
 |_=>false
def rS.Xz(p:Nat):rS->av J
 | .val τ=>some τ
 | .new _=>some (.eq (.pointer (some ⟨p,0,none⟩)))
 |_=>none
def he(dj:Nat->Nat)(mR:aa (av Nat))(hs:aa rS)(E:aa (Nat×J)):aa Nat->aa (Nat×J)
 |[]=>E
 | j::r=>match mR[j]?,hs[j]? with
   | some (some s),some h=>match h.Xz (dj j)with
     |some τ=>(s,τ)::he dj mR hs E r
     |none=>he dj mR hs E r
   |_,_=>he dj mR hs E r
def UT:aa aA->Nat->dN->aa aA
 |[],_,_=>[]
 |e::r,0,cp=>⟨e.key,cp⟩::r
 |e::r,i+1,cp=>e::UT r i cp
def IU(L:aa aA):aa rS->aa aA
 |[]=>L
 | .oz i cp::r=>IU (UT L i cp) r
 |_::r=>IU L r
def NU(j:Nat)(cp:dN):aa rS->dN
 |[]=>cp
 | .Of i cp'::r=>NU j (bif Nat.beq i j then cp' else cp) r
 |_::r=>NU j cp r
def sE(w:Nat->Bool)(i:Nat):Nat->aa rS->Bool
 |_,[]=>true
 |k,.oz j _::r=>(!(Nat.beq j i)||w k)&&sE w i (k+1) r
 |k,.val _::r=>sE w i (k+1) r
 |k,.new _::r=>sE w i (k+1) r
 |k,.Of _ _::r=>sE w i (k+1) r
def TJ(f g:Nat->Bool)(i:Nat)(aU:f i=true)(bu:g i=false)(h:∀j,g j=true->f j=true):∀n,i<n->((List.range n).filter g).length<((List.range n).filter f).length:=by
 have le:∀n,((List.range n).filter g).length<=((List.range n).filter f).length:=by
  intro n;induction n with
  |zero=>simp
  | succ n bN=>
    rw[y6,td,td,fB,fB]
    have:([n].filter g).length<=([n].filter f).length:=by
     cases x6:g n with
     |false=>simp[x6]
     |true=>simp[x6,h n x6]
    omega
 intro n;induction n with
 |zero=>omega
 | succ n bN=>
   intro bS
   rw[y6,td,td,fB,fB]
   by_cases e:i=n
   ·subst e
    have:=le i
    simp[aU,bu]
    omega
   have h1:=bN (by omega)
   have:([n].filter g).length<=([n].filter f).length:=by
    cases x6:g n with
    |false=>simp[x6]
    |true=>simp[x6,h n x6]
   omega
def aa1{n:Nat}{bQ:Array Bool}(inv:HeadInv .any ops n bQ)(aG:n<=ops.size)(oj:∀i,i<n->bQ.getD i true=true):
 bQ=(List.range n).foldl (λl i=>l.setIfInBounds i true) (Array.replicate ops.size false):=by
 have key:∀m,m<=ops.size->((List.range m).foldl (λl i=>l.setIfInBounds i true) (Array.replicate ops.size false)).size=ops.size∧
  ∀j (d:Bool),j<ops.size->((List.range m).foldl (λl i=>l.setIfInBounds i true) (Array.replicate ops.size false)).getD j d=decide (j<m):=by
  intro m
  induction m with
  |zero=>intro _;exact⟨by simp,λj d aD=>by simp[aD]⟩
  | succ m bN=>
    intro hm
    obtain⟨h1,ad⟩:=bN (by omega)
    rw[y6,List.foldl_append]
    simp only[List.foldl_cons,List.foldl_nil]
    refine⟨by simpa using h1,λj d aD=>?_⟩
    by_cases e:m=j
    ·subst e
     simp[h1,aD]
    rw[getD_set_ne d e,ad j d aD]
    by_cases ay:j<m
    ·simp[ay];omega
    simp[ay];omega
 obtain⟨h1,ad⟩:=key n aG
 apply Array.ext
 ·rw[inv.size,h1]
 intro i WS akU
 have aw:i<ops.size:=by rw[<-inv.size];exact WS
 have ay:=ad i true aw
 have az:bQ.getD i true=bQ[i]:=by simp[WS]
 have a8:((List.range n).foldl (λl i=>l.setIfInBounds i true) (Array.replicate ops.size false)).getD i true=((List.range n).foldl (λl i=>l.setIfInBounds i true) (Array.replicate ops.size false))[i]:=by
  simp[akU]
 rw[<-a8,ay,<-az]
 by_cases aN:i<n
 ·rw[oj i aN];simp[aN]
 rw[inv.tail i (by omega) aw];simp[aN]
def VZ(dj:Nat->Nat)(all:aa rS)(b:Nat)(E6:aa Nat):aa aA:=E6.map λj=>⟨some (dj j),match all[j]? with |some (.new cp)=>NU j cp (all.take b)|_=>.dead⟩
structure anf(c:bW)(n:Nat)(mR:List (Option Nat))(hs:List rS)(E:List (Nat×J))(L:List aA)(bQ:Array Bool)(dj:Nat->Nat)(E6:List Nat)(b:Nat)(a:Act)(W:World):Prop where
 st:bA c E (IU L (hs.take b)++VZ dj hs b E6) a W
 done:∀(j:Nat) s h τ,j<n->bQ.getD j false=true->mR[j]? =some (some s)->hs[j]? =some h->h.Xz (dj j)=some τ->∃v,a.tmps[s]? =some v∧τ.holds (ks (IU L (hs.take b)++VZ dj hs b E6)++c.bL) W v
 news:∀(j:Nat),j∈E6↔(j<n∧bQ.getD j false=true∧∃cp,hs[j]? =some (.new cp))
 stored:∀(j:Nat) h,hs[j]? =some h->h.agH=true->(bQ.getD j false=true↔j<b)
 ble:b<=n
def xk{L R:aa aA}(h:L.Perm R):(ks L).Perm (ks R):=by
 induction h with
 |nil=>exact .nil
 |cons x _ bN=>cases hk:x.key <;> simp only[ks,hk] <;> first|exact bN|exact bN.cons _
 | swap x y l=>
   cases al:x.key <;> cases hy:y.key <;> simp only[ks,al,hy]
   all_goals first|exact .refl _|exact .swap _ _ _
 |trans _ _ h1 ad=>exact h1.trans ad
def bA.perm{E L L' a W}(h:bA c E L a W)(p:L.Perm L'):bA c E L' a W:=
 h.sub (λe he=>p.mem_iff.2 he) ((xk p).nodup_iff.1 h.nodup)
end
class bG (P:Program) (t:bo) (α:Type) [ag α]:Prop where
 size:(P.info? t).map (·.size)=some (ag.size α)
 WT:∃d,P.underlying t=some d∧(match d with | .struct _| .array _ _=>true|_=>false)=ag.agg α
class cN (P:Program) (t:bo) {α:outParam Type} [ag α] (x:outParam α):Prop where
 zero:∃i z,P.info? t=some i∧i.zero=some z∧∀A W,(J.of x).holds A W z
def bG.info{P t α}[ag α](h:bG P t α):∃i,P.info? t=some i∧i.size=ag.size α:=by
 have:=h.size;cases aw:P.info? t with
 |none=>simp[aw]at this
 |some i=>exact⟨i,rfl,by simpa[aw]using this⟩
def bG.isAgg{P t α}[ag α](h:bG P t α)(W:bc):(isAgg t).run P W=.ok (ag.agg α) W:=by
 obtain⟨d,hd,he⟩:=h.WT;unfold Go.isAgg;rw[df,dn hd W];simp only[Result.andThen_ok];cases d <;> simp_all
def bG.sizeOf{P t α}[ag α](h:bG P t α)(W:bc):(Go.sizeOf t).run P W=.ok (ag.size α) W:=by
 obtain⟨i,aw,hs⟩:=h.info;simp[Go.sizeOf,typeInfo,aw,hs]
def jB(b off j:Nat):(⟨b,off,none⟩:Addr).add j=⟨b,off+j,none⟩:=by unfold Addr.add;split <;> simp_all
def wW{P:Program}{W:bc}{b off:Nat}{cur:Array bd}{T t:bo}{hQ:Nat×Nat}{α:Type}[ag α]{A:aa Nat}{x:α}(ty:bG P t α)
 (hb:W.heap[b]? =some (.cells cur T hQ)) (hs:off+ag.size α<=cur.size) (aC:ag.rep A W ((cur.toList.drop off).take (ag.size α)) x):
 ∃v,(loadVar t ⟨b,off,none⟩).run P W=.ok v W∧(J.of x).holds A W v:=by
 have ao:=ag.len aC
 have xz:∀j v,((cur.toList.drop off).take (ag.size α))[j]? =some v->W.cell? ((⟨b,off,none⟩:Addr).add j)=some v:=by
  intro j v a7;rw[jB,Ct W b (off+j) cur T hQ hb];rw[jN]at a7;split at a7
  ·rw[kM]at a7;simpa using a7
  cases a7
 cases a1:ag.agg α with
 | true=>
   have h1:=FK (P:=P) W ⟨b,off,none⟩ _ xz
   rw[ao]at h1
   refine⟨.agg ((cur.toList.drop off).take (ag.size α)).toArray,?_,?_,?_⟩
   ·simp[loadVar,df,ty.isAgg,ty.sizeOf,a1,h1]
   ·simp[shaped,a1]
   simpa[Value.cells]using aC
 | false=>
   have h1:ag.size α=1:=ag.flat a1
   rw[h1]at ao
   obtain⟨v,a7⟩:=PV.1 ao
   have ad:=xz 0 v (by rw[h1,a7];rfl)
   have ay:v.oneCell'=true:=ag.one aC v (by rw[h1,a7];simp)
   refine⟨v,?_,?_,?_⟩
   ·rw[jB,Nat.add_zero]at ad
    simp[loadVar,df,ty.isAgg,a1,ad]
   ·simp[shaped,a1,ay]
   rw[cells_one ay]
   rw[h1,a7]at aC
   simpa using aC
def fR(cur:aa bd)(off:Nat)(ds:aa bd):aa bd:=cur.take off++ds++cur.drop (off+ds.length)
def acd{A W v}{α:Type}[ag α]{x:α}(h:(J.of x).holds A W v):v.cells.toList.length=ag.size α∧∀u∈v.cells.toList,u.oneCell'=true:=⟨ag.len h.2,ag.one h.2⟩
def GN{P:Program}{W:bc}{b off:Nat}{cur:Array bd}{T t:bo}{α:Type}[ag α]{A:aa Nat}{x:α}{v:bd}(ty:bG P t α)
 (hb:W.heap[b]? =some (.cells cur T (0,0))) (hs:off+ag.size α<=cur.size) (a7:(J.of x).holds A W v):
 (storeVar t ⟨b,off,none⟩ v).run P W=.ok () (W.setRow b (fR cur.toList off v.cells.toList).toArray):=by
 obtain⟨ao,h1⟩:=acd a7
 have ad:=BH P b off T v.cells.toList 0 cur W hb (by rw[ao];omega) h1
 have da:v.cells.size=ag.size α:=by simpa using ao
 simp only[Nat.add_zero]at ad
 simp only[storeVar,df,ty.sizeOf,Result.andThen_ok,da]
 simp only[ne_eq,not_true_eq_false,↓reduceIte,Sem.run_pure,df,Result.andThen_ok]
 simpa[fR]using ad
structure aO(β γ:Type)[ag β][ag γ]where
 off:Nat
 get:β->γ
 set:β->γ->β
 gk:off+ag.size γ<=ag.size β
 iJ:∀{A W cs b},ag.rep A W cs b->ag.rep A W ((cs.drop off).take (ag.size γ)) (get b)
 mc:∀{A W cs b ds g},ag.rep A W cs b->ag.rep A W ds g->ag.rep A W (cs.take off++ds++cs.drop (off+ag.size γ)) (set b g)
@[reducible] def aO.id (β:Type) [ag β]:aO β β where
  off:=0
  get b:=b
  set _ g:=g
  gk:=by simp
  iJ h:=by
   have:=ag.len h;rw[th,<-this,l7];exact h
  mc h bu:=by
   have h1:=ag.len h;rw[List.take_zero,List.nil_append,iS,<-h1,uK,l8];exact bu
def w2(cs:aa bd)(bp s1 b6 s2:Nat)(h:b6+s2<=s1):(((cs.drop bp).take s1).drop b6).take s2=(cs.drop (bp+b6)).take s2:=by
 apply k6;intro i;simp only[jN,kM];split
 ·rw[bm (by omega)];congr 1;omega
 rfl
def RW(cs ds:aa bd)(bp s1 b6 s2:Nat)(h:b6+s2<=s1)(ak:bp+s1<=cs.length):
 cs.take bp++(((cs.drop bp).take s1).take b6++ds++((cs.drop bp).take s1).drop (b6+s2))++cs.drop (bp+s1)=cs.take (bp+b6)++ds++cs.drop (bp+b6+s2):=by
 have az:cs.take (bp+b6)=cs.take bp++((cs.drop bp).take s1).take b6:=by
  rw[p8,nk (by omega),Kw]
 have a8:cs.drop (bp+b6+s2)=((cs.drop bp).take s1).drop (b6+s2)++cs.drop (bp+s1):=by
  apply k6;intro i;simp only[JW,kM,jN,jh,fg];split
  ·rw[bm (by omega)];congr 1;omega
  congr 1;omega
 rw[az,a8]
 simp only[h3]
@[reducible] def aO.comp {α β γ:Type} [ag α] [ag β] [ag γ] (l:aO α β) (m:aO β γ):aO α γ where
  off:=l.off+m.off
  get b:=m.get (l.get b)
  set b g:=l.set b (m.set (l.get b) g)
  gk:=by have:=l.gk;have:=m.gk;omega
  iJ h:=by
   have:=m.iJ (l.iJ h);rwa[w2 _ _ _ _ _ m.gk]at this
  mc h bu:=by
   have h1:=l.mc h (m.mc (l.iJ h) bu);have ad:=ag.len h;have ay:=l.gk;rwa[RW _ _ _ _ _ _ m.gk (by omega)]at h1
def b9{α:Type}[Inhabited α]{n:Nat}(v:Vector α n)(k:Nat):α:=v[k]?.getD default
def iq{α:Type}{n:Nat}(v:Vector α n)(k:Nat)(x:α):Vector α n:=v.setIfInBounds k x
instance{α:Type}[Inhabited α]{n:Nat}:Inhabited (Vector α n):=⟨Vector.replicate n default⟩
instance{α:Type}[ag α][Inhabited α]{n:Nat}:ag (Vector α n)where
 size:=n*ag.size α
 agg:=true
 rep A W cs v:=gi A W cs v.toList
 len h:=by rw[h.1];simp
 one h:=by
  intro u hu;obtain⟨j,aD⟩:=mE.1 hu;have bS:=(fY.1 aD).1;have h1:=h.1;by_cases hs:ag.size α=0
  ·rw[hs,Nat.mul_zero]at h1;omega
  have hp:0<ag.size α:=BB hs;have aw:j/ag.size α<_:=(P2 hp).2 (by rw[h1]at bS;exact bS);refine ag.one (h.2 _ aw) u (mE.2 ⟨j % ag.size α,?_⟩);rw[jN,bm (Cv _ hp),kM,p9,BW];exact aD
 flat h:=by cases h
 mono e h:=h.mono e
def aaI{α:Type}[Inhabited α]{n:Nat}(v:Vector α n){k:Nat}(h:k<n):b9 v k=v.toList[k]'(by simpa using h):=by simp[b9,h]
def LI{α:Type}[ag α]{A W}{cs ds:aa bd}{xs:aa α}{x:α}{k:Nat}(h:gi A W cs xs)(hk:k<xs.length)(hd:ag.rep A W ds x):
 gi A W (cs.take (k*ag.size α)++ds++cs.drop (k*ag.size α+ag.size α)) (xs.set k x):=by
 have ao:=h.1
 have pb:=ag.len hd
 have hle:(k+1)*ag.size α<=xs.length*ag.size α:=gp _ hk
 rw[qa]at hle
 refine⟨by simp only[fB,fg,jh,sc];omega,λi aw=>?_⟩
 rw[sc]at aw
 by_cases e:k=i
 ·subst e
  have:((cs.take (k*ag.size α)++ds++cs.drop (k*ag.size α+ag.size α)).drop (k*ag.size α)).take (ag.size α)=ds:=by
   rw[h3,PF (by simp only[fg];omega),Bo (by simp only[fg];omega),List.nil_append,
    yQ (by omega),qS (by omega)]
  rw[this]
  simpa using hd
 have h1:=h.2 i aw
 have:((cs.take (k*ag.size α)++ds++cs.drop (k*ag.size α+ag.size α)).drop (i*ag.size α)).take (ag.size α)=(cs.drop (i*ag.size α)).take (ag.size α):=by
  apply k6;intro j;simp only[jN,kM];split
  ·rename_i aD;simp only[JW,fB,fg,jN,kM];rcases Nat.lt_or_gt_of_ne e with ad|ad
   ·have:(k+1)*ag.size α<=i*ag.size α:=gp _ ad;rw[qa]at this;rw[bk (by omega)];congr 1;omega
   have:(i+1)*ag.size α<=k*ag.size α:=gp _ ad;rw[qa]at this;rw[bm (by omega),bm (by omega),bm (by omega)]
  rfl
 rw[this]
 simpa[List.getElem_set_ne e]using h1
@[reducible] def aO.idx {α:Type} [ag α] [Inhabited α] (n k:Nat) (hk:k<n):aO (Vector α n) α where
  off:=k*ag.size α
  get v:=b9 v k
  set v x:=iq v k x
  gk:=by
   show k*ag.size α+ag.size α<=n*ag.size α;rw[<-qa];exact gp _ hk
  iJ h:=by
   rename_i b;rw[aaI b hk];exact h.2 k (by simpa using hk)
  mc h hd:=by
   rename_i b ds g;have:=LI h (k:=k) (by simpa using hk) hd;show gi _ _ _ (iq b k g).toList;rw[show(iq b k g).toList=b.toList.set k g by simp[iq]];exact this
def idx(n:Nat)(i:Int):av Nat:=if 0<=i∧i<n then some i.toNat else none
def dt{n:Nat}{i:Int}{k:Nat}(h:idx n i=some k):k<n∧i=k:=by
 unfold idx at h;split at h
 ·rename_i aw;simp only[fC]at h;omega
 cases h
section
variable{c:bW}{E:aa (Nat×J)}{L:aa aA}{ops:Array Oper}{Q:Exit->Act->bc->Prop}
variable{d:av Tmp}{ty:bo}{pos:String}{af:Array Edge}{g:av (Nat×Bool)}
def cT{x:bO}{τ:J}(h:aL c E L x τ):ba c E L ⟨d,.move x,ty,pos,af,g⟩ τ:=.pure λa W s=>⟨_,rfl,h a W s⟩
def cP{x:bO}{τ:J}(h:aL c E L x τ):ba c E L ⟨d,.assign x,ty,pos,af,g⟩ τ:=.pure λa W s=>⟨_,rfl,h a W s⟩
def Dx{x y:bO}{b e:Bool}{p:Prop}(al:aL c E L x (.of b))(hy:aL c E L y (.cond p (.of e)))(hp:b=false->p):
 ba c E L ⟨d,.pick x (.const (.bool true)) y,ty,pos,af,g⟩ (.of (b||e)):=.pure λa W s=>by
 have h1:=of_bool.1 (al a W s)
 cases b with
 |true=>exact⟨.bool true,by simp only[execOp,h1,asBool];rfl,of_bool.2 I⟩
 | false=>
   have ad:=of_bool.1 ((hy a W s).1 (hp I))
   exact⟨.bool e,by simp[execOp,asBool,h1,ad],of_bool.2 I⟩
def xv{x y:bO}{b e:Bool}{p:Prop}(al:aL c E L x (.of b))(hy:aL c E L y (.cond p (.of e)))(hp:b=true->p):
 ba c E L ⟨d,.pick x y (.const (.bool false)),ty,pos,af,g⟩ (.of (b&&e)):=.pure λa W s=>by
 have h1:=of_bool.1 (al a W s)
 cases b with
 |false=>exact⟨.bool false,by simp only[execOp,h1,asBool];rfl,of_bool.2 I⟩
 | true=>
   have ad:=of_bool.1 ((hy a W s).1 (hp I))
   exact⟨.bool e,by simp[execOp,asBool,h1,ad],of_bool.2 I⟩
def pH{x:bO}{b:Bool}{t:bo}(al:aL c E L x (.of b)):ba c E L ⟨d,.unOp .not t x,ty,pos,af,g⟩ (.of (!b)):=.pure λa W s=>
 ⟨.bool (!b),by simp[execOp,Op.unary,of_bool.1 (al a W s)],of_bool.2 I⟩
def j9{x:bO}{t:bo}{i p o:Nat}{β γ:Type}[ag β][ag γ]{b:β}(l:aO β γ){r:γ}(dx:bG c.P t γ)(al:aL c E L x (.eq (.pointer (some ⟨p,o,none⟩))))
 (ar:L[i]? =some ⟨some p,.var b⟩) (aS:o=l.off) (aC:l.get b=r):ba c E L ⟨d,.load t x,ty,pos,af,g⟩ (.of r):=.pure λa W s=>by
 subst aS
 subst aC
 obtain⟨pv,eH,cs,T,rfl,fU⟩:=s.own _ (er ar)
 have h1:cs.toList.length=ag.size β:=ag.len fU
 obtain⟨v,ad,ay⟩:=wW (A:=ks L++c.bL) dx eH (by have:=l.gk;simp at h1;omega) (l.iJ fU)
 refine⟨v,?_,ay⟩
 have aN:a.eval x=_:=al a W s
 simp[execOp,Instr.loadAt,Instr.sureAddr,aN,ad]
def kQ{x:bO}{t:bo}{γ:Type}[ag γ]{r:γ}(dx:bG c.P t γ)(al:aL c E L x (.ptr r)):ba c E L ⟨d,.load t x,ty,pos,af,g⟩ (.of r):=.pure λa W s=>by
 obtain⟨b,off,cur,T,hQ,aN,hb,ch,hs,aC⟩:=al a W s;obtain⟨v,ad,ay⟩:=wW dx ch hs aC;exact⟨v,by simp[execOp,Instr.loadAt,Instr.sureAddr,aN,ad],ay⟩
structure vJ(P:Program)(s:TypeId)(f o:Nat):Prop where
 at_:∃fs fd i,P.underlying s=some (.struct fs)∧fs[f]? =some fd∧fd.offset=o∧P.info? fd.type=some i∧i.size≠0
def Rl{P:Program}{s:bo}{f o:Nat}(h:vJ P s f o)(p off:Nat)(W:bc):
 (Instr.fieldAt s (.pointer (some ⟨p,off,none⟩)) f).run P W=.ok (.pointer (some ⟨p,off+o,none⟩)) W:=by
 obtain⟨fs,fd,i,h1,ad,ay,aN,a6⟩:=h.at_
 simp[Instr.fieldAt,dn h1,ad,Instr.sureAddr,fieldPlace,Go.sizeOf,typeInfo,aN,a6,jB,ay]
def cq{x:bO}{s f o p off:Nat}(fd:vJ c.P s f o)(al:aL c E L x (.eq (.pointer (some ⟨p,off,none⟩)))):
 ba c E L ⟨d,.fieldAddr s x f,ty,pos,af,g⟩ (.eq (.pointer (some ⟨p,off+o,none⟩))):=.pure λa W st=>by
 have aN:a.eval x=_:=al a W st
 exact⟨_,by simp[execOp,aN,Rl fd],rfl⟩
def Af{x:bO}{s f o:Nat}{β γ:Type}[ag β][ag γ]{b:β}(l:aO β γ){r:γ}(fd:vJ c.P s f o)(al:aL c E L x (.ptr b))(aS:l.off=o)(aC:l.get b=r):
 ba c E L ⟨d,.fieldAddr s x f,ty,pos,af,g⟩ (.ptr r):=.pure λa W st=>by
 subst aS
 subst aC
 obtain⟨q,off,cur,T,hQ,aN,hb,ch,hs,fU⟩:=al a W st
 refine⟨.pointer (some ⟨q,off+l.off,none⟩),by simp[execOp,aN,Rl fd],q,off+l.off,cur,T,hQ,rfl,hb,ch,by have:=l.gk;omega,?_⟩
 have:=l.iJ fU
 rwa[w2 _ _ _ _ _ l.gk]at this
class qM (P:Program) (t:bo) (n s:outParam Nat):Prop where
 at_:∃e i,P.underlying t=some (.array n e)∧P.info? e=some i∧i.size=s
def aai{P:Program}{t n s:Nat}(h:qM P t n s)(p off:Nat)(k:Nat)(hk:k<n)(W:bc):
 (Instr.indexAt t (.pointer (some ⟨p,off,none⟩)) (.int .i64 (k:Int))).run P W=.ok (.pointer (some ⟨p,off+k*s,none⟩)) W:=by
 obtain⟨e,i,h1,ad,ay⟩:=h.at_
 simp[Instr.indexAt,asIntOf,dn h1,Instr.sureAddr,Go.sizeOf,typeInfo,ad,ay,hk,jB]
def rf{x y:bO}{t n s p off:Nat}{i:Int}{k:Nat}(yv:qM c.P t n s)(al:aL c E L x (.eq (.pointer (some ⟨p,off,none⟩))))(hy:aL c E L y (.of i))(hk:k<n∧i=k):
 ba c E L ⟨d,.indexAddr t x y,ty,pos,af,g⟩ (.eq (.pointer (some ⟨p,off+k*s,none⟩))):=.pure λa W st=>by
 have aN:a.eval x=_:=al a W st
 have a6:=of_int.1 (hy a W st)
 obtain⟨bh,rfl⟩:=hk
 exact⟨_,by simp[execOp,aN,a6,aai yv p off k bh],rfl⟩
def ae.alloc{t:bo}{rest:aa Oper}{aV:Nat}{α:Type}[ag α]{z:α}(fP:cN c.P t z)(aG:Nat.blt aV c.n=true)
 (k:∀p,ae c ops Q rest ((aV,.eq (.pointer (some ⟨p,0,none⟩)))::E) (⟨some p,.var z⟩::L)):ae c ops Q (⟨some aV,.alloc t,ty,pos,af,none⟩::rest) E L:=λa W s=>by
 obtain⟨i,dk,h1,ad,ay⟩:=fP.zero
 refine hl I (R:=λv W'=>v=.pointer (some ⟨W.heap.size,0,none⟩)∧W'=W.alloc (.cells dk.cells t)) (.lj ?_ ⟨rfl,rfl⟩) λv W' ⟨a7,hw⟩=>?_
 ·simp[execOp,Instr.alloc,zeroValue,typeInfo,h1,ad,newVar,newRow]
 subst a7
 subst hw
 exact k _ _ _ ((s.alloc (cp:=.var z) ⟨dk.cells,t,rfl,(ay _ _).2⟩).put (by simpa using aG) I)
def ae.box{t:bo}{x:bO}{rest:aa Oper}{aV:Nat}{α:Type}[ag α]{z:α}(al:aL c E L x (.of z))(aG:Nat.blt aV c.n=true)
 (k:∀p,ae c ops Q rest ((aV,.eq (.pointer (some ⟨p,0,none⟩)))::E) (⟨some p,.var z⟩::L)):ae c ops Q (⟨some aV,.box t x,ty,pos,af,none⟩::rest) E L:=λa W s=>by
 refine hl I (R:=λv W'=>v=.pointer (some ⟨W.heap.size,0,none⟩)∧W'=W.alloc (.cells (a.eval x).cells t)) (.lj ?_ ⟨rfl,rfl⟩) λv W' ⟨a7,hw⟩=>?_
 ·simp[execOp,Instr.box,newVar,newRow]
 subst a7
 subst hw
 exact k _ _ _ ((s.alloc (cp:=.var z) ⟨_,t,rfl,(al a W s).2⟩).put (by simpa using aG) I)
def ae.store{x y:bO}{t:bo}{rest:aa Oper}{i p o:Nat}{β γ:Type}[ag β][ag γ]{b b':β}{v:γ}(l:aO β γ)(dx:bG c.P t γ)(al:aL c E L x (.eq (.pointer (some ⟨p,o,none⟩))))
 (hy:aL c E L y (.of v)) (ar:L[i]? =some ⟨some p,.var b⟩) (aS:o=l.off) (hb:l.set b v=b')
 (k:ae c ops Q rest E (L.set i ⟨some p,.var b'⟩)):ae c ops Q (⟨none,.store t x y,ty,pos,af,none⟩::rest) E L:=λa W s=>by
 subst aS
 subst hb
 obtain⟨pv,eH,cs,T,rfl,fU⟩:=s.own _ (er ar)
 have h1:cs.toList.length=ag.size β:=ag.len fU
 have fV:=l.gk
 have a7:=hy a W s
 have ad:=GN (A:=ks L++c.bL) dx eH (off:=l.off) (by simp at h1;omega) a7
 have aN:a.eval x=_:=al a W s
 refine hl I (R:=λv W'=>W'=W.setRow p (fR cs.toList l.off (a.eval y).cells.toList).toArray) (.zS ?_ I) λv W' hw=>?_
 ·simp[execOp,Instr.storeAt,Instr.sureAddr,aN,ad]
 subst hw
 refine k _ _ (s.store ar eH ?_)
 refine⟨_,T,rfl,?_⟩
 have:=l.mc fU a7.2
 simpa[fR,ag.len a7.2]using this
def gZ(c:bW)(E:aa (Nat×J))(L:aa aA):aa bO->aa J->Prop
 |[],[]=>True
 |x::xs,τ::τs=>aL c E L x τ∧gZ c E L xs τs
 |_,_=>False
def gZ.holds:∀{xs:aa bO} {τs:aa J},gZ c E L xs τs->∀a W,bA c E L a W->fK (ks L++c.bL) W τs (xs.map a.eval)
 |[],[],_,_,_,_=>.nil
 |x::xs,τ::τs,h,a,W,s=>.cons (h.1 a W s) (h.2.holds a W s)
 |[],_::_,h,_,_,_=>h.elim
 |_::_,[],h,_,_,_=>h.elim
structure bx(P:Program)(f:FuncId):Prop where
 at_:∃ fn,P.funcs[f]? =some fn∧fn.body.isNone=false∧ (fn.name== "runtime.NumGoroutine")=false
def bx.run{P:Program}{f:FuncId}(h:bx P f)(args:Array bd)(W:bc):(callFunc f args).run P W=.ok (.enter f args) W:=by
 obtain⟨fn,h1,ad,ay⟩:=h.at_;simp only[callFunc,df,run_program,Result.andThen_ok,h1,ay,ad];rfl
def jT{f:FuncId}{xs:aa bO}{ats:Array bo}{τs:aa J}{ρ:J}(bU:bx c.P f)(h:cn c.P f τs ρ)(al:gZ c E L xs τs):
 ba c E L ⟨d,.call ⟨.value (.func f),xs.toArray,ats⟩,ty,pos,af,g⟩ ρ:=λa W s=>by
 refine .tt (f:=f) (args:=(xs.map a.eval).toArray) (W':=W) ?_ (h _ W _ s.C6 (al.holds a W s))
 simp[execOp,resolve,Deferred.ofValue,Act.eval,invoke,bU.run]
def tu{P:Program}{W:bc}{t off:Nat}{cs:Array bd}{α:Type}[ag α]{A:aa Nat}{x:α}(ty:bG P t α)(hs:off+ag.size α<=cs.size)
 (aC:ag.rep A W ((cs.toList.drop off).take (ag.size α)) x):∃v,(part t cs off).run P W=.ok v W∧(J.of x).holds A W v:=by
 have ao:=ag.len aC
 cases a1:ag.agg α with
 | true=>
   refine⟨.agg (cs.extract off (off+ag.size α)),?_,?_,?_⟩
   ·simp[part,ty.isAgg,ty.sizeOf,a1]
   ·simp[shaped,a1]
   simpa[Value.cells,List.extract,Array.toList_extract]using aC
 | false=>
   have h1:ag.size α=1:=ag.flat a1
   have bS:off<cs.size:=by omega
   have ad:(cs.toList.drop off).take (ag.size α)=[cs[off]]:=by
    rw[h1];apply k6;intro j;rw[jN,kM];cases j with
    |zero=>simp[bS]
    |succ j=>simp
   rw[ad]at aC
   have ay:cs[off].oneCell'=true:=ag.one aC _ (by simp)
   refine⟨cs[off],?_,?_,?_⟩
   ·simp[part,ty.isAgg,a1,bS]
   ·simp[shaped,a1,ay]
   rw[cells_one ay];simpa using aC
structure Pa(P:Program)(s f t o:Nat):Prop where
 at_:∃fs fd,P.underlying s=some (.struct fs)∧fs[f]? =some fd∧fd.offset=o∧fd.type=t
def acV{x:bO}{s f t o:Nat}{β γ:Type}[ag β][ag γ]{b:β}(l:aO β γ){r:γ}(XA:Pa c.P s f t o)(dx:bG c.P t γ)(a1:ag.agg β=true)(al:aL c E L x (.of b))(aS:l.off=o)(aC:l.get b=r):
 ba c E L ⟨d,.field s x f,ty,pos,af,g⟩ (.of r):=.pure λa W st=>by
 subst aS
 subst aC
 obtain⟨h1,ad⟩:=al a W st
 simp only[shaped,a1,kO]at h1
 obtain⟨cs,vK⟩:=h1
 obtain⟨fs,fd,ay,aN,a6,bh⟩:=XA.at_
 rw[vK]at ad
 simp only[Value.cells]at ad
 have ao:cs.toList.length=ag.size β:=ag.len ad
 obtain⟨v,cH,ed⟩:=tu (A:=ks L++c.bL) (P:=c.P) (W:=W) (cs:=cs) (off:=l.off) dx (by have:=l.gk;simp at ao;omega) (l.iJ ad)
 refine⟨v,?_,ed⟩
 simp[execOp,Instr.field,dn ay,aN,vK,asAgg,a6,bh,cH]
def Ah{x:bO}{i:Nat}{τs:aa J}{τ:J}(al:aL c E L x (.bR τs))(aw:τs[i]? =some τ):ba c E L ⟨d,.extract x i,ty,pos,af,g⟩ τ:=.pure λa W st=>by
 obtain⟨vs,h1,ad⟩:=al a W st;have get:∀{τs:aa J} {vs:aa bd},fK (ks L++c.bL) W τs vs->∀(i:Nat) (τ:J),τs[i]? =some τ->∃v,vs[i]? =some v∧τ.holds (ks L++c.bL) W v:=by
  intro τs vs h;induction h with
  |nil=>intro i τ h;simp at h
  | cons h1 _ bN=>
    intro i τ h
    cases i with
    |zero=>simp only[List.getElem?_cons_zero,fC]at h;subst h;exact⟨_,rfl,h1⟩
    |succ i=>simp only[List.getElem?_cons_succ]at h⊢;exact bN i τ h
 obtain⟨v,ay,aN⟩:=get ad i τ aw;refine⟨v,?_,aN⟩;have a6:vs[i]? =some v:=by simpa using ay
 simp[execOp,Instr.extract,h1,a6]
end
def bz(x:Int):Int:=IntKind.i64.wrap x
def hr{x:Int}(h: -9223372036854775808<=x)(cC:x<=9223372036854775807):bz x=x:=by
 unfold bz;rw[IntKind.wrap_i64];omega
def sK(a b:Int):av Int:=if b=0 then none else some (a.tmod b)
def abC{a b r:Int}(h:sK a b=some r):b≠0∧a.tmod b=r:=by unfold sK at h;split at h <;> simp_all
def wrap_u8(n:Int):IntKind.u8.wrap n=n % 256:=by simp[IntKind.wrap,IntKind.signed,IntKind.bits]
def wrap_u64(n:Int):IntKind.u64.wrap n=n % 18446744073709551616:=by simp[IntKind.wrap,IntKind.signed,IntKind.bits]
def ada(P:Program)(W:bc)(k Pb:IntKind)(a b:Int)(h:0<=b):(Op.shift .shl k a Pb b).run P W=.ok (.int k (k.wrap (a*2^min b.toNat k.bits))) W:=by
 unfold Op.shift;rw[bk (by omega)];rfl
def adb(P:Program)(W:bc)(k Pb:IntKind)(a b:Int)(h:0<=b):(Op.shift .shr k a Pb b).run P W=.ok (.int k (a.fdiv (2^min b.toNat k.bits))) W:=by
 unfold Op.shift;rw[bk (by omega)];rfl
section
variable{c:bW}{E:aa (Nat×J)}{L:aa aA}
variable{d:av Tmp}{ty:bo}{pos:String}{af:Array Edge}{g:av (Nat×Bool)}{x y:bO}{t t2:bo}
def ky{a b:Int}(al:aL c E L x (.of a))(hy:aL c E L y (.of b)):ba c E L ⟨d,.binOp .add t x y t2,ty,pos,af,g⟩ (.of (bz (a+b))):=.pure λA W s=>
 ⟨.int .i64 (bz (a+b)),by simp[execOp,eqGuard,binOp,Op.intArith,of_int.1 (al A W s),of_int.1 (hy A W s),bz],of_int.2 I⟩
def q4{a b:Int}(al:aL c E L x (.of a))(hy:aL c E L y (.of b)):ba c E L ⟨d,.binOp .sub t x y t2,ty,pos,af,g⟩ (.of (bz (a-b))):=.pure λA W s=>
 ⟨.int .i64 (bz (a-b)),by simp[execOp,eqGuard,binOp,Op.intArith,of_int.1 (al A W s),of_int.1 (hy A W s),bz],of_int.2 I⟩
def agI{a b:Int}(al:aL c E L x (.of a))(hy:aL c E L y (.of b)):ba c E L ⟨d,.binOp .mul t x y t2,ty,pos,af,g⟩ (.of (bz (a*b))):=.pure λA W s=>
 ⟨.int .i64 (bz (a*b)),by simp[execOp,eqGuard,binOp,Op.intArith,of_int.1 (al A W s),of_int.1 (hy A W s),bz],of_int.2 I⟩
def agJ{a b r:Int}(al:aL c E L x (.of a))(hy:aL c E L y (.of b))(h:b≠0∧a.tmod b=r):ba c E L ⟨d,.binOp .rem t x y t2,ty,pos,af,g⟩ (.of r):=.pure λA W s=>
 ⟨.int .i64 r,by obtain⟨h1,rfl⟩:=h;simp[execOp,eqGuard,binOp,Op.intDiv,of_int.1 (al A W s),of_int.1 (hy A W s),h1],of_int.2 I⟩
def qk{a b:Int}(al:aL c E L x (.of a))(hy:aL c E L y (.of b)):ba c E L ⟨d,.binOp .lss t x y t2,ty,pos,af,g⟩ (.of (decide (a<b))):=.pure λA W s=>
 ⟨.bool (decide (a<b)),by simp only[execOp,eqGuard,binOp,of_int.1 (al A W s),of_int.1 (hy A W s)];rfl,of_bool.2 I⟩
def agK{a b:Int}(al:aL c E L x (.of a))(hy:aL c E L y (.of b)):ba c E L ⟨d,.binOp .leq t x y t2,ty,pos,af,g⟩ (.of (decide (a<=b))):=.pure λA W s=>
 ⟨.bool (decide (a<=b)),by simp only[execOp,eqGuard,binOp,of_int.1 (al A W s),of_int.1 (hy A W s)];rfl,of_bool.2 I⟩
def Ae{a b:Int}(al:aL c E L x (.of a))(hy:aL c E L y (.of b)):ba c E L ⟨d,.binOp .gtr t x y t2,ty,pos,af,g⟩ (.of (decide (a>b))):=.pure λA W s=>
 ⟨.bool (decide (a>b)),by simp only[execOp,eqGuard,binOp,of_int.1 (al A W s),of_int.1 (hy A W s)];rfl,of_bool.2 I⟩
def MU{a b:Int}(al:aL c E L x (.of a))(hy:aL c E L y (.of b)):ba c E L ⟨d,.binOp .geq t x y t2,ty,pos,af,g⟩ (.of (decide (a>=b))):=.pure λA W s=>
 ⟨.bool (decide (a>=b)),by simp only[execOp,eqGuard,binOp,of_int.1 (al A W s),of_int.1 (hy A W s)];rfl,of_bool.2 I⟩
def nz{a b:Int}(al:aL c E L x (.of a))(hy:aL c E L y (.of b)):ba c E L ⟨d,.binOp .eql t x y t2,ty,pos,af,g⟩ (.of (a==b)):=.pure λA W s=>
 ⟨.bool (a==b),by simp only[execOp,eqGuard,binOp,of_int.1 (al A W s),of_int.1 (hy A W s)];rfl,of_bool.2 I⟩
def MW{a b:Int}(al:aL c E L x (.of a))(hy:aL c E L y (.of b)):ba c E L ⟨d,.binOp .neq t x y t2,ty,pos,af,g⟩ (.of (a !=b)):=.pure λA W s=>
 ⟨.bool (a !=b),by simp only[execOp,eqGuard,binOp,of_int.1 (al A W s),of_int.1 (hy A W s)];rfl,of_bool.2 I⟩
def Ul{a b:Int}{ats:Array bo}(al:aL c E L x (.of a))(hy:aL c E L y (.of b)):ba c E L ⟨d,.call ⟨.builtin .min,#[x,y],ats⟩,ty,pos,af,g⟩ (.of (min a b)):=.pure λA W s=>
 ⟨.int .i64 (min a b),by
   simp[execOp,resolve,invoke,builtin,Builtin.min_,Builtin.min2,of_int.1 (al A W s),of_int.1 (hy A W s)];split <;> omega,of_int.2 I⟩
def Uk{a b:Int}{ats:Array bo}(al:aL c E L x (.of a))(hy:aL c E L y (.of b)):ba c E L ⟨d,.call ⟨.builtin .max,#[x,y],ats⟩,ty,pos,af,g⟩ (.of (max a b)):=.pure λA W s=>
 ⟨.int .i64 (max a b),by
   simp[execOp,resolve,invoke,builtin,Builtin.max_,Builtin.max2,of_int.1 (al A W s),of_int.1 (hy A W s)];split <;> omega,of_int.2 I⟩
def agL(a:BitVec 8):(a.toNat:Int)<256:=by have:=a.isLt;omega
def agM{a:BitVec 8}{src dst:bo}{e:TypeDesc}(hs:c.P.underlying src=some e)(hd:c.P.underlying dst=some (.int .i64))(al:aL c E L x (.of a)):ba c E L ⟨d,.convert src dst x,ty,pos,af,g⟩ (.of (a.toNat:Int)):=.pure λA W s=>
 ⟨.int .i64 a.toNat,by
   have h:IntKind.i64.wrap (a.toNat:Int)=(a.toNat:Int):=hr (by omega) (by have:=agL a;omega);simp only[execOp,convert,df,dn hs,dn hd,H9.1 (al A W s),Conv.intToInt,Result.andThen_ok,h];rfl,of_int.2 I⟩
def MB(a:BitVec 64):(a.toNat:Int)<18446744073709551616:=by have:=a.isLt;omega
def ofInt_u64(a:BitVec 64):BitVec.ofInt 64 (a.toNat:Int)=a:=by simp
def ade{a b:BitVec 64}(al:aL c E L x (.of a))(hy:aL c E L y (.of b)):ba c E L ⟨d,.binOp .and t x y t2,ty,pos,af,g⟩ (.of (a&&&b)):=.pure λA W s=>
 ⟨.int .u64 (a&&&b).toNat,by
   simp only[execOp,eqGuard,binOp,im.1 (al A W s),im.1 (hy A W s)];have h:IntKind.u64.wrap ((a&&&b).toNat:Int)=((a&&&b).toNat:Int):=by rw[wrap_u64];have:=MB (a&&&b);omega
   rw[<-h];conv=>rhs;rw[<-ofInt_u64 a,<-ofInt_u64 b]
   rfl,im.2 I⟩
def aeq{a b:BitVec 64}(al:aL c E L x (.of a))(hy:aL c E L y (.of b)):ba c E L ⟨d,.binOp .or t x y t2,ty,pos,af,g⟩ (.of (a|||b)):=.pure λA W s=>
 ⟨.int .u64 (a|||b).toNat,by
   simp only[execOp,eqGuard,binOp,im.1 (al A W s),im.1 (hy A W s)];have h:IntKind.u64.wrap ((a|||b).toNat:Int)=((a|||b).toNat:Int):=by rw[wrap_u64];have:=MB (a|||b);omega
   rw[<-h];conv=>rhs;rw[<-ofInt_u64 a,<-ofInt_u64 b]
   rfl,im.2 I⟩
def adf{a b:BitVec 64}(al:aL c E L x (.of a))(hy:aL c E L y (.of b)):ba c E L ⟨d,.binOp .xor t x y t2,ty,pos,af,g⟩ (.of (a ^^^ b)):=.pure λA W s=>
 ⟨.int .u64 (a ^^^ b).toNat,by
   simp only[execOp,eqGuard,binOp,im.1 (al A W s),im.1 (hy A W s)];have h:IntKind.u64.wrap ((a ^^^ b).toNat:Int)=((a ^^^ b).toNat:Int):=by rw[wrap_u64];have:=MB (a ^^^ b);omega
   rw[<-h];conv=>rhs;rw[<-ofInt_u64 a,<-ofInt_u64 b]
   rfl,im.2 I⟩
def adg(a:BitVec 64)(n:Nat):IntKind.u64.wrap ((a.toNat:Int)*2^min n 64)=((a <<< n).toNat:Int):=by
 rw[wrap_u64,BitVec.toNat_shiftLeft,Nat.shiftLeft_eq];rcases wP n 64 with h|h
 ·rw[nk (by omega)];simp
 rw[Kd h];have e:(a.toNat*2^n) % 2^64=0:=by
  rw[show n=64+(n-64) by omega,Nat.pow_add];exact Nat.mod_eq_zero_of_dvd ⟨a.toNat*2^(n-64),by rw[<-Nat.mul_assoc,p9 a.toNat,Nat.mul_assoc]⟩
 rw[e];have a8:(2:Int)^64=18446744073709551616:=by decide
 rw[a8];omega
def adh(a:BitVec 64)(n:Nat):(a.toNat:Int).fdiv (2^min n 64)=((a >>> n).toNat:Int):=by
 rw[PN,PM];have e:∀m:Nat,(a.toNat:Int).fdiv (2^m)=((a.toNat/2^m:Nat):Int):=by
  intro m;rw[show((2:Int)^m)=((2^m:Nat):Int) by simp];rw[Int.fdiv_eq_ediv_of_nonneg _ (Qk _)];exact(Int.natCast_ediv _ _).symm
 rw[e];rcases wP n 64 with h|h
 ·rw[nk (by omega)]
 rw[Kd h];have h1:a.toNat/2^64=0:=Kg a.isLt;have ad:a.toNat/2^n=0:=Kg (p5 a.isLt (Nat.pow_le_pow_right (by omega) h));rw[h1,ad]
def adi{a:BitVec 64}{b:BitVec 64}(al:aL c E L x (.of a))(hy:aL c E L y (.of b)):ba c E L ⟨d,.binOp .shl t x y t2,ty,pos,af,g⟩ (.of (a <<< b.toNat)):=.pure λA W s=>
 ⟨.int .u64 (a <<< b.toNat).toNat,by
   simp only[execOp,eqGuard,binOp,im.1 (al A W s),im.1 (hy A W s)];have h:=ada c.P W .u64 .u64 a.toNat b.toNat (by omega);simp only[Int.toNat_natCast,IntKind.bits,adg]at h;exact dF (λr:Result bd=>r.andThen λv w=>.ok (Next.value v) w) h,im.2 I⟩
def adj{a:BitVec 64}{b:BitVec 64}(al:aL c E L x (.of a))(hy:aL c E L y (.of b)):ba c E L ⟨d,.binOp .shr t x y t2,ty,pos,af,g⟩ (.of (a >>> b.toNat)):=.pure λA W s=>
 ⟨.int .u64 (a >>> b.toNat).toNat,by
   simp only[execOp,eqGuard,binOp,im.1 (al A W s),im.1 (hy A W s)];have h:=adb c.P W .u64 .u64 a.toNat b.toNat (by omega);simp only[Int.toNat_natCast,IntKind.bits,adh]at h;exact dF (λr:Result bd=>r.andThen λv w=>.ok (Next.value v) w) h,im.2 I⟩
def adk{a b:BitVec 64}(al:aL c E L x (.of a))(hy:aL c E L y (.of b)):ba c E L ⟨d,.binOp .lss t x y t2,ty,pos,af,g⟩ (.of (decide (a<b))):=.pure λA W s=>
 ⟨.bool (decide (a<b)),by
   simp only[execOp,eqGuard,binOp,im.1 (al A W s),im.1 (hy A W s)];have h:decide ((a.toNat:Int)<(b.toNat:Int))=decide (a<b):=by simp[Kv,BitVec.le_def]
   rw[<-h];rfl,of_bool.2 I⟩
def adl{a b:BitVec 64}(al:aL c E L x (.of a))(hy:aL c E L y (.of b)):ba c E L ⟨d,.binOp .geq t x y t2,ty,pos,af,g⟩ (.of (decide (a>=b))):=.pure λA W s=>
 ⟨.bool (decide (a>=b)),by
   simp only[execOp,eqGuard,binOp,im.1 (al A W s),im.1 (hy A W s)];have h:decide ((a.toNat:Int)>=(b.toNat:Int))=decide (a>=b):=by simp[Kv,BitVec.le_def]
   rw[<-h];rfl,of_bool.2 I⟩
def adm{a b:BitVec 64}(al:aL c E L x (.of a))(hy:aL c E L y (.of b)):ba c E L ⟨d,.binOp .eql t x y t2,ty,pos,af,g⟩ (.of (a==b)):=.pure λA W s=>
 ⟨.bool (a==b),by
   simp only[execOp,eqGuard,binOp,im.1 (al A W s),im.1 (hy A W s)];have h:((a.toNat:Int)==(b.toNat:Int))=(a==b):=by
    rw[mI];simp[bne];exact⟨λh=>yU (by omega),λh=>by rw[h]⟩
   rw[<-h];rfl,of_bool.2 I⟩
def adn{a b:BitVec 64}(al:aL c E L x (.of a))(hy:aL c E L y (.of b)):ba c E L ⟨d,.binOp .neq t x y t2,ty,pos,af,g⟩ (.of (a !=b)):=.pure λA W s=>
 ⟨.bool (a !=b),by
   simp only[execOp,eqGuard,binOp,im.1 (al A W s),im.1 (hy A W s)];have h:((a.toNat:Int) !=(b.toNat:Int))=(a !=b):=by
    rw[mI];simp[bne];exact⟨λh=>λe=>h (by rw[e]),λh=>by intro e;exact h (yU (by omega))⟩
   rw[<-h];rfl,of_bool.2 I⟩
def TH{a:Int}{src dst:bo}{e:TypeDesc}(hs:c.P.underlying src=some e)(hd:c.P.underlying dst=some (.int .u64))(al:aL c E L x (.of a)):ba c E L ⟨d,.convert src dst x,ty,pos,af,g⟩ (.of (BitVec.ofInt 64 a)):=.pure λA W s=>
 ⟨.int .u64 (BitVec.ofInt 64 a).toNat,by
   have h:IntKind.u64.wrap a=((BitVec.ofInt 64 a).toNat:Int):=by rw[wrap_u64,BitVec.toNat_ofInt];omega
   simp[execOp,convert,dn hs,dn hd,of_int.1 (al A W s),Conv.intToInt,h],im.2 I⟩
def acN{a:BitVec 64}{src dst:bo}{e:TypeDesc}(hs:c.P.underlying src=some e)(hd:c.P.underlying dst=some (.int .u8))(al:aL c E L x (.of a)):ba c E L ⟨d,.convert src dst x,ty,pos,af,g⟩ (.of (a.setWidth 8)):=.pure λA W s=>
 ⟨.int .u8 (a.setWidth 8).toNat,by
   have h:IntKind.u8.wrap (a.toNat:Int)=((a.setWidth 8).toNat:Int):=by rw[wrap_u8,BitVec.toNat_setWidth];have:=a.isLt;omega
   simp only[execOp,convert,df,dn hs,dn hd,im.1 (al A W s),Conv.intToInt,Result.andThen_ok,h];rfl,H9.2 I⟩
def aer{a:BitVec 64}{src dst:bo}{e:TypeDesc}(hs:c.P.underlying src=some e)(hd:c.P.underlying dst=some (.int .i64))(al:aL c E L x (.of a)):ba c E L ⟨d,.convert src dst x,ty,pos,af,g⟩ (.of (bz a.toNat)):=.pure λA W s=>
 ⟨.int .i64 (bz a.toNat),by
   simp only[execOp,convert,df,dn hs,dn hd,im.1 (al A W s),Conv.intToInt,Result.andThen_ok];rfl,of_int.2 I⟩
end
def xq(tmps:Array bd):ResultVar->Sem bd
 | .tmp t=>pure (tmps.getD t undef)
 | .cell a t=>do loadVar t (<-asAddr (tmps.getD a undef))
def w6(fn:Func)(tmps:Array bd):results fn tmps=(do
 let vs <-fn.results.mapM (xq tmps)
 pure (if h:vs.size=1 then vs[0]else .tuple vs)):=by
 unfold results
 congr 1
section
variable{c:bW}{E:aa (Nat×J)}{L:aa aA}{ops:Array Oper}{Q:Exit->Act->bc->Prop}
def oM(c:bW)(E:aa (Nat×J))(L:aa aA)(r:ResultVar)(τ:J):Prop:=
 ∀a W,bA c E L a W->∃v,(xq a.tmps r).run c.P W=.ok v W∧τ.holds c.bL W v
def Ir{t:Nat}{τ:J}(h:look E t=some τ):oM c E L (.tmp t) τ:=λa W s=>by
 obtain⟨v,h1,ad⟩:=s.env t τ h;exact⟨v,by simp[xq,h1],Rw ad⟩
def V0{t:Nat}{ty:bo}{i p:Nat}{α:Type}[ag α]{x:α}(dx:bG c.P ty α)(h:look E t=some (.eq (.pointer (some ⟨p,0,none⟩))))(ar:L[i]? =some ⟨some p,.var x⟩):oM c E L (.cell t ty) (.of x):=λa W s=>by
 obtain⟨v,h1,ad⟩:=s.env t _ h;subst ad;obtain⟨pv,eH,cs,T,rfl,fU⟩:=s.own _ (er ar);have ao:cs.toList.length=ag.size α:=ag.len fU;have da:cs.size=ag.size α:=by simpa using ao
 obtain⟨v,ay,aN⟩:=wW (A:=ks L++c.bL) (off:=0) dx eH (by omega) (by rw[th,<-ao,l7];exact fU);exact⟨v,by simp[xq,h1,asAddr,ay],Rw aN⟩
def sL(c:bW)(ρ:J):Ending->bc->Prop:=λe W'=> ∃v,e=.returned v∧Fr c.X c.iE W'∧ρ.holds c.bL W' v
def aq.V1{fn:Func}{r:ResultVar}{τ:J}(aC:fn.results= #[r])(h:oM c E L r τ)(dC:c.ds=[]:=by rfl):aq c (bodyPost c.P fn (sL c τ)) .ret E L:=λa W s=>by
 obtain⟨v,h1,ad⟩:=h a W s;exact⟨s.xg dC,v,by simp[w6,aC,h1],v,rfl,s.cW,ad⟩
def aq.ajb{fn:Func}{r eS:ResultVar}{τ mY:J}(aC:fn.results= #[r,eS])(h:oM c E L r τ)(ad:oM c E L eS mY)(dC:c.ds=[]:=by rfl):aq c (bodyPost c.P fn (sL c (.bR [τ,mY]))) .ret E L:=λa W s=>by
 obtain⟨v,ay,aN⟩:=h a W s;obtain⟨v2,a6,bh⟩:=ad a W s;exact⟨s.xg dC,.tuple #[v,v2],by simp[w6,aC,ay,a6],_,rfl,s.cW,_,rfl,.cons aN (.cons bh .nil)⟩
def aq.VH{fn:Func}{r eS ko:ResultVar}{τ mY D9:J}(aC:fn.results= #[r,eS,ko])(h:oM c E L r τ)(ad:oM c E L eS mY)(ay:oM c E L ko D9)(dC:c.ds=[]:=by rfl):aq c (bodyPost c.P fn (sL c (.bR [τ,mY,D9]))) .ret E L:=λa W s=>by
 obtain⟨v,aN,a6⟩:=h a W s;obtain⟨v2,bh,cH⟩:=ad a W s;obtain⟨v3,ed,e5⟩:=ay a W s;exact⟨s.xg dC,.tuple #[v,v2,v3],by simp[w6,aC,aN,bh,ed],_,rfl,s.cW,_,rfl,.cons a6 (.cons cH (.cons e5 .nil))⟩
def cn.of{P:Program}{f:FuncId}{fn:Func}{code:Code}{n:Nat}{τs:aa J}{ρ:J}(aU:P.funcs[f]? =some fn)(hb:fn.body=some code)(aG:fn.ntmps=n)(hlen:Nat.ble τs.length n=true)
 (h:∀W A,ax ⟨P,n,W,[],A,none,[]⟩ (bodyPost P fn (sL ⟨P,n,W,[],A,none,[]⟩ ρ)) code (params 0 τs) []):cn P f τs ρ:=cn.enter aU hb aG hlen h
end
structure lr(P:Program)(t:TypeId)(α:Type)[ag α][DecidableEq α](k:Nat):Prop where
 run:∀d,k<=d->∀A W u v (x y:α),(J.of x).holds A W u->(J.of y).holds A W v->(Op.equalIn d t u v).run P W=.ok (decide (x=y)) W
def Td{P t K}(h:P.underlying t=some (.int K)):lr P t Int 1 where
 run d hd A W u v x y al hy:=by
  obtain⟨d,rfl⟩:∃e,d=e+1:=⟨d-1,by omega⟩;rw[of_int.1 al,of_int.1 hy,run_equalIn_int W d t .i64 K x y h];congr 1
def ado{P t K}(h:P.underlying t=some (.int K)):lr P t (BitVec 64) 1 where
 run d hd A W u v x y al hy:=by
  obtain⟨d,rfl⟩:∃e,d=e+1:=⟨d-1,by omega⟩;rw[im.1 al,im.1 hy,run_equalIn_int W d t .u64 K _ _ h];congr 1;rw[mI];simp only[nV,fZ];exact⟨λh=>yU (by omega),λh=>by rw[h]⟩
def ace{P t}(h:P.underlying t=some .bool):lr P t Bool 1 where
 run d hd A W u v x y al hy:=by
  obtain⟨d,rfl⟩:∃e,d=e+1:=⟨d-1,by omega⟩;rw[of_bool.1 al,of_bool.1 hy,run_equalIn_bool' W d t x y h];congr 1
def K6{P:Program}{W:bc}(f:Nat->Sem Bool)(p:Nat->Bool):∀(l:aa Nat),(∀i∈l,(f i).run P W=.ok (p i) W)->
 (forIn (m:=Sem) l ((none,()):av Bool×Unit) (λi _=>do
  let __do_lift <-f i
  if (!__do_lift)=true then pure (ForInStep.done (some false,()))else
   pure (ForInStep.yield (none,())))).run P W=.ok (if l.all p then(none,())else(some false,())) W
 |[],_=>by simp
 | i::r,h=>by
   have h1:=h i (by simp);have ad:=K6 (P:=P) (W:=W) f p r (λj aD=>h j (by simp[aD]));cases hp:p i with
   |false=>simp[F2,h1,hp]
   | true=>
     rw[F2]
     simp only[df,h1,hp,Result.andThen_ok,Bool.not_true,p4,mK,Sem.run_pure]
     rw[ad]
     simp[hp]
def Te{P t e n k}{α:Type}[ag α][Inhabited α][DecidableEq α](h:P.underlying t=some (.array n e))(dO:bG P e α)(he:lr P e α k):lr P t (Vector α n) (k+1)where
 run d hd A W u v x y al hy:=by
  obtain⟨d,rfl⟩:∃e,d=e+1:=⟨d-1,by omega⟩;obtain⟨h1,ad⟩:=al;obtain⟨ay,aN⟩:=hy;obtain⟨xs,rfl⟩:∃cs,u=.agg cs:=by simpa[shaped,ag.agg]using h1
  obtain⟨ys,rfl⟩:∃cs,v=.agg cs:=by simpa[shaped,ag.agg]using ay
  simp only[Value.cells]at ad aN;have uc:xs.toList.length=n*ag.size α:=ag.len ad;have Ea:ys.toList.length=n*ag.size α:=ag.len aN;have xA:∀i∈List.range' 0 n,((do
   let a <-part e xs (i*ag.size α)
   let b <-part e ys (i*ag.size α)
   Op.equalIn d e a b):Sem Bool).run P W=.ok (decide (b9 x i=b9 y i)) W:=by
   intro i aw
   have gv:i<n:=by simpa using aw
   have fV:i*ag.size α+ag.size α<=n*ag.size α:=(aO.idx (α:=α) n i gv).gk
   obtain⟨a,a1,ud⟩:=tu (A:=A) (P:=P) (W:=W) (cs:=xs) (off:=i*ag.size α) dO (by simp at uc;omega) ((aO.idx (α:=α) n i gv).iJ ad)
   obtain⟨b,hb,Eb⟩:=tu (A:=A) (P:=P) (W:=W) (cs:=ys) (off:=i*ag.size α) dO (by simp at Ea;omega) ((aO.idx (α:=α) n i gv).iJ aN)
   simp only[df,a1,hb,Result.andThen_ok]
   exact he.run d (by omega) A W a b _ _ ud Eb
  have aU:=K6 (P:=P) (W:=W) _ _ _ xA;have oj:(List.range' 0 n).all (λi=>decide (b9 x i=b9 y i))=decide (x=y):=by
   rw[mI,mG,fZ];constructor
   ·intro h;apply Vector.ext;intro i aw;have:=h i (by simpa using aw);simpa[b9,aw]using this
   rintro rfl i _;simp
  rw[oj]at aU;simp only[Op.equalIn,df,dn h,Result.andThen_ok,dO.sizeOf,Jz];simp only[Std.Legacy.Range.size,Nat.sub_zero,Nat.add_one_sub_one,KS]at aU⊢;simp only[bind_assoc]at aU;rw[aU];by_cases Ec:x=y
  ·simp[Ec]
  simp[Ec]
section
variable{c:bW}{E:aa (Nat×J)}{L:aa aA}{ops:Array Oper}{Q:Exit->Act->bc->Prop}
variable{d:av Tmp}{ty:bo}{pos:String}{af:Array Edge}{g:av (Nat×Bool)}{x y:bO}{t t2:bo}
def Uw{α:Type}[ag α][DecidableEq α]{k:Nat}{a b:α}(s7:lr c.P t α k)(hk:Nat.ble k 10000=true)(bu:c.P.eqGuardType c.P.depth t=false)(a1:ag.agg α=true)(al:aL c E L x (.of a))(hy:aL c E L y (.of b)):
 ba c E L ⟨d,.binOp .eql t x y t2,ty,pos,af,g⟩ (.of (decide (a=b))):=.pure λA W s=>by
 have h1:=al A W s
 have ad:=hy A W s
 obtain⟨xs,nJ⟩:∃cs,A.eval x=.agg cs:=by simpa[shaped,a1]using h1.1
 obtain⟨ys,vL⟩:∃cs,A.eval y=.agg cs:=by simpa[shaped,a1]using ad.1
 have ay:=s7.run 10000 (ni hk) _ W _ _ a b h1 ad
 rw[nJ,vL]at ay
 refine⟨.bool (decide (a=b)),?_,of_bool.2 I⟩
 simp only[execOp,nJ,vL,df,Km W .eql t x y xs ys bu,Result.andThen_ok,run_eql_struct,ay,Sem.run_pure]
def agN{α:Type}[ag α][DecidableEq α]{k:Nat}{a b:α}(s7:lr c.P t α k)(hk:Nat.ble k 10000=true)(bu:c.P.eqGuardType c.P.depth t=false)(a1:ag.agg α=true)(al:aL c E L x (.of a))(hy:aL c E L y (.of b)):
 ba c E L ⟨d,.binOp .neq t x y t2,ty,pos,af,g⟩ (.of (!decide (a=b))):=.pure λA W s=>by
 have h1:=al A W s
 have ad:=hy A W s
 obtain⟨xs,nJ⟩:∃cs,A.eval x=.agg cs:=by simpa[shaped,a1]using h1.1
 obtain⟨ys,vL⟩:∃cs,A.eval y=.agg cs:=by simpa[shaped,a1]using ad.1
 have ay:=s7.run 10000 (ni hk) _ W _ _ a b h1 ad
 rw[nJ,vL]at ay
 refine⟨.bool (!decide (a=b)),?_,of_bool.2 I⟩
 simp only[execOp,nJ,vL,df,Km W .neq t x y xs ys bu,Result.andThen_ok,run_neq_struct,ay,Sem.run_pure]
end
def Hi{P:Program}{W:bc}{d:Nat}{xs ys:Array bd}:(Op.eqFields d xs ys []).run P W=.ok true W:=rfl
def qf{P:Program}{A:aa Nat}{W:bc}{d:Nat}{xs ys:Array bd}{β γ:Type}[ag β][ag γ][DecidableEq γ](l:aO β γ){Pc Pd:β}{fd:Field}{fs:aa Field}{k:Nat}{r:Bool}(dO:bG P fd.type γ)(aS:fd.offset=l.off)(aG:(fd.name== "_")=false)
 (s7:lr P fd.type γ k) (hd:k<=d) (al:ag.rep A W xs.toList Pc) (hy:ag.rep A W ys.toList Pd) (aC:(Op.eqFields d xs ys fs).run P W=.ok r W):
 (Op.eqFields d xs ys (fd::fs)).run P W=.ok (decide (l.get Pc=l.get Pd)&&r) W:=by
 have uc:xs.toList.length=ag.size β:=ag.len al
 have Ea:ys.toList.length=ag.size β:=ag.len hy
 have fV:=l.gk
 obtain⟨a,a1,ud⟩:=tu (A:=A) (P:=P) (W:=W) (cs:=xs) (off:=l.off) dO (by simp at uc;omega) (l.iJ al)
 obtain⟨b,hb,Eb⟩:=tu (A:=A) (P:=P) (W:=W) (cs:=ys) (off:=l.off) dO (by simp at Ea;omega) (l.iJ hy)
 have pc:fd.name≠ "_" :=fun e=>by rw [e] at aG;simp at aG
 simp only[Op.eqFields,bm pc,df,aS,a1,hb,Result.andThen_ok,s7.run d hd A W a b _ _ ud Eb]
 by_cases h:l.get Pc=l.get Pd
 ·simp[h,aC]
 simp[h]
def G2{P:Program}{t:bo}{β:Type}[ag β][DecidableEq β]{k:Nat}{fs:Array Field}(a1:ag.agg β=true)(hu:P.underlying t=some (.struct fs))(hp:P.stoodInHeld t=false)
 (h:∀d,k<=d->∀A W (xs ys:Array bd) (x y:β),ag.rep A W xs.toList x->ag.rep A W ys.toList y->(Op.eqFields d xs ys fs.toList).run P W=.ok (decide (x=y)) W):lr P t β (k+1)where
 run d hd A W u v x y al hy:=by
  obtain⟨d,rfl⟩:∃e,d=e+1:=⟨d-1,by omega⟩;obtain⟨xs,rfl⟩:∃cs,u=.agg cs:=by simpa[shaped,a1]using al.1
  obtain⟨ys,rfl⟩:∃cs,v=.agg cs:=by simpa[shaped,a1]using hy.1
  have aU:P.fieldsOf t=fs:=by simp[Program.fieldsOf,hu]
  rw[run_equalIn_struct W d t xs ys (by rw[aU];exact hu) hp,aU];exact h d (by omega) A W xs ys x y (by simpa[Value.cells]using al.2) (by simpa[Value.cells]using hy.2)
def Q7{P:Program}{W:bc}(fs:Array Field)(h:fs.all (λf=>(P.info? f.type).isSome)=true):
 (fs.mapM (m:=Sem) λf=>do pure (f.offset,<-Go.sizeOf f.type)).run P W=.ok (fs.map λf=>(f.offset,P.cellsOf f.type)) W:=by
 obtain⟨l⟩:=fs
 have key:∀(l:aa Field),l.all (λf=>(P.info? f.type).isSome)=true->(l.mapM (m:=Sem) λf=>do pure (f.offset,<-Go.sizeOf f.type)).run P W=.ok (l.map λf=>(f.offset,P.cellsOf f.type)) W:=by
  intro l;induction l with
  |nil=>intro _;rfl
  | cons f r bN=>
    intro h
    simp only[List.all_cons,gJ]at h
    obtain⟨i,aw⟩:=JG.1 h.1
    rw[List.mapM_cons]
    simp only[df,Go.sizeOf,typeInfo,run_program,Result.andThen_ok,aw,Sem.run_pure]
    have:=bN h.2
    simp only[df,Go.sizeOf,typeInfo]at this
    rw[this]
    simp[Program.cellsOf,aw]
 have cC:l.all (λf=>(P.info? f.type).isSome)=true:=by simpa using h
 rw[List.mapM_toArray]
 simp only[Sem.run_map,key l cC,Result.andThen_ok]
 simp
def aaJ(ds:aa bd)(off:Nat):∀(j:Nat) (cs:Array bd),off+j+ds.length<=cs.size->
 (ds.zipIdx j).foldl (λcs (c,j)=>cs.setIfInBounds (off+j) c) cs=(cs.toList.take (off+j)++ds++cs.toList.drop (off+j+ds.length)).toArray:=by
 induction ds with
 |nil=>intro j cs _;simp
 | cons v r bN=>
   intro j cs h
   simp only[List.length_cons]at h
   rw[List.zipIdx_cons,List.foldl_cons,bN (j+1) _ (by simp;omega)]
   simp only[Array.toList_setIfInBounds]
   have:=list_seg_step cs.toList (off+j) v r (by simp;omega)
   rw[show off+(j+1)=off+j+1 by omega]
   simp only[List.length_cons]
   rw[this]
def G9{place:Nat->av (Nat×Nat)}{cs:Array bd}{i off sz:Nat}{v:bd}{rest:aa (Nat×bd)}(hp:place i=some (off,sz))(a7:v.cells.size=sz)(hle:off+sz<=cs.size):
 Instr.fill place cs ((i,v)::rest)=Instr.fill place (fR cs.toList off v.cells.toList).toArray rest:=by
 simp only[Instr.fill,hp]
 rw[bk (by simp[a7];omega)]
 have:=aaJ v.cells.toList off 0 cs (by simp[a7];omega)
 simp only[Nat.add_zero]at this
 congr 1
 rw[<-Array.foldl_toList]
 have b4:(v.cells.zipIdx).toList=v.cells.toList.zipIdx:=by simp
 rw[b4,this]
 simp[fR]
section
variable{c:bW}{E:aa (Nat×J)}{L:aa aA}{ops:Array Oper}{Q:Exit->Act->bc->Prop}
variable{d:av Tmp}{ty:bo}{pos:String}{af:Array Edge}{g:av (Nat×Bool)}{x y:bO}{t t2:bo}
inductive q8(c:bW)(E:List (Nat×J))(L:List aA)(place:Nat->Option (Nat×Nat)){β:Type}[ag β]:β->List (Nat×Operand)->β->Prop
 |nil {b}:q8 c E L place b [] b
 |cons {b cZ b':β} {γ:Type} [ag γ] {v:γ} {i:Nat} {x:Operand} {r:List (Nat×Operand)} (l:aO β γ):place i=some (l.off,ag.size γ)->aL c E L x (.of v)->l.set b v=cZ->q8 c E L place cZ r b'->q8 c E L place b ((i,x)::r) b'
def q8.run{place:Nat->av (Nat×Nat)}{β:Type}[ag β]{b b':β}{dj:aa (Nat×bO)}(h:q8 c E L place b dj b'):∀a W,bA c E L a W->∀cs:Array bd,ag.rep (ks L++c.bL) W cs.toList b->
 ∃dY,Instr.fill place cs (dj.map λ(i,x)=>(i,a.eval x))=some dY∧ag.rep (ks L++c.bL) W dY.toList b':=by
 induction h with
 |nil=>intro a W s cs aC;exact⟨cs,rfl,aC⟩
 | @cons b cZ b' γ _ v i x r l h1 ad ay _ bN=>
   intro a W s cs aC
   subst ay
   have a7:=ad a W s
   have da:(a.eval x).cells.size=ag.size γ:=by have:=ag.len a7.2;simpa using this
   have ao:cs.toList.length=ag.size β:=ag.len aC
   have fV:=l.gk
   rw[mJ,G9 h1 da (by simp at ao;omega)]
   refine bN a W s _ ?_
   have:=l.mc aC a7.2
   simpa[fR,ag.len a7.2]using this
class ff (P:Program) (t:bo) (pl:outParam (Array (Nat×Nat))):Prop where
 at_:∃fs,P.underlying t=some (.struct fs)∧fs.all (λf=>(P.info? f.type).isSome)=true∧(fs.map λf=>(f.offset,P.cellsOf f.type))=pl
def kt{β:Type}[ag β]{z b:β}{dj:aa (Nat×bO)}{pl:Array (Nat×Nat)}(a1:ag.agg β=true)(E7:ff c.P t pl)(fP:cN c.P t z)
 (aU:q8 c E L (pl[·]?) z dj b):ba c E L ⟨d,.build t dj.toArray,ty,pos,af,g⟩ (.of b):=.pure λa W s=>by
 obtain⟨fs,hu,hs,rfl⟩:=E7.at_
 obtain⟨i,dk,h1,ad,ay⟩:=fP.zero
 obtain⟨dY,aN,a6⟩:=aU.run a W s dk.cells (ay _ _).2
 refine⟨.agg dY,?_,by simp[shaped,a1],by simpa[Value.cells]using a6⟩
 have hm:(dj.toArray.map λ(x:Nat×bO)=>(x.1,a.eval x.2)).toList=dj.map λ(i,x)=>(i,a.eval x):=by simp
 simp only[execOp,Instr.build,df,zeroValue,typeInfo,run_program,Result.andThen_ok,h1,ad,Sem.run_pure,dn hu,Q7 fs hs]
 rw[hm,aN]
 rfl
def ab5{β:Type}[ag β]{z b:β}{dj:aa (Nat×bO)}{n e sz:Nat}(a1:ag.agg β=true)(hu:c.P.underlying t=some (.array n e))(hs:(c.P.info? e).map (·.size)=some sz)(fP:cN c.P t z)
 (aU:q8 c E L (λi=>some (i*sz,sz)) z dj b):ba c E L ⟨d,.build t dj.toArray,ty,pos,af,g⟩ (.of b):=.pure λa W s=>by
 obtain⟨i,dk,h1,ad,ay⟩:=fP.zero
 obtain⟨fG,dv,da⟩:∃fG,c.P.info? e=some fG∧fG.size=sz:=by
  cases aw:c.P.info? e with
  |none=>simp[aw]at hs
  |some fG=>exact⟨fG,rfl,by simpa[aw]using hs⟩
 obtain⟨dY,aN,a6⟩:=aU.run a W s dk.cells (ay _ _).2
 refine⟨.agg dY,?_,by simp[shaped,a1],by simpa[Value.cells]using a6⟩
 have hm:(dj.toArray.map λ(x:Nat×bO)=>(x.1,a.eval x.2)).toList=dj.map λ(i,x)=>(i,a.eval x):=by simp
 simp only[execOp,Instr.build,df,zeroValue,typeInfo,run_program,Result.andThen_ok,h1,ad,Sem.run_pure,dn hu,Go.sizeOf,dv,da]
 rw[hm,aN]
 rfl
end
def pw{α:Type}[ag α](A:aa Nat)(W:bc)(v:bd)(xs:aa α):Prop:=
 (v=.slice none 0 0∧xs=[])∨
 ∃ b off cap cur T hQ,v=.slice (some ⟨b,off,none⟩) xs.length cap∧b∉A∧W.heap[b]? =some (.cells cur T hQ)∧xs.length<=cap∧xs.length<=maxLen∧off+xs.length*ag.size α<=cur.size∧
   gi A W ((cur.toList.drop off).take (xs.length*ag.size α)) xs
def pw.mono{α:Type}[ag α]{A W cg W' v}{xs:aa α}(e:Ext A W cg W')(h:pw A W v xs):pw cg W' v xs:=by
 rcases h with h|⟨b,off,cap,cur,T,hQ,h1,ad,ay,aN,a6,bh,cH⟩
 ·exact .inl h
 have bS:b<W.heap.size:=(qR.1 ay).1;exact .inr ⟨b,off,cap,cur,T,hQ,h1,λhm=>ad (e.new b hm bS),by rw[e.block b bS ad];exact ay,aN,a6,bh,cH.mono e⟩
instance{α:Type}[ag α]:ag (aa α)where
 size:=1
 agg:=false
 rep A W cs xs:=∃v,cs=[v]∧pw A W v xs
 len h:=by obtain⟨v,rfl,_⟩:=h;rfl
 one h:=by
  obtain⟨v,rfl,h⟩:=h;intro u hu;rw[gG.1 hu];rcases h with⟨rfl,_⟩|⟨b,off,cap,cur,T,hQ,rfl,_⟩ <;> rfl
 flat _:=rfl
 mono e h:=let⟨v,h1,ad⟩:=h; ⟨v,h1,ad.mono e⟩
def pw.one{α:Type}[ag α]{A W v}{xs:aa α}(h:pw A W v xs):v.oneCell'=true:=by
 rcases h with⟨rfl,_⟩|⟨b,off,cap,cur,T,hQ,rfl,_⟩ <;> rfl
def n1{α:Type}[ag α]{A W v}{xs:aa α}:(J.of xs).holds A W v↔pw A W v xs:=by
 constructor
 ·rintro ⟨h1,u,ad,ay⟩;have:v=u:=mM h1 ad;rw[this];exact ay
 intro h;exact⟨h.one,v,by rw[cells_one h.one],h⟩
def aF{α:Type}[Inhabited α](xs:aa α)(k:Nat):α:=xs[k]?.getD default
def e2{α:Type}[Inhabited α](xs:aa α){k:Nat}(h:k<xs.length):aF xs k=xs[k]:=by simp[aF,h]
def ss{α:Type}(xs:aa α)(lo aw:Int):av (aa α):=if 0<=lo∧lo<=aw∧aw<=xs.length then some ((xs.drop lo.toNat).take (aw.toNat-lo.toNat))else none
def aaK{α:Type}{xs r:aa α}{lo aw:Int}(h:ss xs lo aw=some r):∃a b:Nat,lo=a∧aw=b∧a<=b∧b<=xs.length∧r=(xs.drop a).take (b-a):=by
 unfold ss at h;split at h
 ·rename_i ak;simp only[fC]at h;exact⟨lo.toNat,aw.toNat,by omega,by omega,by omega,by omega,h.symm⟩
 cases h
def fv{α:Type}(bytes:Nat)(xs ys:aa α):av (aa α):=if (xs.length+ys.length)*bytes<=140737488355328∧xs.length+ys.length<=maxLen then some (xs++ys)else none
def RX{α:Type}{bytes:Nat}{xs ys r:aa α}(h:fv bytes xs ys=some r):(xs.length+ys.length)*bytes<=140737488355328∧xs.length+ys.length<=maxLen∧r=xs++ys:=by
 unfold fv at h;split at h
 ·rename_i ak;simp only[fC]at h;exact⟨ak.1,ak.2,h.symm⟩
 cases h
section
variable{c:bW}{E:aa (Nat×J)}{L:aa aA}{ops:Array Oper}{Q:Exit->Act->bc->Prop}
variable{d:av Tmp}{ty:bo}{pos:String}{af:Array Edge}{g:av (Nat×Bool)}{x y:bO}{t t2:bo}
def look_nil{α:Type}[ag α]:aL c E L (.const (.slice none 0 0)) (.of ([]:aa α)):=λ_ _ _=>n1.2 (.inl ⟨rfl,rfl⟩)
def pw.len{α:Type}[ag α]{A W v}{xs:aa α}(h:pw A W v xs):∃a cap,v=.slice a xs.length cap:=by
 rcases h with⟨rfl,rfl⟩|⟨b,off,cap,cur,T,hQ,rfl,_⟩
 ·exact⟨none,0,rfl⟩
 exact⟨_,_,rfl⟩
def sB{α:Type}[ag α]{xs:aa α}{e:bo}(hu:c.P.underlying t=some (.slice e))(al:aL c E L x (.of xs)):ba c E L ⟨d,.call ⟨.builtin .len,#[x],#[t]⟩,ty,pos,af,g⟩ (.of (xs.length:Int)):=.pure λa W s=>by
 obtain⟨b,cap,h1⟩:=(n1.1 (al a W s)).len;exact⟨.int .i64 xs.length,by simp[execOp,resolve,invoke,builtin,Builtin.len_,h1,dn hu,goInt],of_int.2 I⟩
def o0{α:Type}[ag α][Inhabited α]{xs:aa α}{e:bo}{i:Int}{k:Nat}(hu:c.P.underlying t=some (.slice e))(dO:bG c.P e α)(al:aL c E L x (.of xs))(hy:aL c E L y (.of i))(hk:k<xs.length∧i=k):
 ba c E L ⟨d,.indexAddr t x y,ty,pos,af,g⟩ (.ptr (aF xs k)):=.pure λa W s=>by
 obtain⟨bh,rfl⟩:=hk
 have a6:=of_int.1 (hy a W s)
 rcases n1.1 (al a W s)with⟨_,rfl⟩|⟨b,off,cap,cur,T,hQ,h1,ad,ay,aN,cH,ed,e5⟩
 ·simp at bh
 obtain⟨fG,dv,da⟩:=dO.info
 have hle:(k+1)*ag.size α<=xs.length*ag.size α:=gp _ bh
 rw[qa]at hle
 refine⟨.pointer (some ⟨b,off+k*ag.size α,none⟩),?_,b,off+k*ag.size α,cur,T,hQ,rfl,ad,ay,by omega,?_⟩
 ·simp[execOp,Instr.indexAt,asIntOf,dn hu,h1,a6,bh,Go.sizeOf,typeInfo,dv,da,jB]
 have:=e5.2 k bh
 rw[w2 _ _ _ _ _ hle]at this
 rw[e2 xs bh]
 exact this
def qc{P:Program}{W:bc}{v:bd}{k:IntKind}{n m:Nat}{code:BoundsCode}(h:n<=m)(a7:v=.int k n):(Instr.sliceBound v m code).run P W=.ok n W:=by
 subst a7;have bw:(n:Int)<=(m:Int):=by omega
 simp[Instr.sliceBound,asIntOf,h]
def adp{α:Type}[ag α]{A W}{xs:aa α}{b off cap:Nat}{cur:Array bd}{T:bo}{hQ:Nat×Nat}{lo aw:Nat}(ad:b∉A)(ay:W.heap[b]? =some (.cells cur T hQ))(aN:xs.length<=cap)(cH:xs.length<=maxLen)
 (ed:off+xs.length*ag.size α<=cur.size) (e5:gi A W ((cur.toList.drop off).take (xs.length*ag.size α)) xs) (h:lo<=aw) (cC:aw<=xs.length):
 pw A W (.slice (some (if cap=lo then⟨b,off,none⟩else⟨b,off+lo*ag.size α,none⟩)) (aw-lo) (cap-lo)) ((xs.drop lo).take (aw-lo)):=by
 have ao:((xs.drop lo).take (aw-lo)).length=aw-lo:=by simp;omega
 have hm:aw*ag.size α<=xs.length*ag.size α:=gp _ cC
 have rD:lo*ag.size α<=aw*ag.size α:=gp _ h
 have hd:(aw-lo)*ag.size α=aw*ag.size α-lo*ag.size α:=Nat.sub_mul _ _ _
 by_cases e:cap=lo
 ·subst e
  have bw:aw=cap:=by omega
  subst bw
  refine .inr ⟨b,off,aw-aw,cur,T,hQ,by simp,ad,ay,by simp,by simp,by simp;omega,?_⟩
  simp only[Nat.sub_self,List.take_zero,List.length_nil,wQ]
  exact⟨by simp,λi aw=>by simp at aw⟩
 rw[bk e]
 refine .inr ⟨b,off+lo*ag.size α,cap-lo,cur,T,hQ,by rw[ao],ad,ay,by omega,by omega,by rw[ao];omega,?_⟩
 rw[ao]
 refine⟨by simp only[ao,fg,jh];simp;omega,λi gv=>?_⟩
 rw[ao]at gv
 have lS:=e5.2 (lo+i) (by omega)
 have hle:(lo+i+1)*ag.size α<=xs.length*ag.size α:=gp _ (by omega)
 have Iv:(i+1)*ag.size α<=(aw-lo)*ag.size α:=gp _ (by omega)
 rw[qa]at hle Iv
 rw[w2 _ _ _ _ _ hle]at lS
 rw[w2 _ _ _ _ _ Iv]
 have:((xs.drop lo).take (aw-lo))[i]'(by rw[ao];exact gv)=xs[lo+i]:=by simp
 rw[this]
 rw[show off+lo*ag.size α+i*ag.size α=off+(lo+i)*ag.size α by rw[lG];omega]
 exact lS
inductive v7(c:bW)(E:List (Nat×J))(L:List aA):Option Operand->Int->Int->Prop
 |none {n}:v7 c E L .none n n
 |some {x i n}:aL c E L x (.of (i:Int))->v7 c E L (.some x) i n
def He{α:Type}[ag α]{xs r:aa α}{e:bo}{lo aw:av bO}{i j:Int}(hu:c.P.underlying t=some (.slice e))(dO:bG c.P e α)(al:aL c E L x (.of xs))(h7:v7 c E L lo i 0)(gl:v7 c E L aw j xs.length)
 (h:ss xs i j=some r):ba c E L ⟨d,.slice t x lo aw none,ty,pos,af,g⟩ (.of r):=.pure λa W s=>by
 obtain⟨m,n,rfl,rfl,ua,aG,rfl⟩:=aaK h
 obtain⟨fG,dv,da⟩:=dO.info
 rcases n1.1 (al a W s)with⟨h1,rfl⟩|⟨b,off,cap,cur,T,hQ,h1,ad,ay,aN,cH,ed,e5⟩
 ·have sU:n=0:=by simpa using aG
  have gL:m=0:=by omega
  subst sU
  subst gL
  refine⟨.slice none 0 0,?_,n1.2 (.inl ⟨rfl,by simp⟩)⟩
  have ar:(match lo.map a.eval with |some v=>Instr.sliceBound v 0 .sliceB|none=>pure 0:Sem Nat).run c.P W=.ok 0 W:=by
   cases h7 with
   |none=>rfl
   |some ao=>exact qc (h5 _) (of_int.1 (ao a W s))
  have hH:(match aw.map a.eval,(none:av bd) with | some v,some _=>Instr.sliceBound v 0 .slice3B | some v,none=>Instr.sliceBound v 0 .sliceAcap | none,none=>pure 0 | none,some _=>stuck "Slice: max without high" :Sem Nat).run c.P W= .ok 0 W:=by
   cases gl with
   |none=>rfl
   |some ao=>exact qc (h5 _) (of_int.1 (ao a W s))
  cases h7 <;> cases gl
  all_goals
   simp only[execOp,Instr.sliceAt,Instr.slice,Instr.sliceBounds,h1,df,dn hu,Result.andThen_ok,Option.map_none,Option.map_some,Option.isSome_none,p4,mK,kO,Sem.run_pure]at ar hH⊢
   try simp only[ar,hH,Result.andThen_ok,Go.sizeOf,typeInfo,df,run_program,dv,Sem.run_pure]
   try simp[dv]
 refine⟨.slice (some (if cap=m then⟨b,off,none⟩else⟨b,off+m*ag.size α,none⟩)) (n-m) (cap-m),?_,n1.2 (adp ad ay aN cH ed e5 ua aG)⟩
 have ar:∀v,v=Value.int .i64 m->(Instr.sliceBound v n .sliceB).run c.P W=.ok m W:=λv a7=>qc ua a7
 have hH:∀v,v=Value.int .i64 n->(Instr.sliceBound v cap .sliceAcap).run c.P W=.ok n W:=λv a7=>qc (by omega) a7
 have vw:(if cap=m then(some ⟨b,off,none⟩:av Addr)else(some (Addr.add ⟨b,off,none⟩ (m*ag.size α))))=some (if cap=m then⟨b,off,none⟩else⟨b,off+m*ag.size α,none⟩):=by
  split <;> simp[jB]
 generalize fV:(n:Int)=XB at gl
 generalize Ed:(m:Int)=XC at h7
 generalize x7:(xs.length:Int)=XD at gl
 generalize WU:(0:Int)=XE at h7
 cases h7 with
 | none=>
   have gL:m=0:=by omega
   cases gl with
   | none=>
     have lu:n=xs.length:=by omega
     subst lu
     subst gL
     simp[execOp,Instr.sliceAt,Instr.slice,Instr.sliceBounds,h1,dn hu,Go.sizeOf,typeInfo,dv,da,jB]
   | some ao=>
     have a6:=of_int.1 (ao a W s)
     rw[<-fV]at a6
     have bh:=hH _ a6
     subst gL
     simp[execOp,Instr.sliceAt,Instr.slice,Instr.sliceBounds,h1,dn hu,Go.sizeOf,typeInfo,dv,da,jB,bh]
 | some ao=>
   have a6:=of_int.1 (ao a W s)
   rw[<-Ed]at a6
   have bh:=ar _ a6
   cases gl with
   | none=>
     have lu:n=xs.length:=by omega
     subst lu
     simp only[execOp,Instr.sliceAt,Instr.slice,Instr.sliceBounds,h1,df,dn hu,Result.andThen_ok,Option.map_none,Option.map_some,Option.isSome_none,p4,mK,kO,Sem.run_pure,bh,Go.sizeOf,typeInfo,run_program,dv,da]
     rw[<-vw]
   | some jG=>
     have WV:=of_int.1 (jG a W s)
     rw[<-fV]at WV
     have akV:=hH _ WV
     simp only[execOp,Instr.sliceAt,Instr.slice,Instr.sliceBounds,h1,df,dn hu,Result.andThen_ok,Option.map_none,Option.map_some,Option.isSome_none,p4,mK,kO,Sem.run_pure,bh,akV,Go.sizeOf,typeInfo,run_program,dv,da]
     rw[<-vw]
end
def aZ:av Nat->Nat->Nat->bd
 |some p,n,cap=>.slice (some ⟨p,0,none⟩) n cap
 |none,_,_=>.slice none 0 0
def aaL{L:aa aA}{i:Nat}{cp:dN}:∀k∈ks (L.set i ⟨none,cp⟩),∃j e,j≠i∧L[j]? =some e∧e.key=some k:=by
 intro k hk;obtain⟨e,he,IV⟩:=qh.1 hk;obtain⟨j,aD⟩:=mE.1 he;rw[nR]at aD;split at aD
 ·split at aD
  ·simp only[fC]at aD;subst aD;cases IV
  cases aD
 rename_i cR;exact⟨j,e,λh=>cR h.symm,aD,IV⟩
def zs{L:aa aA}{i:Nat}{cp:dN}:ks (L.set i ⟨none,cp⟩) |>.Sublist (ks L):=by
 induction L generalizing i with
 |nil=>simp[ks]
 | cons x r bN=>
   cases i with
   | zero=>
     cases hk:x.key with
     |none=>simp[ks,hk]
     |some p=>simp[ks,hk]
   | succ i=>
     cases hk:x.key with
     |none=>simpa[ks,hk]using bN
     |some p=>simpa[ks,hk]using bN
def bA.kill{c E L a W}(h:bA c E L a W)(i:Nat):bA c E (L.set i ⟨none,.dead⟩) a W:=by
 have mn:=zs (L:=L) (i:=i) (cp:=.dead);have hk:∀k∈ks (L.set i ⟨none,.dead⟩),k∈ks L:=λk hk=>mn.subset hk;have ha:Ext (ks L++c.bL) W (ks (L.set i ⟨none,.dead⟩)++c.bL) W:=.drop λk hm=>by
  rcases bX.1 hm with hm|hm
  ·exact bX.2 (.inl (hk k hm))
  exact bX.2 (.inr hm)
 exact
 {defers:=h.defers
  size:=h.size
  env:=λt τ ao=>let⟨v,h1,ad⟩:=h.env t τ ao; ⟨v,h1,τ.mono ha ad⟩
  cW:=h.cW
  own:=λe he=>by
   obtain⟨j,aD⟩:=mE.1 he;rw[nR]at aD;split at aD
   ·split at aD
    ·simp only[fC]at aD;subst aD;trivial
    cases aD
   have h1:=h.own e (er aD);unfold aA.ok at *;split at h1
   ·obtain⟨o',aS,ch⟩:=h1;exact⟨o',aS,dN.mono _ ha ch⟩
   exact h1
  nodup:=h.nodup.sublist mn
  lt:=λk hm=>h.lt k (hk k hm)
  fa:=λk hm=>h.fa k (hk k hm)
  dK:=λk hm=>⟨(h.dK k hm).1,λad=>(h.dK k hm).2 (hk k ad)⟩}
def bA.CR{c E L a W}(h:bA c E L a W){i p:Nat}{cp:dN}(aw:L[i]? =some ⟨some p,cp⟩):p∉ks (L.set i ⟨none,.dead⟩)++c.bL:=by
 intro hm;rcases bX.1 hm with hm|hm
 ·obtain⟨j,e,cR,aD,IV⟩:=aaL p hm;exact cR (MA h.nodup aD aw IV I)
 exact(h.dK p hm).2 (qh.2 ⟨_,er aw,rfl⟩)
def Lg{α:Type}[ag α]{A W}{cs:Array bd}{xs:aa α}{cap:Nat}(h:cs.size=cap*ag.size α)(aG:xs.length<=cap)(aC:gi A W (cs.toList.take (xs.length*ag.size α)) xs):
 0+xs.length*ag.size α<=cs.size∧gi A W ((cs.toList.drop 0).take (xs.length*ag.size α)) xs:=by
 refine⟨?_,by simpa using aC⟩
 rw[h,iS];exact gp _ aG
section
variable{c:bW}{E:aa (Nat×J)}{L:aa aA}{ops:Array Oper}{Q:Exit->Act->bc->Prop}
variable{d:av Tmp}{ty:bo}{pos:String}{af:Array Edge}{g:av (Nat×Bool)}{x y:bO}{t t2:bo}
def bA.freeze{a:Act}{W:bc}{α:Type}[ag α]{i s cap T:Nat}{key:av Nat}{xs:aa α}(h:bA c E L a W)(ao:look E s=some (.eq (aZ key xs.length cap)))(ar:L[i]? =some ⟨key,.row T xs cap⟩):
 bA c ((s,.of xs)::E) (L.set i ⟨none,.dead⟩) a W:=by
 have hk:=h.kill i
 refine {hk with env:=λt τ eI=>?_}
 simp only[look]at eI
 by_cases e:Nat.beq s t=true
 ·rw [e]at eI
  simp only[cond_true,fC]at eI
  subst eI
  have:=eO.1 e
  subst this
  obtain⟨v,h1,ad⟩:=h.env s _ ao
  refine⟨v,h1,n1.2 ?_⟩
  have k2:v=aZ key xs.length cap:=ad
  subst k2
  have aS:=h.own _ (er ar)
  cases key with
  |none=>exact .inl ⟨rfl,aS.1⟩
  | some p=>
    obtain⟨o,eH,cs,rfl,da,aG,x1,aC⟩:=aS
    obtain⟨ay,aN⟩:=Lg da aG aC
    refine .inr ⟨p,0,cap,cs,T,(0,0),rfl,h.CR ar,eH,aG,by omega,ay,?_⟩
    have mn:=zs (L:=L) (i:=i) (cp:=.dead)
    exact aN.mono (.drop λk hm=>by
     rcases bX.1 hm with hm|hm
     ·exact bX.2 (.inl (mn.subset hm))
     exact bX.2 (.inr hm))
 simp only[kN]at e
 rw[e]at eI
 exact hk.env t τ eI
def ax.freeze{code:Code}{α:Type}[ag α]{key:av Nat}{xs:aa α}{cap T:Nat}(i s:Nat)(ao:look E s=some (.eq (aZ key xs.length cap)))(ar:L[i]? =some ⟨key,.row T xs cap⟩)
 (k:ax c Q code ((s,.of xs)::E) (L.set i ⟨none,.dead⟩)):ax c Q code E L:=λa W st=>k a W (st.freeze ao ar)
def bA.aes{a:Act}{W:bc}{α:Type}[ag α](T:bo)(h:bA c E L a W):bA c E (⟨none,.row T ([]:aa α) 0⟩::L) a W:=
 {h with
  own:=λe he=>by
   rcases dB.1 he with rfl|he
   ·exact⟨rfl,rfl⟩
   exact h.own e he}
def ae.own{l:aa Oper}{α:Type}[ag α](T:bo)(k:ae c ops Q l E (⟨none,.row T ([]:aa α) 0⟩::L)):ae c ops Q l E L:=λa W st=>k a W (st.aes T)
def mb:aL c E L (.const (.slice none 0 0)) (.eq (aZ none 0 0)):=λ_ _ _=>rfl
def q2{key:av Nat}{n cap:Nat}{e i T:Nat}{α:Type}[ag α]{xs:aa α}(hu:c.P.underlying t=some (.slice e))(al:aL c E L x (.eq (aZ key n cap)))(aG:n=xs.length)(ar:L[i]? =some ⟨key,.row T xs cap⟩):ba c E L ⟨d,.call ⟨.builtin .len,#[x],#[t]⟩,ty,pos,af,g⟩ (.of (n:Int)):=.pure λa W s=>by
 subst aG;have h1:a.eval x=_:=al a W s;have aS:=s.own _ (er ar);cases key with
 | none=>
   have:xs=[]:=aS.1
   subst this
   exact⟨.int .i64 0,by simp[execOp,resolve,invoke,builtin,Builtin.len_,h1,aZ,dn hu,goInt],of_int.2 I⟩
 |some p=>exact⟨.int .i64 xs.length,by simp[execOp,resolve,invoke,builtin,Builtin.len_,h1,aZ,dn hu,goInt],of_int.2 I⟩
def gi.one{α:Type}[ag α]{A W}{cs:aa bd}{xs:aa α}(h:gi A W cs xs):∀u∈cs,u.oneCell'=true:=by
 intro u hu;obtain⟨j,aD⟩:=mE.1 hu;have bS:=(fY.1 aD).1;have h1:=h.1;by_cases hs:ag.size α=0
 ·rw[hs,Nat.mul_zero]at h1;omega
 have hp:0<ag.size α:=BB hs;have aw:j/ag.size α<_:=(P2 hp).2 (by rw[h1]at bS;exact bS);refine ag.one (h.2 _ aw) u (mE.2 ⟨j % ag.size α,?_⟩);rw[jN,bm (Cv _ hp),kM,p9,BW];exact aD
def uW{α:Type}[ag α]{A W}{cs ds:aa bd}{xs ys:aa α}(h:gi A W cs xs)(cC:gi A W ds ys):gi A W (cs++ds) (xs++ys):=by
 refine⟨by rw[fB,h.1,cC.1,fB,lG],λi aw=>?_⟩;rw[fB]at aw;by_cases bS:i<xs.length
 ·have h1:=h.2 i bS;have hle:(i+1)*ag.size α<=xs.length*ag.size α:=gp _ bS;rw[qa]at hle;have lv:=h.1;rw[PF (by omega),yQ (by simp;omega)];rw[List.getElem_append_left bS];exact h1
 have h1:=cC.2 (i-xs.length) (by omega);have e:i*ag.size α=cs.length+(i-xs.length)*ag.size α:=by
  rw[h.1,<-lG];congr 1;omega
 rw[e,Kc,Bo (by omega),List.nil_append,show cs.length+(i-xs.length)*ag.size α-cs.length=(i-xs.length)*ag.size α by omega];rw[List.getElem_append_right (by omega)];exact h1
def pw.cells{α:Type}[ag α]{A W v}{ys:aa α}(h:pw A W v ys):
 (v=.slice none 0 0∧ys=[])∨∃(b off cap:Nat) (news:aa bd),v=.slice (some ⟨b,off,none⟩) ys.length cap∧news.length=ys.length*ag.size α∧(∀(j:Nat) (u:bd),news[j]? =some u->W.cell? ((⟨b,off,none⟩:Addr).add j)=some u)∧
  (∀u∈news,u.oneCell'=true)∧gi A W news ys:=by
 rcases h with h|⟨b,off,cap,cur,T,hQ,h1,ad,ay,aN,a6,bh,cH⟩
 ·exact .inl h
 refine .inr ⟨b,off,cap,_,h1,cH.1,λj u hu=>?_,λu hu=>?_,cH⟩
 ·rw[jN]at hu
  split at hu
  ·rw[jB,Ct W b (off+j) cur T hQ ay]
   rw[kM]at hu
   simpa using hu
  cases hu
 exact cH.one u hu
def bA.grow{a:Act}{W:bc}(h:bA c E L a W){i:Nat}{gn:aA}(aw:L[i]? =some gn){o:Obj}{cp:dN}(ak:cp.holds (ks L++c.bL) W o):
 bA c E (L.set i ⟨some W.heap.size,cp⟩) a (W.alloc o):=by
 have h1:=h.alloc ak
 refine h1.sub (λe he=>?_) ?_
 ·obtain⟨j,aD⟩:=mE.1 he
  rw[nR]at aD
  split at aD
  ·split at aD
   ·simp only[fC]at aD;subst aD;simp
   cases aD
  exact fr _ (er aD)
 have qw:W.heap.size∉ks L:=λhm=>Gh _ (h.lt _ hm)
 have key:∀(L:aa aA) (i:Nat) (q:Nat),q∉ks L->(ks L).Nodup->(ks (L.set i ⟨some q,cp⟩)).Nodup∧∀k∈ks (L.set i ⟨some q,cp⟩),k=q∨k∈ks L:=by
  intro L;induction L with
  |nil=>intro i q _ aG;exact⟨by simpa using aG,by simp[ks]⟩
  | cons x r bN=>
    intro i q hq aG
    cases al:x.key with
    | none=>
      have oA:q∉ks r:=by simpa[ks,al]using hq
      have pc:(ks r).Nodup:=by simpa[ks,al]using aG
      cases i with
      |zero=>exact⟨by simp only[List.set_cons_zero,ks];exact nm.2 ⟨oA,pc⟩,λk hk=>by
       simp only[List.set_cons_zero,ks,dB]at hk;rcases hk with rfl|hk
       ·exact .inl I
       exact .inr (by simpa[ks,al]using hk)⟩
      | succ i=>
        obtain⟨h1,ad⟩:=bN i q oA pc
        exact⟨by simpa[ks,al]using h1,λk hk=>by have:=ad k (by simpa[ks,al]using hk);simpa[ks,al]using this⟩
    | some p=>
      simp only[ks,al,dB,w1]at hq
      simp only[ks,al]at aG
      obtain⟨hp,pc⟩:=nm.1 aG
      cases i with
      |zero=>exact⟨by simp only[List.set_cons_zero,ks];exact nm.2 ⟨hq.2,pc⟩,λk hk=>by
       simp only[List.set_cons_zero,ks,dB]at hk;rcases hk with rfl|hk
       ·exact .inl I
       exact .inr (by simp[ks,al,hk])⟩
      | succ i=>
        obtain⟨h1,ad⟩:=bN i q hq.2 pc
        refine⟨?_,λk hk=>?_⟩
        ·simp only[List.set_cons_succ,ks,al]
         refine nm.2 ⟨λhm=>?_,h1⟩
         rcases ad p hm with e|AN
         ·exact hq.1 e.symm
         exact hp AN
        simp only[List.set_cons_succ,ks,al,dB]at hk
        rcases hk with rfl|hk
        ·exact .inr (by simp[ks,al])
        rcases ad k hk with e|AN
        ·exact .inl e
        exact .inr (by simp[ks,al,AN])
 exact(key L i _ qw h.nodup).1
def L5{α:Type}[ag α]{A W}{cs ds:aa bd}{xs:aa α}{T cap:Nat}(h:gi A W cs xs)(b4:ds.length=(cap-xs.length)*ag.size α)(aG:xs.length<=cap)(hm:cap<=maxLen){arr:Array bd}(a1:arr.toList=cs++ds):
 (dN.row T xs cap).holds A W (.cells arr T (0,0)):=by
 refine⟨arr,rfl,?_,aG,hm,?_⟩
 ·have:arr.size=(cs++ds).length:=by rw[<-a1];simp
  rw[this,fB,h.1,b4,<-lG];congr 1;omega
 rw[a1,<-h.1,F9];exact h
def ae.app{α:Type}[ag α]{rest:aa Oper}{aV i e bytes cap:Nat}{key:av Nat}{xs ys r:aa α}{z:α}(hu:c.P.underlying t=some (.slice e))(dO:bG c.P e α)(fP:cN c.P e z)
 (x8:(c.P.info? e).map (·.bytes)=some bytes) (hs:aL c E L x (.eq (aZ key xs.length cap))) (ar:L[i]? =some ⟨key,.row e xs cap⟩) (hy:aL c E L y (.of ys)) (h:fv bytes xs ys=some r) (aG:Nat.blt aV c.n=true)
 (k:∀rl cap',ae c ops Q rest ((aV,.eq (aZ rl r.length cap'))::E) (L.set i ⟨rl,.row e r cap'⟩)):
 ae c ops Q (⟨some aV,.call ⟨.builtin .append,#[x,y],#[t,t]⟩,ty,pos,af,none⟩::rest) E L:=λa W s=>by
 obtain⟨rC,pT,rfl⟩:=RX h
 obtain⟨fG,dk,dv,b4,sV⟩:=fP.zero
 have om:fG.size=ag.size α:=by
  obtain⟨i2,h1,ad⟩:=dO.info;rw[dv]at h1;cases h1;exact ad
 have MC:fG.bytes=bytes:=by simpa[dv]using x8
 have x9:dk.cells.size=ag.size α:=by have:=ag.len (sV [] W).2;simpa using this
 subst MC
 have h1:a.eval x=_:=hs a W s
 have aS:=s.own _ (er ar)
 have iQ:aV<c.n:=by simpa using aG
 have s6:=(n1.1 (hy a W s)).cells
 have rD:maxLen=9223372036854775807:=rfl
 have main:∃rl cap' W',(Builtin.append_ #[t,t] ty #[a.eval x,a.eval y]).run c.P W=.ok (aZ rl (xs++ys).length cap') W'∧bA c E (L.set i ⟨rl,.row e (xs++ys) cap'⟩) a W':=by
  cases key with
  | none=>
    obtain⟨IW,ue⟩:xs=[]∧cap=0:=aS
    subst IW
    subst ue
    have UU:L.set i ⟨none,.row e ([]:aa α) 0⟩=L:=by
     obtain⟨bS,he⟩:=fY.1 ar;rw[<-he];exact P0 bS
    rcases s6 with⟨a7,rfl⟩|⟨b,off,cp,news,a7,sW,Ia,AO,fU⟩
    ·refine⟨none,0,W,?_,by simpa[UU]using s⟩
     simp[h1,a7,aZ,Builtin.append_,dn hu,Go.sizeOf,typeInfo,dv,Builtin.lenOf,Builtin.firstCells]
    by_cases hm:ys.length=0
    ·have:ys=[]:=Ft hm
     subst this
     refine⟨none,0,W,?_,by simpa[UU]using s⟩
     simp[h1,a7,aZ,Builtin.append_,dn hu,Go.sizeOf,typeInfo,dv,Builtin.lenOf,Builtin.firstCells,loadCells,loadCellsFrom]
    simp only[List.length_nil,iS]at rC pT
    have aC:=run_append_nil (P:=c.P) W t ty e fG dk hu dv b4 ⟨b,off,none⟩ ys.length cp news (by rw[om];exact sW) Ia (by omega) (by omega) (by omega)
    refine⟨some W.heap.size,grownCap W ys.length 0 e,_,by rw[h1,a7];simpa[aZ]using aC,?_⟩
    have uf:=grownCap_ge W ys.length 0 e
    have hle:=grownCap_le_maxLen W ys.length 0 e pT
    have:=(s.world (Fr.drew W)).grow ar (o:=.cells (news.toArray++Builtin.zeroCells dk.cells (grownCap W ys.length 0 e-ys.length)) e) (cp:=.row e ([]++ys) (grownCap W ys.length 0 e))
     (L5 (T:=e) (fU.mono (Ext.cW (Fr.drew W))) (ds:=(Builtin.zeroCells dk.cells (grownCap W ys.length 0 e-ys.length)).toList) (by rw[Array.length_toList,size_zeroCells,x9]) uf hle (by simp))
    simpa using this
  | some p=>
    obtain⟨pv,eH,cs,rfl,da,akW,x1,IX⟩:=aS
    have gM:a.eval x=.slice (some ⟨p,0,none⟩) xs.length cap:=h1
    rcases s6 with⟨a7,rfl⟩|⟨b,off,cp,news,a7,sW,Ia,AO,fU⟩
    ·refine⟨some p,cap,W,?_,?_⟩
     ·simp[gM,a7,aZ,Builtin.append_,dn hu,Go.sizeOf,typeInfo,dv,Builtin.lenOf,Builtin.firstCells,storeCells,akW]
     have:L.set i ⟨some p,.row e (xs++[]) cap⟩=L:=by
      obtain⟨bS,he⟩:=fY.1 ar;rw[l8,<-he];exact P0 bS
     rw[this];exact s
    by_cases Ai:xs.length+ys.length<=cap
    ·have Iw:xs.length*fG.size+news.length<=cs.size:=by rw[om,sW,da,<-lG];exact gp _ Ai
     have aC:=run_append_room (P:=c.P) W t ty e fG hu dv p xs.length cap cs eH ⟨b,off,none⟩ ys.length cp news (by rw[om];exact sW) Ia AO Ai Iw
     refine⟨some p,cap,_,by rw[gM,a7];simpa[aZ]using aC,?_⟩
     refine s.store ar eH ⟨_,rfl,?_,by simpa using Ai,x1,?_⟩
     ·simp only[BG,fB,fg,jh,Array.length_toList];omega
     have ao:(cs.toList.take (xs.length*fG.size)).length=xs.length*ag.size α:=by rw[om];exact IX.1
     have Ar:=uW IX fU
     rw[om]
     have hlen:(xs++ys).length*ag.size α=(cs.toList.take (xs.length*ag.size α)++news).length:=by rw[Ar.1]
     have XF:((cs.toList.take (xs.length*ag.size α)++news++cs.toList.drop (xs.length*ag.size α+news.length)).toArray).toList.take ((xs++ys).length*ag.size α)=cs.toList.take (xs.length*ag.size α)++news:=by
      rw[hlen];exact F9
     rw[h3]at XF
     rw[XF]
     exact Ar
    have holds:∀(j:Nat) u,(cs.toList.take (xs.length*ag.size α))[j]? =some u->W.cell? ((⟨p,0,none⟩:Addr).add j)=some u:=by
     intro j u mZ;rw[jN]at mZ;split at mZ
     ·rw[jB,iS,Ct W p j cs e (0,0) eH];simpa using mZ
     cases mZ
    have aC:=run_append_grow (P:=c.P) W t ty e fG dk hu dv b4 ⟨p,0,none⟩ xs.length cap _ (by rw[om];exact IX.1) holds ⟨b,off,none⟩ ys.length cp news (by rw[om];exact sW) Ia (by omega) (by omega) (growslice_fits (by omega) rC)
    have uf:=grownCap_ge W (xs.length+ys.length) cap e
    have hle:=grownCap_le_maxLen W (xs.length+ys.length) cap e pT
    refine⟨some W.heap.size,grownCap W (xs.length+ys.length) cap e,_,by rw[gM,a7];simpa[aZ]using aC,?_⟩
    have Ar:=(uW IX fU).mono (Ext.cW (Fr.drew W))
    have:=(s.world (Fr.drew W)).grow ar (o:=.cells ((cs.toList.take (xs.length*ag.size α)).toArray++news.toArray++Builtin.zeroCells dk.cells (grownCap W (xs.length+ys.length) cap e-(xs.length+ys.length))) e)
     (cp:=.row e (xs++ys) (grownCap W (xs.length+ys.length) cap e))
     (L5 (T:=e) Ar (ds:=(Builtin.zeroCells dk.cells (grownCap W (xs.length+ys.length) cap e-(xs.length+ys.length))).toList) (by rw[Array.length_toList,size_zeroCells,x9,fB]) (by rw[fB];exact uf) hle (by simp))
    simpa using this
 obtain⟨rl,cap',W',iM,cU⟩:=main
 refine hl I (R:=λv gR=>v=aZ rl (xs++ys).length cap'∧gR=W') (.lj ?_ ⟨rfl,rfl⟩) λv gR ⟨a7,hw⟩=>?_
 ·simp only[execOp,resolve,invoke,builtin,df,Sem.run_pure,Result.andThen_ok]
  have az:(#[x,y]:Array bO).map a.eval= #[a.eval x,a.eval y]:=by simp
  rw[az,iM]
  rfl
 subst a7
 subst hw
 exact k rl cap' _ _ (cU.put iQ I)
inductive nw(c:bW)(E:List (Nat×J))(L:List aA){α:Type}[ag α]:List α->List (Nat×Operand)->List α->Prop
 |nil {b}:nw c E L b [] b
 |cons {b b':List α} {v:α} {i:Nat} {x:Operand} {r:List (Nat×Operand)}:i<b.length->aL c E L x (.of v)->nw c E L (b.set i v) r b'->nw c E L b ((i,x)::r) b'
def nw.run{α:Type}[ag α]{b b':aa α}{dj:aa (Nat×bO)}(h:nw c E L b dj b'):∀a W,bA c E L a W->∀cs:Array bd,gi (ks L++c.bL) W cs.toList b->
 ∃dY,Instr.fill (λi=>some (i*ag.size α,ag.size α)) cs (dj.map λ(i,x)=>(i,a.eval x))=some dY∧gi (ks L++c.bL) W dY.toList b'∧b'.length=b.length:=by
 induction h with
 |nil=>intro a W s cs aC;exact⟨cs,rfl,aC,rfl⟩
 | @cons b b' v i x r aw ad _ bN=>
   intro a W s cs aC
   have a7:=ad a W s
   have da:(a.eval x).cells.size=ag.size α:=by have:=ag.len a7.2;simpa using this
   have ao:=aC.1
   have hle:(i+1)*ag.size α<=b.length*ag.size α:=gp _ aw
   rw[qa]at hle
   rw[mJ,G9 I da (by simp at ao;omega)]
   obtain⟨dY,ay,aN,a6⟩:=bN a W s (fR cs.toList (i*ag.size α) (a.eval x).cells.toList).toArray (by
    have:=LI aC aw a7.2;simpa[fR,ag.len a7.2]using this)
   exact⟨dY,ay,aN,by rw[a6,sc]⟩
def CM{α:Type}[ag α]{A W}{z:α}{dk:bd}(h:(J.of z).holds A W dk)(n:Nat)(hs:ag.size α≠0):gi A W ((Array.range (n*ag.size α)).map (dk.cells[· % dk.cells.size]!)).toList (List.replicate n z):=by
 have ao:dk.cells.size=ag.size α:=by have:=ag.len h.2;simpa using this
 have hp:0<ag.size α:=BB hs;refine⟨by simp,λi aw=>?_⟩;have gv:i<n:=by simpa using aw
 have hle:(i+1)*ag.size α<=n*ag.size α:=gp _ gv;rw[qa]at hle;have:((((Array.range (n*ag.size α)).map (dk.cells[· % dk.cells.size]!)).toList.drop (i*ag.size α)).take (ag.size α))=dk.cells.toList:=by
  apply k6;intro j;rw[jN];split
  ·rename_i aD;rw[kM];have bS:i*ag.size α+j<n*ag.size α:=by omega
   have xO:(i*ag.size α+j) % ag.size α=j:=by rw[p9,Nat.mul_add_mod];exact Kh aD
   simp only[wq,Array.getElem?_map,Array.getElem?_range,bS,kO,Option.map_some,ao,xO];rw[getElem!_pos dk.cells j (by omega)];simp[ao,aD]
  rename_i aD;symm;simp only[wq];exact PT (by omega)
 rw[this];simpa using h.2
def Db{α:Type}[ag α]{e n:Nat}{z:α}{r:aa α}{dj:aa (Nat×bO)}(hu:c.P.underlying t=some (.slice e))(dO:bG c.P e α)(fP:cN c.P e z)(hs:Nat.beq (ag.size α) 0=false)(aG:Nat.ble (n*ag.size α) 16777216=true)
 (aU:nw c E L (List.replicate n z) dj r):ba c E L ⟨d,.buildSlice t n dj.toArray,ty,pos,af,g⟩ (.of r):=λa W s=>by
 obtain⟨fG,dk,dv,b4,sV⟩:=fP.zero
 have om:fG.size=ag.size α:=by
  obtain⟨i2,h1,ad⟩:=dO.info;rw[dv]at h1;cases h1;exact ad
 have iA:ag.size α≠0:=λh=>by rw[h]at hs;cases hs
 have rG:=CM (sV (ks L++c.bL) W) n iA
 obtain⟨dY,ay,aN,a6⟩:=aU.run a W s _ rG
 have hlen:r.length=n:=by rw[a6];simp
 have hm:(dj.toArray.map λ(x:Nat×bO)=>(x.1,a.eval x.2)).toList=dj.map λ(i,x)=>(i,a.eval x):=by simp
 have ajc:=ni aG
 refine .lj (v:=.slice (some ⟨W.heap.size,0,none⟩) n n) (W':=W.alloc (.cells dY e)) ?_ ⟨Fr.alloc W _,n1.2 ?_⟩
 ·simp only[execOp,Instr.buildSlice,df,dn hu,Result.andThen_ok,Go.sizeOf,typeInfo,run_program,dv,Sem.run_pure,om]
  rw[bk (by omega)]
  try simp only[Sem.run_pure,Result.andThen_ok,df]
  by_cases bw:n*ag.size α=0
  ·have sU:n=0:=by
    rcases Nat.mul_eq_zero.1 bw with h|h
    ·exact h
    exact absurd h iA
   subst sU
   simp only[wQ,kO,Sem.run_pure,Result.andThen_ok]
   try simp only[wQ]at ay
   have gn:((Array.range 0).map (λx=>(#[]:Array bd)[x % (#[]:Array bd).size]!))=((Array.range 0).map (dk.cells[· % dk.cells.size]!)):=by simp
   simp only[pure_bind]
   rw[gn,hm,ay]
   simp[newRow]
  simp only[bw,mK,df,zeroValue,typeInfo,run_program,Result.andThen_ok,dv,b4,Sem.run_pure]
  rw[hm,ay]
  simp[newRow]
 have ha:Ext (ks L++c.bL) W (ks L++c.bL) (W.alloc (.cells dY e)):=Ext.cW (Fr.alloc W _)
 refine .inr ⟨W.heap.size,0,n,dY,e,(0,0),by rw[hlen],λAs=>Gh _ (s.C6 _ As),TI W _,by omega,?_,?_,?_⟩
 ·have:r.length*1<=n*ag.size α:=by rw[hlen];exact FE _ (by omega)
  have:maxLen=9223372036854775807:=rfl
  omega
 ·have:=aN.1;simp at this;omega
 have bh:=aN.1
 rw[th,<-bh,l7]
 exact aN.mono ha
end
def xl{cs:aa bd}{o s:Nat}{u:bd}(h:u∈cs.drop o):u∈(cs.drop o).take s∨u∈cs.drop (o+s):=by
 rw[<-fw s (cs.drop o)]at h;rcases bX.1 h with h|h
 ·exact .inl h
 rw[B8]at h;exact .inr h
def L6{cs:aa bd}{n o:Nat}{u:bd}{p:Prop}(ao:cs.length=n)(aS:o=n)(h:u∈cs.drop o):p:=by
 rw[Bo (by omega)]at h;cases h
def aet{cs ds:aa bd}{o s n:Nat}(ao:cs.length=n)(hd:ds.length=s)(h:o+s<=n):(cs.take o++ds++cs.drop (o+s)).length=n:=by
 simp only[fB,fg,jh];omega
def Tf{cs ds:aa bd}{o s n:Nat}(ao:cs.length=n)(hd:ds.length=s)(h:o+s<=n):((cs.take o++ds++cs.drop (o+s)).drop o).take s=ds:=by
 have h1:(cs.take o).length=o:=by simp;omega
 rw[h3,Kc,h1,Bo (by omega),List.nil_append,Nat.sub_self,th,yQ (by omega),qS (by omega)]
def LJ{cs ds:aa bd}{o s n b6 s2:Nat}(ao:cs.length=n)(hd:ds.length=s)(h:o+s<=n)(cR:b6+s2<=o∨o+s<=b6):((cs.take o++ds++cs.drop (o+s)).drop b6).take s2=(cs.drop b6).take s2:=by
 apply k6;intro i;simp only[jN,kM];split
 ·rename_i aw;simp only[JW,fB,fg,jN,kM];have h1:min o cs.length=o:=by omega
  rw[h1,hd];rcases cR with ad|ad
  ·rw[bm (by omega),bm (by omega),bm (by omega)]
  rw[bk (by omega)];congr 1;omega
 rfl
structure vM(P:Type)where
 size:Nat
 rep:List Nat->World->List Value->Nat->P->Prop
 one:∀{A W cs o x n},rep A W cs o x->cs.length=n->o+size=n->∀u∈cs.drop o,u.oneCell'=true
 mono:∀{A W cg W' cs o x},Ext A W cg W'->rep A W cs o x->rep cg W' cs o x
 qs:∀{A W cs o x n ds p s},rep A W cs o x->cs.length=n->ds.length=s->p+s<=n->p+s<=o->rep A W (cs.take p++ds++cs.drop (p+s)) o x
@[reducible] def fF (B:Type) [ag B]:vM B where
  size:=ag.size B
  rep A W cs o x:=ag.rep A W ((cs.drop o).take (ag.size B)) x
  one h ao aS u hu:=by
   rcases xl (s:=ag.size B) hu with h1|bw
   ·exact ag.one h u h1
   exact L6 ao aS bw
  mono e h:=ag.mono e h
  qs h ao hd aG hp:=by rw[LJ ao hd aG (.inr hp)];exact h
@[reducible] def cz (B:Type) [ag B] {P:Type} (S:vM P):vM (B×P)where
  size:=ag.size B+S.size
  rep A W cs o x:=ag.rep A W ((cs.drop o).take (ag.size B)) x.1∧S.rep A W cs (o+ag.size B) x.2
  one h ao aS u hu:=by
   rcases xl (s:=ag.size B) hu with h1|bw
   ·exact ag.one h.1 u h1
   exact S.one h.2 ao (by omega) u bw
  mono e h:=⟨ag.mono e h.1,S.mono e h.2⟩
  qs h ao hd aG hp:=⟨by rw[LJ ao hd aG (.inr hp)];exact h.1,S.qs h.2 ao hd aG (by omega)⟩
@[reducible] def ag.str {T P:Type} (S:vM P) (to:T->P) (N:Nat) (iQ:S.size=N:=by rfl):ag T where
  size:=N
  agg:=true
  rep A W cs x:=cs.length=N∧S.rep A W cs 0 (to x)
  len h:=h.1
  one h:=λu hu=>S.one h.2 h.1 (by omega) u (by simpa using hu)
  flat h:=by cases h
  mono e h:=⟨h.1,S.mono e h.2⟩
structure Ee{P:Type}(S:vM P)(G:Type)[ag G]where
 off:Nat
 get:P->G
 set:P->G->P
 gk:off+ag.size G<=S.size
 iJ:∀{A W cs o b},S.rep A W cs o b->ag.rep A W ((cs.drop (o+off)).take (ag.size G)) (get b)
 mc:∀{A W cs n o b ds g},cs.length=n->o+S.size<=n->S.rep A W cs o b->ag.rep A W ds g->S.rep A W (cs.take (o+off)++ds++cs.drop (o+off+ag.size G)) o (set b g)
def fO{B:Type}[ag B]:Ee (fF B) B where
 off:=0
 get b:=b
 set _ g:=g
 gk:=by show 0+ag.size B<=ag.size B;omega
 iJ h:=h
 mc ao aS _ bu:=by
  have h:=Tf ao (ag.len bu) aS;show ag.rep _ _ ((List.drop _ _).take _) _;rw[Nat.add_zero,h];exact bu
def cI{B:Type}[ag B]{P:Type}{S:vM P}:Ee (cz B S) B where
 off:=0
 get b:=b.1
 set b g:=(g,b.2)
 gk:=by show 0+ag.size B<=ag.size B+S.size;omega
 iJ h:=h.1
 mc {A W cs n o b ds g} ao aS h bu:=by
  have aS:o+(ag.size B+S.size)<=n:=aS;refine⟨?_,S.qs h.2 ao (ag.len bu) (by omega) (by omega)⟩;rw[Nat.add_zero,Tf ao (ag.len bu) (by omega)];exact bu
def bl{B:Type}[ag B]{P:Type}{S:vM P}{G:Type}[ag G](l:Ee S G):Ee (cz B S) G where
 off:=ag.size B+l.off
 get b:=l.get b.2
 set b g:=(b.1,l.set b.2 g)
 gk:=by have:=l.gk;show ag.size B+l.off+ag.size G<=ag.size B+S.size;omega
 iJ h:=by rw[<-Gg];exact l.iJ h.2
 mc {A W cs n o b ds g} ao aS h bu:=by
  have aS:o+(ag.size B+S.size)<=n:=aS;have aw:=l.gk;have ad:=l.mc ao (by omega) h.2 bu;rw[Gg o]at ad;exact⟨by rw[LJ ao (ag.len bu) (by omega) (.inl (by omega))];exact h.1,ad⟩
@[reducible] def aO.str {T P G:Type} [ag G] {S:vM P} {to:T->P} {N:Nat} (l:Ee S G) (off:Nat) (get:T->G) (set:T->G->T) (iQ:S.size=N:=by rfl) (aS:l.off=off:=by rfl) (h1:∀b,l.get (to b)=get b:=by intro b;rfl) (ad:∀b g,l.set (to b) g=to (set b g):=by intro b g;rfl): @aO T G (ag.str S to N iQ) _:=
  @aO.mk T G (ag.str S to N iQ) _ off get set (by have:=l.gk;show off+ag.size G<=N;omega)
   (λ{A W cs b} h=>by have:=l.iJ h.2;rw[iS,aS,h1]at this;exact this)
   (λ{A W cs b ds g} h bu=>by
    have ay:=l.mc h.1 (by omega) h.2 bu;rw[iS,aS,ad]at ay;have aN:=l.gk;exact⟨aet h.1 (ag.len bu) (by omega),ay⟩)
class aQ (α:Type) [ag α] [Inhabited α]where
 cells:aa bd
 ok:∀A W,ag.rep A W cells (default:α)
instance:aQ Bool:=⟨[.bool false],λ_ _=>rfl⟩
instance:aQ Int:=⟨[.int .i64 0],λ_ _=>rfl⟩
instance:aQ (BitVec 64):=⟨[.int .u64 0],λ_ _=>rfl⟩
instance:aQ (BitVec 32):=⟨[.int .u32 0],λ_ _=>rfl⟩
instance:aQ (BitVec 16):=⟨[.int .u16 0],λ_ _=>rfl⟩
instance:aQ (BitVec 8):=⟨[.int .u8 0],λ_ _=>rfl⟩
instance:aQ ByteArray:=⟨[.string ByteArray.empty],λ_ _=>rfl⟩
instance{α:Type}[ag α]:aQ (aa α):=⟨[.slice none 0 0],λ_ _=>⟨_,rfl,.inl ⟨rfl,rfl⟩⟩⟩
def Ss{α:Type}[ag α]{A W}{yw:aa bd}{z:α}(h:ag.rep A W yw z):∀n,gi A W (List.replicate n yw).flatten (List.replicate n z)
 |0=>⟨by simp,λi aw=>by simp at aw⟩
 | n+1=>by
   have h1:=Ss h n;have ad:gi A W yw [z]:=⟨by simp[ag.len h],λi aw=>by
    have:i=0:=by simpa using aw
    subst this;rw[wQ,th,<-ag.len h,l7];exact h⟩
   have:=uW ad h1;simpa[List.replicate_succ]using this
instance{α:Type}[ag α][Inhabited α][aQ α]{n:Nat}:aQ (Vector α n):=⟨(List.replicate n (aQ.cells α)).flatten,λA W=>by
 have:=Ss (aQ.ok (α:=α) A W) n;show gi A W _ (Vector.replicate n default).toList;simpa using this⟩
def Ix(α:Type)[ag α][Inhabited α][aQ α]:bd:=if ag.agg α=true then .agg (aQ.cells α).toArray else(aQ.cells α).headD undef
theorem cN.of{P:Program}{t:bo}{α:Type}[ag α][Inhabited α][aQ α](h:(P.info? t).bind (·.zero)=some (Ix α)):cN P t (default:α)where
 zero:=by
  cases aw:P.info? t with
  |none=>simp[aw]at h
  | some i=>
    refine⟨i,Ix α,rfl,by simpa[aw]using h,λA W=>?_⟩
    have ok:=aQ.ok (α:=α) A W
    unfold Ix
    cases a1:ag.agg α with
    |true=>simp only[kO];exact⟨by simp[shaped,a1],by simpa[Value.cells]using ok⟩
    | false=>
      have h1:=ag.len ok
      rw[ag.flat a1]at h1
      obtain⟨v,a7⟩:=PV.1 h1
      have ay:v.oneCell'=true:=ag.one ok v (by rw[a7];simp)
      simp only[p4,mK,a7,List.headD_cons]
      exact⟨by simp[shaped,a1,ay],by rw[cells_one ay];rw[a7]at ok;exact ok⟩
theorem bG.of{P:Program}{t:bo}{α:Type}[ag α]{d:TypeDesc}(a1:(match d with | .struct _| .array _ _=>true|_=>false)=ag.agg α)(hu:P.underlying t=some d)(hs:(P.info? t).map (·.size)=some (ag.size α)):bG P t α:=⟨hs,d,hu,a1⟩
def vJ.of{P:Program}{s f o:Nat}{fs:Array Field}{fd:Field}{γ:Type}[ag γ](hu:P.underlying s=some (.struct fs))(aU:fs[f]? =some fd)(aS:fd.offset=o)(dx:bG P fd.type γ)(hs:Nat.beq (ag.size γ) 0=false):vJ P s f o:=by
 obtain⟨i,h1,ad⟩:=dx.info;exact⟨fs,fd,i,hu,aU,aS,h1,λh=>by rw[<-ad,h]at hs;cases hs⟩
theorem qM.of{P:Program}{t n e s:Nat}{γ:Type}[ag γ](hu:P.underlying t=some (.array n e))(dx:bG P e γ)(hs:ag.size γ=s):qM P t n s:=by
 obtain⟨i,h1,ad⟩:=dx.info;exact⟨e,i,hu,h1,by rw[ad,hs]⟩
def bind_some{α β:Type}{m:av α}{f:α->av β}{r:β}(h:m.bind f=some r):∃y,m=some y∧f y=some r:=PS.1 h
def gd{α:Type}{b:Bool}{p q:av α}{r:α}(hb:b=true)(h:cond b p q=some r):p=some r:=by rw[hb]at h;exact h
def gf{α:Type}{b:Bool}{p q:av α}{r:α}(hb:b=false)(h:cond b p q=some r):q=some r:=by rw[hb]at h;exact h
def dh{α:Type}{a b:α}(h:some a=some b):a=b:=y7 h
def cj{α:Type}[Inhabited α](b want:Bool)(m:av α):av α:=if b=want then m else some default
def gW{α:Type}[Inhabited α]{b want:Bool}{m:av α}{y:α}(h:cj b want m=some y)(hb:b=want):m=some y:=by unfold cj at h;rw[bm hb]at h;exact h
def dW:Nat:=2^80
def bA.qm{c E L a W}(h:bA c E L a W)(n:Nat):bA c E (L.drop n) a W:=
 h.sub (fun e he=>yY he) (by
   have:(ks (L.drop n)).Sublist (ks L):=by
    induction L generalizing n with
    |nil=>simp
    | cons x r bN=>
      cases n with
      |zero=>simp
      | succ n=>
        have aC:∀n,(ks (r.drop n)).Sublist (ks r):=by
         intro n;have key:∀(r:aa aA) n,(ks (r.drop n)).Sublist (ks r):=by
          intro r;induction r with
          |nil=>intro n;simp
          | cons y r WW=>
            intro n
            cases n with
            |zero=>simp
            | succ n=>
              simp only[Qc]
              cases hk:y.key with
              |none=>simpa[ks,hk]using WW n
              |some p=>simp only[ks,hk];exact(WW n).cons _
         exact key r n
        simp only[Qc]
        cases hk:x.key with
        |none=>simpa[ks,hk]using aC n
        |some p=>simp only[ks,hk];exact(aC n).cons _
   exact h.nodup.sublist this)
section
variable{c:bW}{E:aa (Nat×J)}{L:aa aA}{ops:Array Oper}{Q:Exit->Act->bc->Prop}
def dX(Q:Exit->Act->bc->Prop):Exit->Act->bc->Prop:=Q
def ax.cj{γ:Type}{x:bO}{b:Bool}{y z:Code}(E':γ->aa (Nat×J))(L':γ->aa aA)(ao:aL c E L x (.of b))(nd:∀g,aq c Q .normal (E' g) (L' g))
 (bq:(∀g,aq c (dX Q) .normal (E' g) (L' g))->b=true->ax c (dX Q) y E L) (aU:(∀g,aq c (dX Q) .normal (E' g) (L' g))->b=false->ax c (dX Q) z E L):ax c Q (.cond x y z) E L:=
 ax.cond ao (bq nd) (aU nd)
def aq.meet{x:Exit}{E':aa (Nat×J)}{L':aa aA}(n:Nat)(ar:L.drop n=L')(h:eb E E')(k:aq c Q x E' L'):aq c Q x E L:=λa W s=>k a W (by rw[<-ar];exact(s.qm n).less h.look)
def fb{σ ε γ δ:Type}(c:bW)(E:σ->γ->aa (Nat×J))(L:σ->γ->aa aA)(xs:ε->Exit)(dL:ε->δ->aa (Nat×J))(Lx:ε->δ->aa aA):σ⊕ε->Exit->Act->bc->Prop
 | .inl s,x,a,W=>x=.normal∧∃g,bA c (E s g) (L s g) a W
 | .inr e,x,a,W=>x≠ .normal∧x=xs e∧∃g,bA c (dL e g) (Lx e g) a W
def aq.TE{σ ε γ δ:Type}{E':σ->γ->aa (Nat×J)}{L':σ->γ->aa aA}{xs:ε->Exit}{dL:ε->δ->aa (Nat×J)}{Lx:ε->δ->aa aA}{s:σ}(g:γ)(n:Nat)
 (ar:L.drop n=L' s g) (h:eb E (E' s g)):aq c (fb c E' L' xs dL Lx (.inl s)) .normal E L:=λa W st=>⟨rfl,g,by rw[<-ar];exact(st.qm n).less h.look⟩
def aq.TF{σ ε γ δ:Type}{E':σ->γ->aa (Nat×J)}{L':σ->γ->aa aA}{xs:ε->Exit}{dL:ε->δ->aa (Nat×J)}{Lx:ε->δ->aa aA}{e:ε}{x:Exit}(g:δ)(n:Nat)
 (al:x=xs e) (aG:x≠ .normal) (ar:L.drop n=Lx e g) (h:eb E (dL e g)):aq c (fb c E' L' xs dL Lx (.inr e)) x E L:=λa W st=>⟨aG,al,g,by rw[<-ar];exact(st.qm n).less h.look⟩
def ax.HZ{σ ε γ δ:Type}{body:Code}{N:Nat}{b:σ->av (σ⊕ε)}{s0:σ}{e:ε}(ao:eh N b s0=some e)
 (E':σ->γ->aa (Nat×J)) (L':σ->γ->aa aA) (xs:ε->Exit) (dL:ε->δ->aa (Nat×J)) (Lx:ε->δ->aa aA) (g0:γ) (ar:L=L' s0 g0) (aK:eb E (E' s0 g0))
 (q9:∀s r,b s=some r->∀g,ax c (fb c E' L' xs dL Lx r) body (E' s g) (L' s g))
 (n4:∀g,aq c Q (xs e) (dL e g) (Lx e g)):ax c Q (.loop body) E L:=λa W st=>by
 subst ar
 exact abB b (λs a W=> ∃g,bA c (E' s g) (L' s g) a W) (λe x a W=>x=xs e∧∃g,bA c (dL e g) (Lx e g) a W)
  (λs r hs a W ⟨g,nM⟩=>wpIn_mono (q9 s r hs g a W nM) (λx a W h=>by
   cases r with
   |inl b1=>exact h
   |inr e'=>exact⟨h.1,h.2⟩)) Q e (λx a W ⟨al,g,hs⟩=>by subst al;exact n4 g a W hs) ao ⟨g0,st.less aK.look⟩
end
def ba.rT{c E L o}{α:Type}[ag α]{a b:α}(h:ba c E L o (.of a))(e:a=b):ba c E L o (.of b):=by subst e;exact h
def J.rv{α β:Type}[ag α][ag β](P:Program)(F:α->av β):J where
 holds A W v:=∃f fst cap,v=.func (.func f) fst cap∧bx P f∧∀cg W',Ext A W cg W'->(∀k∈cg,k<W'.heap.size)->∀x r my,F x=some r->(J.of x).holds cg W' my->
  Calls P f (fst++ #[my]++cap) W' λe rH=> ∃v,e=.returned v∧Fr [] W' rH∧(J.of r).holds cg rH v
 mono e h:=let⟨f,fst,cap,h1,ad,ay⟩:=h; ⟨f,fst,cap,h1,ad,λcg W' e'=>ay cg W' (e.trans e')⟩
def J.xS{α β γ:Type}[ag α][ag β][ag γ](P:Program)(F:α->β->av γ):J where
 holds A W v:=∃f fst cap,v=.func (.func f) fst cap∧bx P f∧∀cg W',Ext A W cg W'->(∀k∈cg,k<W'.heap.size)->∀x y r my rU,F x y=some r->(J.of x).holds cg W' my->(J.of y).holds cg W' rU->
  Calls P f (fst++ #[my,rU]++cap) W' λe rH=> ∃v,e=.returned v∧Fr [] W' rH∧(J.of r).holds cg rH v
 mono e h:=let⟨f,fst,cap,h1,ad,ay⟩:=h; ⟨f,fst,cap,h1,ad,λcg W' e'=>ay cg W' (e.trans e')⟩
section
variable{c:bW}{E:aa (Nat×J)}{L:aa aA}{d:av Tmp}{ty:bo}{pos:String}{af:Array Edge}{g:av (Nat×Bool)}
def Sm{α β:Type}[ag α][ag β]{F:α->av β}{f:FuncId}(bU:bx c.P f)(h:∀x r,F x=some r->cn c.P f [.of x] (.of r)):aL c E L (.func f) (.rv c.P F):=λa W s=>
 ⟨f,#[],#[],rfl,bU,λcg W' _ eo x r my kp al=>by simpa using h x r kp cg W' [my] eo (.cons al .nil)⟩
def Sq{α β γ:Type}[ag α][ag β][ag γ]{F:α->β->av γ}{f:FuncId}(bU:bx c.P f)(h:∀x y r,F x y=some r->cn c.P f [.of x,.of y] (.of r)):aL c E L (.func f) (.xS c.P F):=λa W s=>
 ⟨f,#[],#[],rfl,bU,λcg W' _ eo x y r my rU kp al hy=>by simpa using h x y r kp cg W' [my,rU] eo (.cons al (.cons hy .nil))⟩
def xc{α β:Type}[ag α][ag β]{F:α->av β}{j6 x:bO}{ats:Array bo}{E8:α}{r:β}(aU:aL c E L j6 (.rv c.P F))(al:aL c E L x (.of E8))(h:F E8=some r):
 ba c E L ⟨d,.call ⟨.value j6,#[x],ats⟩,ty,pos,af,g⟩ (.of r):=λa W s=>by
 obtain⟨f,fst,cap,h1,bU,ad⟩:=aU a W s
 refine .tt (f:=f) (args:=fst++ #[a.eval x]++cap) (W':=W) ?_ (ad _ W (Ext.refl _ _) s.C6 _ _ _ h (al a W s))
 simp[execOp,resolve,Deferred.ofValue,h1,invoke,bU.run]
def G7{α β γ:Type}[ag α][ag β][ag γ]{F:α->β->av γ}{j6 x y:bO}{ats:Array bo}{E8:α}{XG:β}{r:γ}(aU:aL c E L j6 (.xS c.P F))(al:aL c E L x (.of E8))(hy:aL c E L y (.of XG))(h:F E8 XG=some r):
 ba c E L ⟨d,.call ⟨.value j6,#[x,y],ats⟩,ty,pos,af,g⟩ (.of r):=λa W s=>by
 obtain⟨f,fst,cap,h1,bU,ad⟩:=aU a W s
 refine .tt (f:=f) (args:=fst++ #[a.eval x,a.eval y]++cap) (W':=W) ?_ (ad _ W (Ext.refl _ _) s.C6 _ _ _ _ _ h (al a W s) (hy a W s))
 simp[execOp,resolve,Deferred.ofValue,h1,invoke,bU.run]
end
end Gv
namespace Gv
open Go Go.ChangeShapes Go.WideShapes Go.RowKit
structure Arg(P:Program)(t:TypeId)(α:Type)[ag α]:Prop where
 cells:P.cellsOf t=ag.size α
 read:∀{H:Type} {enc:TypeId×Value->H} {W:World} {n:Nat} {cs:List Value} {x:DataW H×List MemPlace},DataW.trod enc P W 0 (λ_=>true) true n t cs=some x->∃a:α,ag.rep [] W cs a
 form:∀{W:World} {b:Nat} {v:Value},Value.okWide P W .any b t v->shaped (ag.agg α) v
variable{P:Program}{t e:bo}
def abD(hu:P.underlying t=some .bool){H:Type}{enc:bo×bd->H}{W:bc}{n:Nat}{cs:aa bd}{x:DataW H×aa MemPlace}(h:DataW.trod enc P W 0 (λ_=>true) true n t cs=some x):
 ∃b:Bool,cs=[.bool b]:=by
 cases n with
 |zero=>simp[DataW.trod]at h
 | succ n=>
   unfold DataW.trod at h
   rw[hu]at h
   split at h <;> first|exact⟨_,rfl⟩|(simp at h)
   all_goals simp_all
def Arg.bool(hu:P.underlying t=some .bool)(ak:P.cellsOf t=1):Arg P t Bool where
 cells:=ak
 read {H enc W n cs x} h:=by
  obtain⟨b,rfl⟩:=abD hu h;exact⟨b,rfl⟩
 form {W b v} h:=by
  unfold Value.okWide Cell.okWide at h;simp only[hu]at h;unfold Cell.ok at h;rw[hu]at h;cases v <;> first|rfl|simp at h
def CS{k:IntKind}(hu:P.underlying t=some (.int k)){H:Type}{enc:bo×bd->H}{W:bc}{n:Nat}{cs:aa bd}{x:DataW H×aa MemPlace}(h:DataW.trod enc P W 0 (λ_=>true) true n t cs=some x):
 ∃z:Int,cs=[.int k z]∧k.min<=z∧z<=k.max:=by
 cases n with
 |zero=>simp[DataW.trod]at h
 | succ n=>
   unfold DataW.trod at h
   rw[hu]at h
   split at h <;> simp_all [Lit.wf]
def CT{k:IntKind}(hu:P.underlying t=some (.int k)){W:bc}{b:Nat}{v:bd}(h:Value.okWide P W .any b t v):v.oneCell'=true:=by
 unfold Value.okWide Cell.okWide at h;simp only[hu]at h;unfold Cell.ok at h;rw[hu]at h;cases v <;> first|rfl|simp at h
def Arg.int(hu:P.underlying t=some (.int .i64))(ak:P.cellsOf t=1):Arg P t Int where
 cells:=ak
 read h:=by obtain⟨z,rfl,_⟩:=CS hu h;exact⟨z,rfl⟩
 form h:=CT hu h
def Arg.u64(hu:P.underlying t=some (.int .u64))(ak:P.cellsOf t=1):Arg P t (BitVec 64)where
 cells:=ak
 read h:=by
  obtain⟨z,rfl,h1,ad⟩:=CS hu h;simp[IntKind.min,IntKind.max,IntKind.signed,IntKind.bits]at h1 ad;exact⟨BitVec.ofInt 64 z,by show [_]=[_];simp;omega⟩
 form h:=CT hu h
def Arg.u32(hu:P.underlying t=some (.int .u32))(ak:P.cellsOf t=1):Arg P t (BitVec 32)where
 cells:=ak
 read h:=by
  obtain⟨z,rfl,h1,ad⟩:=CS hu h;simp[IntKind.min,IntKind.max,IntKind.signed,IntKind.bits]at h1 ad;exact⟨BitVec.ofInt 32 z,by show [_]=[_];simp;omega⟩
 form h:=CT hu h
def Arg.u16(hu:P.underlying t=some (.int .u16))(ak:P.cellsOf t=1):Arg P t (BitVec 16)where
 cells:=ak
 read h:=by
  obtain⟨z,rfl,h1,ad⟩:=CS hu h;simp[IntKind.min,IntKind.max,IntKind.signed,IntKind.bits]at h1 ad;exact⟨BitVec.ofInt 16 z,by show [_]=[_];simp;omega⟩
 form h:=CT hu h
def Arg.u8(hu:P.underlying t=some (.int .u8))(ak:P.cellsOf t=1):Arg P t (BitVec 8)where
 cells:=ak
 read h:=by
  obtain⟨z,rfl,h1,ad⟩:=CS hu h;simp[IntKind.min,IntKind.max,IntKind.signed,IntKind.bits]at h1 ad;exact⟨BitVec.ofInt 8 z,by show [_]=[_];simp;omega⟩
 form h:=CT hu h
def acf(hs:(∃fs,P.underlying t=some (.struct fs))∨(∃n e,P.underlying t=some (.array n e))){W:bc}{b:Nat}{v:bd}(h:Value.okWide P W .any b t v):shaped true v:=by
 unfold Value.okWide at h;rcases hs with⟨fs,hu⟩|⟨n,e,hu⟩ <;> rw[hu]at h <;> exact⟨h.choose,h.choose_spec.1⟩
def Arg.arr{α:Type}[ag α][Inhabited α]{n:Nat}(hu:P.underlying t=some (.array n e))(he:Arg P e α)(ak:P.cellsOf t=n*ag.size α):Arg P t (Vector α n)where
 cells:=ak
 read {H enc W m cs x} h:=by
  obtain⟨xs,q,_,_,ao,hlen,aU⟩:=DataW.trod_array hu h;have aC:∀i,i<n->∃a:α,ag.rep [] W ((cs.drop (i*ag.size α)).take (ag.size α)) a:=by
   intro i aw;have h1:=aU i aw;rw[oO (by omega)]at h1;rw[<-he.cells];exact he.read h1
  refine⟨Vector.ofFn λi=>(aC i.1 i.2).choose,by rw[ao,ak];simp,λi aw=>?_⟩;have gv:i<n:=by simpa using aw
  have:=(aC i gv).choose_spec;simpa using this
 form h:=acf (.inr ⟨_,_,hu⟩) h
def RY{H:Type}{enc:bo×bd->H}{W W':bc}(ao:laidOutB P=true){sp:Nat->Bool}:∀{cB:aa bo} {vs:aa bd} {ds:aa (DataW H)} {dj:aa MemPlace},
 (∀t∈cB,P.readableRec t=true∧t<P.types.size)->DataW.TrodAll enc P W 0 (λ_=>true) true cB vs ds dj->(∀p∈dj,W.sameAt W' p)->(∀p∈dj,sp p.block=true)->DataW.TrodAll enc P W' 0 sp true cB vs ds dj
 | [],_,_,_,_,h,_,_=>by
   obtain⟨rfl,rfl,rfl⟩:=trodAll_nil h;exact rfl
 | _::_,_,_,_,bq,h,hs,hp=>by
   obtain⟨v,Og,d,Oh,p,q,rfl,rfl,rfl,h1,ad⟩:=trodAll_cons h;have bw:=bq _ (j8 ..);exact⟨p,q,WideElems.Trod_stays ao bw.1 bw.2 h1 (λx al=>hs x (by simp[al])) (λx al=>hp x (by simp[al])),
    RY ao (λt IY=>bq t (fr _ IY)) ad (λx al=>hs x (by simp[al])) (λx al=>hp x (by simp[al])),rfl⟩
def Fr.below{W W':bc}(h:Fr [] W W'):Below W.heap.size W W':=⟨h.os,h.tape,h.output,h.size,λk hk=>h.block k hk (by simp)⟩
def acg{H:Type}{enc:bo×bd->H}{f:Func}{s:ChangeSpec}{W W':bc}{args:Array bd}{ds gs:aa (DataW H)}{before:aa MemPlace}{h0:bo}
 (ao:laidOutB P=true) (hp:∀t∈f.params.toList,P.readableRec t=true∧t<P.types.size) (aC:f.resultTypes= #[h0]) (hb:P.underlying h0=some .bool) (a7:s.vars=[])
 (hs:s.fn H ds= {results:=[.lit (.bool true)],args:=ds})
 (Ba:DataW.Whole enc P f.params.toList s.vars false W args.toList ds gs before) (kp:Fr [] W W'):
 s.post enc P f false true false false W args (.bool true) W':=by
 have akX:=Ba
 obtain⟨p,q,eo,Pe,rfl,b4,aG⟩:=akX
 rw[a7]at Pe
 obtain⟨rfl,rfl⟩:=trodVars_none Pe
 have bS:∀x∈p,x.block<W.heap.size:=λx al=>Ba.lt x (by simpa using al)
 have Ef:=kp.below
 have agO:∀x∈p,W.sameAt W' x:=λx al=>Ef.same (bS x al)
 have ajd:∀(b:Nat) (sp:Nat->Bool) (hd:Bool),DataW.TrodAll enc P W' b sp hd f.resultTypes.toList ((Value.bool true).resultList f.resultTypes.size) [.lit (.bool true)] []:=by
  intro b sp hd;rw[aC];exact⟨[],[],shut_bool hb true,rfl,rfl⟩
 refine⟨ds,[],p++[],[],p,[],Ba,?_,?_,?_,World.keptBut_mono (λx al=>?_) (Ef.frame λ_=>False),λh=>by cases h⟩
 ·rw[l8,hs];exact ajd _ _ _
 ·rw[l8,hs];exact RY ao hp eo agO (λx al=>by simpa using bS x al)
 ·rw[l8,hs,a7];rfl
 exact al.elim
end Gv
namespace Gv
open Go Go.ChangeShapes Go.WideShapes Go.RowKit
def ach{P:Program}{fits:bo->Bool}{d:Nat}{e:bo}{count off n:Nat}(h:rowAt P fits d e count off n=true):off<=count*P.cellsOf e:=by
 cases d with
 |zero=>cases h
 | succ d=>
   unfold rowAt at h
   simp only at h
   split at h
   ·cases h
   rename_i hs
   have hp:0<P.cellsOf e:=BB hs
   have ang:=BW off (P.cellsOf e)
   rw[nT]at h
   rcases h with h|h
   ·simp only[gJ,nV,fZ]at h
    have:P.cellsOf e*(off/P.cellsOf e)<=P.cellsOf e*count:=FE _ (by omega)
    rw[p9 count];omega
   simp only[gJ,fZ]at h
   have hm:=Cv off hp
   have:P.cellsOf e*(off/P.cellsOf e+1)<=P.cellsOf e*count:=FE _ (by omega)
   rw[Nat.mul_add]at this
   rw[p9 count];omega
def RZ{P:Program}:∀{d:Nat} {e:bo} {count off:Nat} {u:bo} {n:Nat},liesAt P d e count off u n=true->off<=count*P.cellsOf e
 |0,_,_,_,_,_,h=>by cases h
 | d+1,e,count,off,u,n,h=>by
   unfold liesAt at h;rw[nT]at h;rcases h with h|h
   ·exact ach h
   split at h
   ·exact RZ h
   cases h
structure vx(P:Program)(t:TypeId)(α:Type)[ag α]:Prop where
 top:∀{H:Type} {enc:TypeId×Value->H} {W:World} {n b:Nat} {v:Value} {x:DataW H×List MemPlace},DataW.trod enc P W 0 (λ_=>true) true n t v.cells.toList=some x->Value.okWide P W .any b t v->∃a:α,(J.of a).holds [] W v
variable{P:Program}{t e:bo}
def vx.of{α:Type}[ag α](h:Arg P t α):vx P t α where
 top h1 ad:=let⟨a,ay⟩:=h.read h1; ⟨a,h.form ad,ay⟩
def aci{α:Type}[ag α](hu:P.underlying t=some (.slice e))(he:Arg P e α)(b4:Nat.beq (ag.size α) 0=false){H:Type}{enc:bo×bd->H}{W:bc}{n b:Nat}{v:bd}{x:DataW H×aa MemPlace}
 (h:DataW.trod enc P W 0 (λ_=>true) true n t [v]=some x) (gN:Cell.okWide P W .any b t v):∃a:aa α,(J.of a).holds [] W v:=by
 have k1:ag.size α≠0:=λh=>by rw[h]at b4;cases b4
 rcases DataW.trod_slice hu h with⟨h1,_⟩|⟨a,len,cap,elems,rest,m,_,h1,_,_,anh,x1,sX,aje,amM,_⟩
 ·have:=Qn.1 h1
  subst this
  exact⟨[],n1.2 (.inl ⟨rfl,rfl⟩)⟩
 have:=Qn.1 h1
 subst this
 unfold Cell.okWide at gN
 simp only[hu]at gN
 unfold Cell.ok at gN
 rw[hu]at gN
 obtain⟨_,_,_,UW,row,cells,AP,ajf⟩:=gN
 obtain⟨s8,uu,ani⟩:=a
 simp only at UW
 subst UW
 unfold World.shape? at AP
 cases eH:W.heap[s8]? with
 |none=>rw[eH]at AP;cases AP
 | some pv=>
   rw[eH]at AP
   cases pv <;> simp at AP
   rename_i sY T hQ
   obtain⟨rV,da⟩:=AP
   have am0:uu<=sY.size:=by
    have a6:uu<=_:=RZ ajf;have bh:=Nat.div_mul_le_self cells (P.cellsOf row);omega
   have agP:=he.cells
   have fU:∀i,i<len->∃a:α,ag.rep [] W ((sY.toList.drop (uu+i*ag.size α)).take (ag.size α)) a∧uu+(i+1)*ag.size α<=sY.size:=λi aw=>by
    have a6:=aje i aw;rw[oO (by omega)]at a6;obtain⟨dY,bh,cH⟩:=PS.1 a6;obtain⟨_,ao,ak⟩:=World.cells?_some bh;rw[agP]at ao ak bh;have xz:∀j,j<ag.size α->sY[uu+i*ag.size α+j]? =dY[j]? :=λj aD=>by
     rw[<-ak j aD,jB,jB];unfold World.cell?;simp[eH]
    have heq:(sY.toList.drop (uu+i*ag.size α)).take (ag.size α)=dY:=by
     apply k6;intro j;rw[jN];by_cases aD:j<ag.size α
     ·rw[bm aD,kM,wq];exact xz j aD
     rw[bk aD];symm;exact JQ (by omega)
    obtain⟨a,a1⟩:=he.read cH;refine⟨a,by rw[heq];exact a1,?_⟩;have ed:=xz (ag.size α-1) (by omega);rw[oO (show ag.size α-1<dY.length by omega)]at ed;have:=(qR.1 ed).1;rw[lG];omega
   have hex:∃xs:aa α,xs.length=len∧∀i (h:i<xs.length),ag.rep [] W ((sY.toList.drop (uu+i*ag.size α)).take (ag.size α)) xs[i]:=by
    refine⟨List.ofFn λi:Fin len=>(fU i.1 i.2).choose,by simp,λi aw=>?_⟩;have gv:i<len:=by simpa using aw
    rw[List.getElem_ofFn];exact(fU i gv).choose_spec.1
   obtain⟨xs,x7,Oi⟩:=hex
   have hbound:uu+xs.length*ag.size α<=sY.size:=by
    rw[x7];rcases Qo len with bw|bw
    ·rw[bw];omega
    have:=(fU (len-1) (by omega)).choose_spec.2;rw[show len-1+1=len by omega]at this;exact this
   refine⟨xs,n1.2 (.inr ⟨s8,uu,cap,sY,T,hQ,by rw[x7],by simp,eH,by omega,by omega,hbound,?_,λi aw=>?_⟩)⟩
   ·rw[fg,jh];simp;omega
   have hle:(i+1)*ag.size α<=xs.length*ag.size α:=gp _ aw
   rw[qa]at hle
   rw[w2 _ _ _ _ _ hle]
   exact Oi i aw
def vx.akY{α:Type}[ag α](hu:P.underlying t=some (.slice e))(he:Arg P e α)(b4:Nat.beq (ag.size α) 0=false):vx P t (aa α)where
 top {H enc W n b v x} h gN:=by
  have Au:Cell.okWide P W .any b t v:=by
   unfold Value.okWide at gN;simp only[hu]at gN;exact gN
  have ajg:v.oneCell'=true:=by
   unfold Cell.okWide at Au;simp only[hu]at Au;unfold Cell.ok at Au;rw[hu]at Au;cases v <;> first|rfl|simp at Au
  rw[cells_one ajg]at h;exact aci hu he b4 h Au
def Rx{H:Type}{enc:bo×bd->H}{W:bc}{cB:aa bo}{vs:aa bd}{ds:aa (DataW H)}{dj:aa MemPlace}{α:Type}[ag α]{b:Nat}(a1:vx P t α)
 (h:DataW.TrodAll enc P W 0 (λ_=>true) true (t::cB) vs ds dj) (gN:∀(j:Nat) u v,(t::cB)[j]? =some u->vs[j]? =some v->Value.okWide P W .any b u v):
 ∃ (a:α) (v:bd) (Oj:aa bd) (WX:aa (DataW H)) (akZ:aa MemPlace) (d:DataW H),vs=v::Oj∧ds=d::WX∧(J.of a).holds [] W v∧DataW.TrodAll enc P W 0 (λ_=>true) true cB Oj WX akZ∧
   (∀(j:Nat) u w,cB[j]? =some u->Oj[j]? =some w->Value.okWide P W .any b u w):=by
 obtain⟨v,Og,d,Oh,p,q,rfl,rfl,rfl,⟨n,h1⟩,ad⟩:=trodAll_cons h
 obtain⟨a,ay⟩:=a1.top h1 (gN 0 t v I I)
 exact⟨a,v,Og,Oh,q,d,rfl,rfl,ay,ad,λj u w aD hw=>gN (j+1) u w (by simpa using aD) (by simpa using hw)⟩
end Gv
namespace Gv
open Go
def aa2{L' L:aa aA}(h:L'.Sublist L):(ks L').Sublist (ks L):=by
 induction h with
 |slnil=>simp[ks]
 |cons e _ bN=>cases hk:e.key <;> simp only[ks,hk] <;> first|exact bN|exact bN.cons _
 |cons_cons e _ bN=>cases hk:e.key <;> simp only[ks,hk] <;> first|exact bN|exact bN.cons_cons _
def aA.sk{e:aA}{A cg W W'}(h:e.ok A W)(x:Ext A W cg W')(hb:∀p,e.key=some p->W'.heap[p]? =W.heap[p]?):e.ok cg W':=by
 unfold aA.ok at *;cases hk:e.key with
 |none=>rw[hk]at h;exact h
 | some p=>
   rw[hk]at h
   obtain⟨o,h1,ad⟩:=h
   exact⟨o,by rw[hb p hk];exact h1,dN.mono _ x ad⟩
def jo(X bL:aa Nat)(iE:bc){δ:Type}(ρ:δ->J)(Lo:δ->aa aA):Ending->bc->Prop:=λe W'=>
 ∃v d,e=.returned v∧Fr X iE W'∧(ks (Lo d)).Nodup∧(∀k∈ks (Lo d),k<W'.heap.size∧(k<iE.heap.size->k∈X)∧k∉bL)∧(∀e∈Lo d,e.ok (ks (Lo d)++bL) W')∧(ρ d).holds (ks (Lo d)++bL) W' v
def bJ(P:Program)(f:FuncId)(τs:aa J)(Lin:aa aA){δ:Type}(ρ:δ->J)(Lo:δ->aa aA):Prop:=
 ∀ (A:aa Nat) (W:bc) (vs:aa bd),(∀k∈A,k<W.heap.size∧k∉ks Lin)->(ks Lin).Nodup->(∀k∈ks Lin,k<W.heap.size)->(∀e∈Lin,e.ok (ks Lin++A) W)->fK (ks Lin++A) W τs vs->
   Calls P f vs.toArray W (jo (ks Lin) A W ρ Lo)
def bJ.of{P:Program}{f:FuncId}{fn:Func}{code:Code}{n:Nat}{τs:aa J}{Lin:aa aA}{δ:Type}{ρ:δ->J}{Lo:δ->aa aA}(aU:P.funcs[f]? =some fn)(hb:fn.body=some code)(aG:fn.ntmps=n)(hlen:Nat.ble τs.length n=true)
 (h:∀W A,ax ⟨P,n,W,ks Lin,A,none,[]⟩ (bodyPost P fn (jo (ks Lin) A W ρ Lo)) code (params 0 τs) Lin):bJ P f τs Lin ρ Lo:=by
 intro A W vs eo jv bS gN a7
 refine GD aU hb (wpIn_wide.1 (h W A _ _ ?_))
 have ao:=a7.length
 have hle:τs.length<=n:=ni hlen
 exact
 {defers:=rfl
  size:=by simp[aG,ao];omega
  env:=λt τ jG=>by
   obtain⟨_,v,ad,ay⟩:=w4 a7 0 t τ jG;refine⟨v,?_,ay⟩;have bS:t<vs.length:=(fY.1 ad).1;rw[tb (by simpa using bS)];simpa using ad
  cW:=.refl _ _
  own:=gN
  nodup:=jv
  lt:=bS
  fa:=λk hk _=>hk
  dK:=eo}
section
variable{c:bW}{E:aa (Nat×J)}{L:aa aA}{ops:Array Oper}{Q:Exit->Act->bc->Prop}
variable{d:av Tmp}{ty:bo}{pos:String}{af:Array Edge}{g:av (Nat×Bool)}{x y:bO}{t t2:bo}
def pd(c:bW)(E:aa (Nat×J))(L:aa aA)(r:ResultVar)(τ:J):Prop:=
 ∀a W,bA c E L a W->∃v,(xq a.tmps r).run c.P W=.ok v W∧τ.holds (ks L++c.bL) W v
def c9{t:Nat}{τ:J}(h:look E t=some τ):pd c E L (.tmp t) τ:=λa W s=>by
 obtain⟨v,h1,ad⟩:=s.env t τ h;exact⟨v,by simp[xq,h1],ad⟩
def mh{t:Nat}{ty:bo}{i p:Nat}{α:Type}[ag α]{x:α}(dx:bG c.P ty α)(h:look E t=some (.eq (.pointer (some ⟨p,0,none⟩))))(ar:L[i]? =some ⟨some p,.var x⟩):pd c E L (.cell t ty) (.of x):=λa W s=>by
 obtain⟨v,h1,ad⟩:=s.env t _ h;subst ad;obtain⟨pv,eH,cs,T,rfl,fU⟩:=s.own _ (er ar);have ao:cs.toList.length=ag.size α:=ag.len fU;have da:cs.size=ag.size α:=by simpa using ao
 obtain⟨v,ay,aN⟩:=wW (A:=ks L++c.bL) (off:=0) dx eH (by omega) (by rw[th,<-ao,l7];exact fU);exact⟨v,by simp[xq,h1,asAddr,ay],aN⟩
def bA.ends{a:Act}{W:bc}(s:bA c E L a W){δ:Type}{ρ:δ->J}{Lo:δ->aa aA}(aV:δ)(hs:(Lo aV).Sublist L){v:bd}(a7:(ρ aV).holds (ks L++c.bL) W v):jo c.X c.bL c.iE ρ Lo (.returned v) W:=by
 have mn:=aa2 hs;have hk:∀k∈ks (Lo aV),k∈ks L:=λk hk=>mn.subset hk;have ha:Ext (ks L++c.bL) W (ks (Lo aV)++c.bL) W:=.drop λk hm=>by
  rcases bX.1 hm with hm|hm
  ·exact bX.2 (.inl (hk k hm))
  exact bX.2 (.inr hm)
 exact⟨v,aV,rfl,s.cW,s.nodup.sublist mn,λk hm=>⟨s.lt k (hk k hm),s.fa k (hk k hm),λa1=>(s.dK k a1).2 (hk k hm)⟩,
  λe he=>aA.sk (s.own e (hs.subset he)) ha λ_ _=>rfl,J.mono _ ha a7⟩
def ej{L L':aa aA}(n:Nat)(h:L.drop n=L':=by rfl):L'.Sublist L:=h▸List.drop_sublist n L
def aq.dV{fn:Func}{r:ResultVar}{τ:J}{δ:Type}{ρ:δ->J}{Lo:δ->aa aA}(aV:δ)(hs:(Lo aV).Sublist L)(aC:fn.results= #[r])(pU:ρ aV=τ)(h:pd c E L r τ)(dC:c.ds=[]:=by rfl):aq c (bodyPost c.P fn (jo c.X c.bL c.iE ρ Lo)) .ret E L:=λa W s=>by
 subst pU;obtain⟨v,h1,ad⟩:=h a W s;exact⟨s.xg dC,v,by simp[w6,aC,h1],s.ends aV hs ad⟩
def aq.n5{fn:Func}{r eS:ResultVar}{τ mY:J}{δ:Type}{ρ:δ->J}{Lo:δ->aa aA}(aV:δ)(hs:(Lo aV).Sublist L)(aC:fn.results= #[r,eS])(pU:ρ aV=.bR [τ,mY])(h:pd c E L r τ)(ad:pd c E L eS mY)(dC:c.ds=[]:=by rfl):aq c (bodyPost c.P fn (jo c.X c.bL c.iE ρ Lo)) .ret E L:=λa W s=>by
 obtain⟨v,ay,aN⟩:=h a W s;obtain⟨v2,a6,bh⟩:=ad a W s;exact⟨s.xg dC,.tuple #[v,v2],by simp[w6,aC,ay,a6],s.ends aV hs (by rw[pU];exact⟨_,rfl,.cons aN (.cons bh .nil)⟩)⟩
def aq.UK{fn:Func}{r eS ko:ResultVar}{τ mY D9:J}{δ:Type}{ρ:δ->J}{Lo:δ->aa aA}(aV:δ)(hs:(Lo aV).Sublist L)(aC:fn.results= #[r,eS,ko])(pU:ρ aV=.bR [τ,mY,D9])(h:pd c E L r τ)(ad:pd c E L eS mY)(ay:pd c E L ko D9)(dC:c.ds=[]:=by rfl):aq c (bodyPost c.P fn (jo c.X c.bL c.iE ρ Lo)) .ret E L:=λa W s=>by
 obtain⟨v,az,f1⟩:=h a W s;obtain⟨v2,a8,f2⟩:=ad a W s;obtain⟨v3,dw,f3⟩:=ay a W s;exact⟨s.xg dC,.tuple #[v,v2,v3],by simp[w6,aC,az,a8,dw],s.ends aV hs (by rw[pU];exact⟨_,rfl,.cons f1 (.cons f2 (.cons f3 .nil))⟩)⟩
def u0:∀{L:aa aA} {i:Nat} {e:aA},L[i]? =some e->L.Perm (e::L.eraseIdx i)
 |[],i,e,h=>by simp at h
 |x::r,0,e,h=>by simp only[List.getElem?_cons_zero,fC]at h;subst h;exact .refl _
 | x::r,i+1,e,h=>by
   simp only[List.getElem?_cons_succ]at h;exact((u0 h).cons x).trans (.swap e x _)
def bA.bV{a:Act}{W:bc}(s:bA c E L a W){i:Nat}{e:aA}(h:L[i]? =some e):bA c E (e::L.eraseIdx i) a W:=s.perm (u0 h)
def ae.bV{l:aa Oper}(i:Nat){e:aA}(h:L[i]? =some e)(k:ae c ops Q l E (e::L.eraseIdx i)):ae c ops Q l E L:=λa W s=>k a W (s.bV h)
def aq.bV{z:Exit}(i:Nat){e:aA}(h:L[i]? =some e)(k:aq c Q z E (e::L.eraseIdx i)):aq c Q z E L:=λa W s=>k a W (s.bV h)
def bA.after{a:Act}{W W':bc}{Lin Lr:aa aA}(s:bA c E (Lin++Lr) a W){Lo:aa aA}(aU:Fr (ks Lin) W W')(jv:(ks Lo).Nodup)
 (hk:∀k∈ks Lo,k<W'.heap.size∧(k<W.heap.size->k∈ks Lin)∧k∉ks Lr++c.bL) (gN:∀e∈Lo,e.ok (ks Lo++(ks Lr++c.bL)) W'):bA c E (Lo++Lr) a W':=by
 have ha:Ext (ks (Lin++Lr)++c.bL) W (ks (Lo++Lr)++c.bL) W':=
  ⟨aU.size,λk bS a1=>aU.block k bS λhm=>a1 (by rw[ef];simp[hm]),λk hm bS=>by
   rw[ef]at hm⊢;simp only[bX]at hm⊢;rcases hm with(hm|hm)|hm
   ·exact .inl (.inl ((hk k hm).2.1 bS))
   ·exact .inl (.inr hm)
   exact .inr hm⟩
 have kd:=s.nodup
 rw[ef]at kd
 obtain⟨lT,pV,oB⟩:=nS.1 kd
 have AK:∀k∈ks Lr,k<W.heap.size∧k∉ks Lin:=λk hm=>⟨s.lt k (by rw[ef];exact bX.2 (.inr hm)),λh=>oB k h k hm I⟩
 exact
 {defers:=s.defers
  size:=s.size
  env:=λt τ ao=>let⟨v,h1,ad⟩:=s.env t τ ao; ⟨v,h1,τ.mono ha ad⟩
  cW:=⟨aU.os.trans s.cW.os,aU.tape.trans s.cW.tape,aU.output.trans s.cW.output,oQ s.cW.drawn aU.drawn,oQ s.cW.size aU.size,λk bS al=>
   (aU.block k (p5 bS s.cW.size) λhm=>al (s.fa k (by rw[ef];exact bX.2 (.inl hm)) bS)).trans (s.cW.block k bS al)⟩
  own:=λe he=>by
   rcases bX.1 he with he|he
   ·have:=gN e he;refine aA.sk this (.drop λk hm=>?_) λ_ _=>rfl;rw[ef]at hm;simp only[bX]at hm⊢;rcases hm with(hm|hm)|hm
    ·exact .inl hm
    ·exact .inr (.inl hm)
    exact .inr (.inr hm)
   exact aA.sk (s.own e (bX.2 (.inr he))) ha λp hp=>by
    have:=AK p (qh.2 ⟨e,he,hp⟩);exact aU.block p this.1 this.2
  nodup:=by
   rw[ef];exact nS.2 ⟨jv,pV,λk h1 j ad e=>by subst e;exact(hk k h1).2.2 (bX.2 (.inl ad))⟩
  lt:=λk hm=>by
   rw[ef]at hm;rcases bX.1 hm with hm|hm
   ·exact(hk k hm).1
   exact p5 (AK k hm).1 aU.size
  fa:=λk hm bw=>by
   rw[ef]at hm;have bS:k<W.heap.size:=p5 bw s.cW.size;rcases bX.1 hm with hm|hm
   ·exact s.fa k (by rw[ef];exact bX.2 (.inl ((hk k hm).2.1 bS))) bw
   exact s.fa k (by rw[ef];exact bX.2 (.inr hm)) bw
  dK:=λk hm=>by
   obtain⟨h1,ad⟩:=s.dK k hm;refine⟨p5 h1 aU.size,λh=>?_⟩;rw[ef]at h ad;rcases bX.1 h with h|h
   ·exact(hk k h).2.2 (bX.2 (.inr hm))
   exact ad (bX.2 (.inr h))}
def gZ.TK{xs:aa bO}{τs:aa J}(h:gZ c E L xs τs){a:Act}{W:bc}(s:bA c E L a W):fK (ks L++c.bL) W τs (xs.map a.eval):=h.holds a W s
def CL{a:Act}{W:bc}{f:FuncId}{xs:aa bO}{ats:Array bo}{τs:aa J}{Lin Lr:aa aA}{δ:Type}{ρ:δ->J}{Lo:δ->aa aA}(bU:bx c.P f)(h:bJ c.P f τs Lin ρ Lo)
 (s:bA c E (Lin++Lr) a W) (al:fK (ks (Lin++Lr)++c.bL) W τs (xs.map a.eval)):
 gz c.P ⟨d,.call ⟨.value (.func f),xs.toArray,ats⟩,ty,pos,af,g⟩ a W λv W'=> ∃aV,bA c E (Lo aV++Lr) a W'∧(ρ aV).holds (ks (Lo aV++Lr)++c.bL) W' v:=by
 have kd:=s.nodup
 rw[ef]at kd
 obtain⟨lT,pV,oB⟩:=nS.1 kd
 have gA:Ext (ks (Lin++Lr)++c.bL) W (ks Lin++(ks Lr++c.bL)) W:=.drop λk hm=>by
  rw[ef];simp only[bX]at hm⊢;rcases hm with hm|hm|hm
  ·exact .inl (.inl hm)
  ·exact .inl (.inr hm)
  exact .inr hm
 have eo:∀k∈ks Lr++c.bL,k<W.heap.size∧k∉ks Lin:=λk hm=>by
  rcases bX.1 hm with hm|hm
  ·exact⟨s.lt k (by rw[ef];exact bX.2 (.inr hm)),λh=>oB k h k hm I⟩
  obtain⟨h1,ad⟩:=s.dK k hm;exact⟨h1,λh=>ad (by rw[ef];exact bX.2 (.inl h))⟩
 have bS:∀k∈ks Lin,k<W.heap.size:=λk hm=>s.lt k (by rw[ef];exact bX.2 (.inl hm))
 refine .tt (f:=f) (args:=(xs.map a.eval).toArray) (W':=W) (by simp[execOp,resolve,Deferred.ofValue,Act.eval,invoke,bU.run]) ?_
 refine(h (ks Lr++c.bL) W (xs.map a.eval) eo lT bS (λe he=>aA.sk (s.own e (bX.2 (.inl he))) gA λ_ _=>rfl) (al.mono gA)).mono λe W' ⟨v,aV,he,aU,h1,ad,ay,aN⟩=>?_
 refine⟨v,he,aV,s.after aU h1 ad ay,(ρ aV).mono (.drop λk hm=>?_) aN⟩
 rw[ef]at hm
 simp only[bX]at hm⊢
 rcases hm with(hm|hm)|hm
 ·exact .inl hm
 ·exact .inr (.inl hm)
 exact .inr (.inr hm)
def ae.pI{rest:aa Oper}{aV:Nat}{f:FuncId}{xs:aa bO}{ats:Array bo}{τs:aa J}{Lin Lr:aa aA}{δ:Type}{ρ:δ->J}{Lo:δ->aa aA}(bU:bx c.P f)(h:bJ c.P f τs Lin ρ Lo)
 (al:gZ c E (Lin++Lr) xs τs) (aG:Nat.blt aV c.n=true) (k:∀q,ae c ops Q rest ((aV,ρ q)::E) (Lo q++Lr)):
 ae c ops Q (⟨some aV,.call ⟨.value (.func f),xs.toArray,ats⟩,ty,pos,af,none⟩::rest) E (Lin++Lr):=λa W s=>
 hl I (CL bU h s (al.holds a W s)) λv W' ⟨q,b1,a7⟩=>k q _ _ (b1.put (by simpa using aG) a7)
end
def fi{α:Type}(xs:aa α)(k:Nat)(v:α):aa α:=xs.set k v
section
variable{c:bW}{E:aa (Nat×J)}{L:aa aA}{ops:Array Oper}{Q:Exit->Act->bc->Prop}
variable{d:av Tmp}{ty:bo}{pos:String}{af:Array Edge}{g:av (Nat×Bool)}{x y:bO}{t t2:bo}
def bA.rowAt{a:Act}{W:bc}(s:bA c E L a W){i:Nat}{key:av Nat}{T cap:Nat}{α:Type}[ag α]{xs:aa α}(ar:L[i]? =some ⟨key,.row T xs cap⟩)(al:0<xs.length):
 ∃p cs,key=some p∧W.heap[p]? =some (.cells cs T (0,0))∧cs.size=cap*ag.size α∧xs.length<=cap∧cap<=maxLen∧gi (ks L++c.bL) W (cs.toList.take (xs.length*ag.size α)) xs:=by
 have aS:=s.own _ (er ar)
 cases key with
 |none=>have:xs=[]:=aS.1;subst this;simp at al
 | some p=>
   obtain⟨o,eH,cs,rfl,h1,ad,ay,aN⟩:=aS
   exact⟨p,cs,rfl,eH,h1,ad,ay,aN⟩
def mO{e i k T cap:Nat}{key:av Nat}{α:Type}[ag α]{xs:aa α}{z:Int}(hu:c.P.underlying t=some (.slice e))(dO:bG c.P e α)(al:aL c E L x (.eq (aZ key xs.length cap)))(hy:aL c E L y (.of z))
 (ar:L[i]? =some ⟨key,.row T xs cap⟩) (hk:k<xs.length∧z=k):ba c E L ⟨d,.indexAddr t x y,ty,pos,af,g⟩ (.eq (.pointer (some ⟨key.getD 0,k*ag.size α,none⟩))):=.pure λa W s=>by
 obtain⟨bh,rfl⟩:=hk
 obtain⟨p,cs,rfl,_⟩:=s.rowAt ar (by omega)
 have h1:a.eval x=_:=al a W s
 have a6:=of_int.1 (hy a W s)
 obtain⟨fG,dv,da⟩:=dO.info
 exact⟨_,by simp[execOp,Instr.indexAt,asIntOf,dn hu,h1,a6,bh,Go.sizeOf,typeInfo,dv,da,jB,aZ];rfl,by simp[J.eq]⟩
def zZ{k n s:Nat}(h:k<n):k*s+s<=n*s:=by rw[<-qa];exact gp _ h
def u3{i k T cap o:Nat}{key:av Nat}{α γ:Type}[ag α][Inhabited α][ag γ]{xs:aa α}(l:aO α γ){r:γ}(dx:bG c.P t γ)(al:aL c E L x (.eq (.pointer (some ⟨key.getD 0,o,none⟩))))
 (ar:L[i]? =some ⟨key,.row T xs cap⟩) (hk:k<xs.length) (aS:o=k*ag.size α+l.off) (aC:l.get (aF xs k)=r):ba c E L ⟨d,.load t x,ty,pos,af,g⟩ (.of r):=.pure λa W s=>by
 subst aS;subst aC
 obtain⟨p,cs,rfl,eH,h1,ad,ay,aN⟩:=s.rowAt ar (by omega)
 have fV:=zZ (s:=ag.size α) hk
 have ao:=l.gk
 have hle:xs.length*ag.size α<=cap*ag.size α:=gp _ ad
 have fU:=l.iJ (aN.2 k hk)
 rw[w2 _ _ _ _ _ l.gk,tg,p8,nk (by omega)]at fU
 rw[e2 xs hk]
 obtain⟨v,a6,bh⟩:=wW (A:=ks L++c.bL) dx eH (off:=k*ag.size α+l.off) (by omega) fU
 have cH:a.eval x=_:=al a W s
 simp only[Option.getD_some]at cH
 exact⟨v,by simp[execOp,Instr.loadAt,Instr.sureAddr,cH,a6],bh⟩
def ae.tD{rest:aa Oper}{i k T cap o:Nat}{key:av Nat}{α γ:Type}[ag α][Inhabited α][ag γ]{xs r:aa α}{v:γ}(l:aO α γ)(dx:bG c.P t γ)(al:aL c E L x (.eq (.pointer (some ⟨key.getD 0,o,none⟩))))(hy:aL c E L y (.of v))
 (ar:L[i]? =some ⟨key,.row T xs cap⟩) (hk:k<xs.length) (aS:o=k*ag.size α+l.off) (aC:fi xs k (l.set (aF xs k) v)=r)
 (k':ae c ops Q rest E (L.set i ⟨key,.row T r cap⟩)):ae c ops Q (⟨none,.store t x y,ty,pos,af,none⟩::rest) E L:=λa W s=>by
 subst aS;subst aC
 obtain⟨p,cs,rfl,eH,h1,ad,ay,aN⟩:=s.rowAt ar (by omega)
 have fV:=zZ (s:=ag.size α) hk
 have ao:=l.gk
 have hle:xs.length*ag.size α<=cap*ag.size α:=gp _ ad
 have a7:=hy a W s
 have qG:(a.eval y).cells.toList.length=ag.size γ:=ag.len a7.2
 have a6:=GN (A:=ks L++c.bL) dx eH (off:=k*ag.size α+l.off) (by omega) a7
 have cH:a.eval x=_:=al a W s
 simp only[Option.getD_some]at cH
 refine hl I (R:=λv W'=>W'=W.setRow p (fR cs.toList (k*ag.size α+l.off) (a.eval y).cells.toList).toArray) (.zS ?_ I) λu W' hw=>?_
 ·simp[execOp,Instr.storeAt,Instr.sureAddr,cH,a6]
 subst hw
 refine k' _ _ (s.store ar eH ?_)
 have lv:cs.toList.length=cap*ag.size α:=by simpa using h1
 have oC:(fR cs.toList (k*ag.size α+l.off) (a.eval y).cells.toList).length=cs.toList.length:=by
  simp only[fR,fB,fg,jh,qG];omega
 refine⟨_,rfl,by simpa[lv]using oC,by simpa[fi]using ad,ay,?_⟩
 have g1:=aN.2 k hk
 have g2:=l.mc g1 a7.2
 have g3:=LI aN hk g2
 have sW:(cs.toList.take (xs.length*ag.size α)).length=xs.length*ag.size α:=by rw[fg];omega
 rw[RW _ _ _ _ _ _ l.gk (by omega)]at g3
 have hlen:(fi xs k (l.set (aF xs k) v)).length=xs.length:=by simp[fi]
 rw[hlen,List.toList_toArray]
 have e:(fR cs.toList (k*ag.size α+l.off) (a.eval y).cells.toList).take (xs.length*ag.size α)=
  (cs.toList.take (xs.length*ag.size α)).take (k*ag.size α+l.off)++(a.eval y).cells.toList++(cs.toList.take (xs.length*ag.size α)).drop (k*ag.size α+l.off+ag.size γ):=by
  have az:(cs.toList.take (k*ag.size α+l.off)).length=k*ag.size α+l.off:=by rw[fg];omega
  have a8:(cs.toList.take (k*ag.size α+l.off)++(a.eval y).cells.toList).length=k*ag.size α+l.off+ag.size γ:=by rw[fB,az,qG]
  rw[fR,qG,FV,a8,qS (by omega),p8,nk (by omega),tg]
 rw[e,show fi xs k (l.set (aF xs k) v)=xs.set k (l.set xs[k] v) by rw[fi,e2 xs hk]]
 exact g3
def hK(key:av Nat)(lo n cap size:Nat):bd:=match key with
 |some p=>.slice (some (if cap=lo then⟨p,0,none⟩else⟨p,lo*size,none⟩)) n (cap-lo)
 |none=>.slice none 0 0
def zG{key:av Nat}{n cap size:Nat}:hK key 0 n cap size=aZ key n cap:=by
 cases key <;> simp[hK,aZ]
def CQ{i T cap:Nat}{key:av Nat}{α:Type}[ag α]{xs:aa α}{e:bo}{lo aw:av bO}{m n:Nat}{E9 Fa:Int}(hu:c.P.underlying t=some (.slice e))(dO:bG c.P e α)(al:aL c E L x (.eq (aZ key xs.length cap)))
 (ar:L[i]? =some ⟨key,.row T xs cap⟩) (h7:v7 c E L lo E9 0) (gl:v7 c E L aw Fa xs.length) (hm:E9=m) (aG:Fa=n) (h:m<=n∧n<=xs.length):
 ba c E L ⟨d,.slice t x lo aw none,ty,pos,af,g⟩ (.eq (hK key m (n-m) cap (ag.size α))):=.pure λa W s=>by
 subst hm;subst aG
 obtain⟨ua,lu⟩:=h
 obtain⟨fG,dv,da⟩:=dO.info
 have h1:a.eval x=_:=al a W s
 have aS:=s.own _ (er ar)
 cases key with
 | none=>
   have nJ:xs=[]:=aS.1
   subst nJ
   have sU:n=0:=by simpa using lu
   have gL:m=0:=by omega
   subst sU
   subst gL
   refine⟨.slice none 0 0,?_,rfl⟩
   have ar:(match lo.map a.eval with |some v=>Instr.sliceBound v 0 .sliceB|none=>pure 0:Sem Nat).run c.P W=.ok 0 W:=by
    cases h7 with
    |none=>rfl
    |some ao=>exact qc (h5 _) (of_int.1 (ao a W s))
   have hH:(match aw.map a.eval,(none:av bd) with | some v,some _=>Instr.sliceBound v 0 .slice3B | some v,none=>Instr.sliceBound v 0 .sliceAcap | none,none=>pure 0 | none,some _=>stuck "Slice: max without high" :Sem Nat).run c.P W= .ok 0 W:=by
    cases gl with
    |none=>rfl
    |some ao=>exact qc (h5 _) (of_int.1 (ao a W s))
   cases h7 <;> cases gl
   all_goals
    simp only[aZ,execOp,Instr.sliceAt,Instr.slice,Instr.sliceBounds,h1,df,dn hu,Result.andThen_ok,Option.map_none,Option.map_some,Option.isSome_none,p4,mK,kO,Sem.run_pure]at ar hH⊢
    try simp only[ar,hH,Result.andThen_ok,Go.sizeOf,typeInfo,df,run_program,dv,Sem.run_pure]
    try simp[dv]
 | some p=>
   obtain⟨o,eH,cs,rfl,g1,g2,g3,g4⟩:=aS
   refine⟨_,?_,rfl⟩
   simp only[hK]
   have ar:∀v,v=Value.int .i64 m->(Instr.sliceBound v n .sliceB).run c.P W=.ok m W:=λv a7=>qc ua a7
   have hH:∀v,v=Value.int .i64 n->(Instr.sliceBound v cap .sliceAcap).run c.P W=.ok n W:=λv a7=>qc (by omega) a7
   generalize fV:(n:Int)=XB at gl
   generalize Ed:(m:Int)=XC at h7
   generalize x7:(xs.length:Int)=XD at gl
   generalize WU:(0:Int)=XE at h7
   cases h7 with
   | none=>
     have gL:m=0:=by omega
     cases gl with
     | none=>
       have lu:n=xs.length:=by omega
       subst lu
       subst gL
       simp[execOp,Instr.sliceAt,Instr.slice,Instr.sliceBounds,h1,aZ,dn hu,Go.sizeOf,typeInfo,dv,da,jB]
     | some ch=>
       subst fV
       subst gL
       simp[execOp,Instr.sliceAt,Instr.slice,Instr.sliceBounds,h1,aZ,dn hu,Go.sizeOf,typeInfo,dv,da,jB,hH _ (of_int.1 (ch a W s))]
   | some ao=>
     subst Ed
     cases gl with
     | none=>
       have lu:n=xs.length:=by omega
       subst lu
       simp[execOp,Instr.sliceAt,Instr.slice,Instr.sliceBounds,h1,aZ,dn hu,Go.sizeOf,typeInfo,dv,da,jB,ar _ (of_int.1 (ao a W s))]
       split <;> rfl
     | some ch=>
       subst fV
       simp[execOp,Instr.sliceAt,Instr.slice,Instr.sliceBounds,h1,aZ,dn hu,Go.sizeOf,typeInfo,dv,da,jB,ar _ (of_int.1 (ao a W s)),hH _ (of_int.1 (ch a W s))]
       split <;> rfl
def bA.again{a:Act}{W:bc}(s:bA c E L a W){i:Nat}{key:av Nat}{cp cp':dN}(ar:L[i]? =some ⟨key,cp⟩)(h:∀A W o,cp.holds A W o->cp'.holds A W o)(aG:cp.nA->cp'.nA):bA c E (L.set i ⟨key,cp'⟩) a W:=by
 have fz:ks (L.set i ⟨key,cp'⟩)=ks L:=HH (e:=⟨key,cp⟩) (cp:=cp') ar;exact
 {defers:=s.defers
  size:=s.size
  env:=λt τ ao=>by rw[fz];exact s.env t τ ao
  cW:=s.cW
  own:=λe he=>by
   rw[fz];obtain⟨j,aD⟩:=mE.1 he;rw[nR]at aD;split at aD
   ·split at aD
    ·simp only[fC]at aD;subst aD;have aS:=s.own _ (er ar);cases key with
     |none=>exact aG aS
     |some p=>obtain⟨o,h1,ad⟩:=aS;exact⟨o,h1,h _ _ _ ad⟩
    cases aD
   exact s.own e (er aD)
  nodup:=by rw[fz];exact s.nodup
  lt:=by rw[fz];exact s.lt
  fa:=by rw[fz];exact s.fa
  dK:=by rw[fz];exact s.dK}
def G8{T cap n:Nat}{α:Type}[ag α]{xs:aa α}(aG:n<=xs.length){A W o}(h:(dN.row T xs cap).holds A W o):(dN.row T (xs.take n) cap).holds A W o:=by
 obtain⟨cs,rfl,h1,ad,ay,aN⟩:=h;have ao:(xs.take n).length=n:=by rw[fg];omega
 have hle:n*ag.size α<=xs.length*ag.size α:=gp _ aG;have Iv:xs.length*ag.size α<=cap*ag.size α:=gp _ ad;refine⟨cs,rfl,h1,by omega,ay,?_⟩;rw[ao];have lv:cs.toList.length=cap*ag.size α:=by simpa using h1
 refine⟨by rw[fg,ao];omega,λi aw=>?_⟩;have gv:i<n:=by omega
 have fV:=zZ (s:=ag.size α) gv;have:=aN.2 i (by omega);rw[tg,p8,nk (by omega)]at this⊢;rw[List.getElem_take];exact this
def ae.agD{l:aa Oper}{i T cap n:Nat}{key:av Nat}{α:Type}[ag α]{xs r:aa α}(aV:Nat)(ao:look E aV=some (.eq (hK key 0 (n-0) cap (ag.size α))))(ar:L[i]? =some ⟨key,.row T xs cap⟩)(aG:n<=xs.length)(aC:xs.take n=r)
 (k:ae c ops Q l ((aV,.eq (aZ key r.length cap))::E) (L.set i ⟨key,.row T r cap⟩)):ae c ops Q l E L:=λa W s=>by
 subst aC
 have hlen:(xs.take n).length=n:=by rw[fg];omega
 have b1:=s.again ar (λ_ _ _ h=>G8 aG h) (cp':=.row T (xs.take n) cap) (λ⟨h1,ad⟩=>⟨by rw[h1];simp,ad⟩)
 refine k a W {b1 with env:=λt τ eI=>?_}
 simp only[look]at eI
 by_cases e:Nat.beq aV t=true
 ·rw[e]at eI
  simp only[cond_true,fC]at eI
  subst eI
  have:=eO.1 e
  subst this
  obtain⟨v,h1,ad⟩:=s.env aV _ ao
  refine⟨v,h1,?_⟩
  have k2:v=_:=ad
  rw[Nat.sub_zero,zG]at k2
  rw[hlen]
  exact k2
 simp only[kN]at e
 rw[e]at eI
 exact b1.env t τ eI
end
def sq{α:Type}[Inhabited α](xs:aa α)(lo n:Nat):aa α:=xs.take lo++List.replicate n default++xs.drop (lo+n)
def R0{α:Type}[ag α]{A W}{cs ds:aa bd}{xs ys:aa α}{lo:Nat}(h:gi A W cs xs)(cC:gi A W ds ys)(hk:lo+ys.length<=xs.length):
 gi A W (cs.take (lo*ag.size α)++ds++cs.drop (lo*ag.size α+ds.length)) (xs.take lo++ys++xs.drop (lo+ys.length)):=by
 have ao:=h.1
 have hle:lo*ag.size α<=xs.length*ag.size α:=gp _ (by omega)
 have t1:gi A W (cs.take (lo*ag.size α)) (xs.take lo):=by
  have e:(xs.take lo).length=lo:=by rw[fg];omega
  refine⟨by rw[fg,e];omega,λi aw=>?_⟩;have gv:i<lo:=by omega
  have:=h.2 i (by omega);have fV:=zZ (s:=ag.size α) gv;rw[tg,p8,nk (by omega),List.getElem_take];exact this
 have t3:gi A W (cs.drop (lo*ag.size α+ds.length)) (xs.drop (lo+ys.length)):=by
  have e:lo*ag.size α+ds.length=(lo+ys.length)*ag.size α:=by rw[cC.1,lG]
  rw[e];refine⟨by rw[jh,jh,ao,<-Nat.sub_mul],λi aw=>?_⟩;rw[jh]at aw;have:=h.2 (lo+ys.length+i) (by omega);rw[B8,<-lG,List.getElem_drop];exact this
 exact uW (uW t1 cC) t3
section
variable{c:bW}{E:aa (Nat×J)}{L:aa aA}{ops:Array Oper}{Q:Exit->Act->bc->Prop}
variable{d:av Tmp}{ty:bo}{pos:String}{af:Array Edge}{g:av (Nat×Bool)}{x y:bO}{t t2:bo}
def ae.clear{rest:aa Oper}{i e T cap lo n:Nat}{key:av Nat}{α:Type}[ag α][Inhabited α]{xs r:aa α}(hu:c.P.underlying t=some (.slice e))(dO:bG c.P e α)(fP:cN c.P e (default:α))(da:Nat.beq (ag.size α) 0=false)
 (al:aL c E L x (.eq (hK key lo n cap (ag.size α)))) (ar:L[i]? =some ⟨key,.row T xs cap⟩) (aG:lo+n<=xs.length) (aC:sq xs lo n=r)
 (k:ae c ops Q rest E (L.set i ⟨key,.row T r cap⟩)):ae c ops Q (⟨none,.call ⟨.builtin .clear,#[x],#[t]⟩,ty,pos,af,none⟩::rest) E L:=λa W s=>by
 subst aC
 have h1:a.eval x=_:=al a W s
 have aS:=s.own _ (er ar)
 have gA:∀cp,L.set i ⟨key,cp⟩=L.set i ⟨key,cp⟩:=λ_=>rfl
 by_cases bw:n=0∨key=none
 ·have nJ:sq xs lo n=xs:=by
   rcases bw with bw|bw
   ·subst bw;simp[sq]
   subst bw;have:xs=[]:=aS.1;subst this;have:n=0:=by simp at aG;omega
   subst this;simp[sq]
  have iM:(execOp a.eval ⟨none,.call ⟨.builtin .clear,#[x],#[t]⟩,ty,pos,af,none⟩).run c.P W=.ok (.value (.tuple #[])) W:=by
   rcases bw with bw|bw
   ·subst bw;cases key <;> simp[execOp,resolve,invoke,builtin,Builtin.clear_,h1,hK,dn hu]
   subst bw;simp[execOp,resolve,invoke,builtin,Builtin.clear_,h1,hK,dn hu]
  refine hl I (R:=λv W'=>W'=W) (.lj iM I) λv W' hw=>?_
  subst hw
  rw[nJ]at k
  have:L.set i ⟨key,.row T xs cap⟩=L:=by
   apply k6;intro j;rw[nR];split
   ·rename_i gD;subst gD;have:=(fY.1 ar).1;rw[bm this,ar]
   rfl
  rw[this]at k
  exact k _ _ s
 have sU:0<n:=by
  rcases Qo n with h|h
  ·exact absurd (.inl h) bw
  exact h
 obtain⟨p,cs,rfl,eH,g1,g2,g3,g4⟩:=s.rowAt ar (by omega)
 obtain⟨fG,dk,dv,b4,Ol⟩:=fP.zero
 have IZ:=Ol (ks L++c.bL) W
 have I0:dk.cells.toList.length=ag.size α:=ag.len IZ.2
 have k1:ag.size α≠0:=λh=>by rw[h]at da;cases da
 have Eg:=CM IZ n k1
 have x9:dk.cells.size=ag.size α:=by simpa using I0
 have Om:Builtin.zeroCells dk.cells n=(Array.range (n*ag.size α)).map (dk.cells[· % dk.cells.size]!):=by rw[Builtin.zeroCells,x9]
 rw[<-Om]at Eg
 generalize kJ:(Builtin.zeroCells dk.cells n).toList=D at Eg
 have anj:D.length=n*ag.size α:=by rw[Eg.1];simp
 have h7:cap≠lo:=by omega
 have hle:(lo+n)*ag.size α<=cap*ag.size α:=gp _ (by omega)
 rw[lG]at hle
 have cU:=BH (P:=c.P) p (lo*ag.size α) _ D 0 cs W eH (by omega) Eg.one
 have iM:(execOp a.eval ⟨none,.call ⟨.builtin .clear,#[x],#[t]⟩,ty,pos,af,none⟩).run c.P W=.ok (.value (.tuple #[])) (W.setRow p (fR cs.toList (lo*ag.size α) D).toArray):=by
  obtain⟨m,rfl⟩:∃m,n=m+1:=⟨n-1,by omega⟩;simp only[Nat.add_zero]at cU;simp[execOp,resolve,invoke,builtin,Builtin.clear_,h1,hK,dn hu,h7,zeroValue,typeInfo,run_program,dv,b4,kJ,cU,fR]
 refine hl I (R:=λv W'=>W'=W.setRow p (fR cs.toList (lo*ag.size α) D).toArray) (.lj iM I) λv W' hw=>?_
 subst hw
 refine k _ _ (s.store ar eH ?_)
 have lv:cs.toList.length=cap*ag.size α:=by simpa using g1
 have hlen:(sq xs lo n).length=xs.length:=by simp[sq];omega
 have sW:(cs.toList.take (xs.length*ag.size α)).length=xs.length*ag.size α:=by
  rw[fg];have:xs.length*ag.size α<=cap*ag.size α:=gp _ g2;omega
 have ajh:(lo+n)*ag.size α<=xs.length*ag.size α:=gp _ aG
 rw[lG]at ajh
 have am1:xs.length*ag.size α<=cap*ag.size α:=gp _ g2
 refine⟨_,rfl,?_,by rw[hlen];exact g2,g3,?_⟩
 ·simp only[BG,fR,fB,fg,jh];omega
 rw[hlen,List.toList_toArray]
 have g5:=R0 (lo:=lo) g4 Eg (by simpa using aG)
 have e:(fR cs.toList (lo*ag.size α) D).take (xs.length*ag.size α)=(cs.toList.take (xs.length*ag.size α)).take (lo*ag.size α)++D++(cs.toList.take (xs.length*ag.size α)).drop (lo*ag.size α+D.length):=by
  have az:(cs.toList.take (lo*ag.size α)).length=lo*ag.size α:=by rw[fg];omega
  have a8:(cs.toList.take (lo*ag.size α)++D).length=lo*ag.size α+D.length:=by rw[fB,az]
  rw[fR,FV,a8,qS (by omega),p8,nk (by omega),tg]
 rw[e]
 simpa[sq]using g5
def bA.share{a:Act}{W:bc}(s:bA c E L a W){i fq p:Nat}{α:Type}[ag α]{z:α}(ao:look E fq=some (.eq (.pointer (some ⟨p,0,none⟩))))(ar:L[i]? =some ⟨some p,.var z⟩):bA c ((fq,.ptr z)::E) (L.set i ⟨none,.dead⟩) a W:=by
 have hk:=s.kill i;refine {hk with env:=λt τ eI=>?_};simp only[look]at eI;by_cases e:Nat.beq fq t=true
 ·rw[e]at eI;simp only[cond_true,fC]at eI;subst eI;have:=eO.1 e;subst this;obtain⟨v,h1,ad⟩:=s.env fq _ ao;have k2:v=_:=ad;subst k2;obtain⟨o,eH,cs,T,rfl,aC⟩:=s.own _ (er ar);have hlen:cs.toList.length=ag.size α:=ag.len aC;refine⟨_,h1,p,0,cs,T,(0,0),rfl,s.CR ar,eH,by simp at hlen;omega,?_⟩;rw[th,<-hlen,l7];have mn:=zs (L:=L) (i:=i) (cp:=.dead);exact ag.mono (.drop λk hm=>by
   rcases bX.1 hm with hm|hm
   ·exact bX.2 (.inl (mn.subset hm))
   exact bX.2 (.inr hm)) aC
 simp only[kN]at e;rw[e]at eI;exact hk.env t τ eI
def ae.share{l:aa Oper}{p:Nat}{α:Type}[ag α]{z:α}(i fq:Nat)(ao:look E fq=some (.eq (.pointer (some ⟨p,0,none⟩))))(ar:L[i]? =some ⟨some p,.var z⟩)(k:ae c ops Q l ((fq,.ptr z)::E) (L.set i ⟨none,.dead⟩)):ae c ops Q l E L:=
 λa W s=>k a W (s.share ao ar)
def xm{α β:Type}[ag α][ag β]{F:α->av β}{f:FuncId}{xs:aa bO}{τs:aa J}(bU:bx c.P f)(al:gZ c E L xs τs)(h:∀x r,F x=some r->cn c.P f (.of x::τs) (.of r)):
 ba c E L ⟨d,.makeFunc (.func f) #[] xs.toArray,ty,pos,af,g⟩ (.rv c.P F):=.pure λa W s=>by
 have ch:=al.holds a W s
 refine⟨.func (.func f) #[] (xs.map a.eval).toArray,by simp[execOp,Instr.makeFunc],f,_,_,rfl,bU,λcg W' e eo x r my kp a7=>?_⟩
 simpa using h x r kp cg W' (my::xs.map a.eval) eo (.cons a7 (ch.mono e))
def J.Flat(τ:J):Prop:=∀A W cg W' v,τ.holds A W v->τ.holds cg W' v
def G5{b:Bool}:(J.of b).Flat:=λ_ _ _ _ _ h=>h
def xf{b:Int}:(J.of b).Flat:=λ_ _ _ _ _ h=>h
def ba.VK{o:Oper}{τ:J}{T cap:Nat}{key:av Nat}{α:Type}[ag α]{xs:aa α}(i s:Nat)(ao:look E s=some (.eq (aZ key xs.length cap)))(ar:L[i]? =some ⟨key,.row T xs cap⟩)(aU:τ.Flat)
 (h:ba c ((s,.of xs)::E) (L.set i ⟨none,.dead⟩) o τ):ba c E L o τ:=λa W st=>by
 have:=h a W (st.freeze ao ar)
 unfold gz at this⊢
 exact tk (λgQ W' ⟨v,h1,ad,ay⟩=>⟨v,h1,ad,aU _ _ _ _ _ ay⟩) this
def J.V2{α:Type}(xs:aa α):J where
 holds _ _ v:=∃b:Bool,v=.bool b∧(b=true->xs=[])
 mono _ h:=h
def Ry{P:Program}{e:bo}(W:bc)(d:Nat){t:bo}(a:av Addr)(l cp:Nat)(h:P.underlying t=some (.slice e)):(Op.equalIn (d+1) t (.slice a l cp) (.slice none 0 0)).run P W=.ok a.isNone W:=by
 cases a <;> simp[Op.equalIn,dn h]
def Uh{α:Type}[ag α]{xs:aa α}{e:bo}(hu:c.P.underlying t=some (.slice e))(al:aL c E L x (.of xs)):ba c E L ⟨d,.binOp .eql t x (.const (.slice none 0 0)) t2,ty,pos,af,g⟩ (.V2 xs):=.pure λa W s=>by
 have aG:a.eval (.const (.slice none 0 0))=.slice none 0 0:=rfl;rcases n1.1 (al a W s)with⟨h1,rfl⟩|⟨b,off,cap,cur,T,hQ,h1,ad⟩
 ·exact⟨.bool true,by
   simp only[execOp,eqGuard,binOp,h1,aG,Op.equal,Op.maxDepth];simp[Ry W 9999 none 0 0 hu],true,rfl,λ_=>rfl⟩
 exact⟨.bool false,by
  simp only[execOp,eqGuard,binOp,h1,aG,Op.equal,Op.maxDepth];simp[Ry W 9999 (some ⟨b,off,none⟩) xs.length cap hu],false,rfl,λh=>by cases h⟩
def ax.Ui{α:Type}{y z:Code}{xs:aa α}(ao:aL c E L x (.V2 xs))(bq:xs=[]->ax c Q y E L)(aU:ax c Q z E L):ax c Q (.cond x y z) E L:=λa W s=>by
 obtain⟨b,h1,ad⟩:=ao a W s;exact wpIn_cond_split h1 (λh=>bq (ad h) a W s) (λ_=>aU a W s)
end
def ew(c:bW)(ops:Array Oper)(Q:Exit->Act->bc->Prop)(f:Nat)(bQ:Array Bool)(E:aa (Nat×J))(L:aa aA):Prop:=
 ∀a W,bA c E L a W->wpAnyIn c.F 9 c.P .any ops Q f bQ a W
def nN(K:Act->bc->Prop)(Q:Exit->Act->bc->Prop):Exit->Act->bc->Prop
 | .normal,a,W=>K a W
 |x,a,W=>Q x a W
def V3:Nat->Nat->aa Bool
 |0,_=>[]
 |n+1,k=>Nat.beq (k % 2) 1::V3 n (k/2)
def mm(n k:Nat):Array Bool:=Array.mk (V3 n k)
section
variable{c:bW}{E:aa (Nat×J)}{L:aa aA}{ops:Array Oper}{Q:Exit->Act->bc->Prop}
def Oper.abE{F:Fence}{n:Nat}{P:Program}{o:Oper}{a:Act}{K:Act->bc->Prop}{r:Result Next}(h:o.uponIn F n P a K (nN K Q) r):o.uponIn F n P a K Q r:=by
 cases r with
 | ok m ps=>
   cases m <;> simp only[Oper.uponIn]at h⊢ <;>
    first
     |exact h
     |exact⟨h.1,CallsIn.mono h.2 (λe sT he=>by cases e <;> exact he)⟩
     |exact⟨h.1,RoundIn.mono h.2 (λe sT he=>by cases e <;> exact he)⟩
 |halt x ps=>cases x <;> simp only[Oper.uponIn]at h⊢ <;> exact h
def Lc{i:Nat}{o:Oper}{K:Act->bc->Prop}{a:Act}{W:bc}(aw:ops[i]? =some o)(h:c.rE ops (nN K Q) [o] a W):wpOpIn c.F 9 c.P ops Q i K a W:=by
 unfold wpOpIn;simp only[aw];simp only[bW.rE,wpListIn]at h;split
 ·rename_i hw;rw[bm hw]at h;exact⟨h.1,Oper.abE h.2⟩
 rename_i hw;rw[bk hw]at h;exact h
def Dh(c:bW)(ops:Array Oper)(Q:Exit->Act->bc->Prop)(f:Nat)(bQ:Array Bool)(E:aa (Nat×J))(L:aa aA):aa Nat->Prop
 |[]=>True
 |i::r=>(∃o,ops[i]? =some o∧ae c ops (nN (wpAnyIn c.F 9 c.P .any ops Q f (bQ.setIfInBounds i true)) Q) [o] E L)∧Dh c ops Q f bQ E L r
def Dh.get{f:Nat}{bQ:Array Bool}:∀{Bb:aa Nat},Dh c ops Q f bQ E L Bb->∀i∈Bb,∃o,ops[i]? =some o∧ae c ops (nN (wpAnyIn c.F 9 c.P .any ops Q f (bQ.setIfInBounds i true)) Q) [o] E L
 | _::_,h,i,aw=>by
   rcases dB.1 aw with rfl|aw
   ·exact h.1
   exact Dh.get h.2 i aw
def ew.step{f:Nat}{bQ:Array Bool}(Bb:aa Nat)(aC:Region.ready .any ops bQ=Bb)(cR:Bb.isEmpty=false)(h:Dh c ops Q f bQ E L Bb):ew c ops Q (f+1) bQ E L:=λa W s=>
 ⟨λbw=>(by rw[<-aC,bw]at cR;exact absurd cR (by simp)),λi aw=>(by
  rw[aC]at aw;obtain⟨o,h1,ad⟩:=h.get i aw;exact Lc h1 (ad a W s))⟩
def ew.le{f:Nat}{bQ:Array Bool}{E':aa (Nat×J)}(h:eb E E')(k:ew c ops Q f bQ E' L):ew c ops Q f bQ E L:=λa W s=>k a W (s.less h.look)
def aq.any{f:Nat}{bQ q1:Array Bool}(ao:bQ=q1)(k:ew c ops Q f q1 E L):aq c (nN (wpAnyIn c.F 9 c.P .any ops Q f bQ) Q) .normal E L:=λa W s=>by
 subst ao;exact k a W s
def aq.ir{f:Nat}{bQ q1:Array Bool}{E':aa (Nat×J)}(k:ew c ops Q f q1 E' L)(h:eb E E':=by repeat (first|exact eb.nil|refine eb.same I ?_))(ao:bQ=q1:=by kernel_rfl):aq c (nN (wpAnyIn c.F 9 c.P .any ops Q f bQ) Q) .normal E L:=.any ao (.le h k)
def ax.agE{jH:Nat}{l:aa Oper}(hm:c.P.follows .mixedOrders=true)(n:Nat)(ls:Array Bool)(aG:l.length=n)(Eh:Array.replicate n false=ls)(h:ew c l.toArray Q n ls E L):ax c Q (.region jH l.toArray true) E L:=λa W s=>by
 subst aG Eh;refine wpIn_region_any hm ?_;have:=h a W.drew (s.world (Fr.drew W));simpa using this
end
section
variable{c:bW}{E:aa (Nat×J)}{L:aa aA}{ops:Array Oper}{Q:Exit->Act->bc->Prop}
variable{d:av Tmp}{ty:bo}{pos:String}{af:Array Edge}{g:av (Nat×Bool)}{x y:bO}{t t2:bo}
def ae.rh{α:Type}[ag α]{rest:aa Oper}{aV e n:Nat}{z:α}{r:aa α}{dj:aa (Nat×bO)}(hu:c.P.underlying t=some (.slice e))(dO:bG c.P e α)(fP:cN c.P e z)(hs:Nat.beq (ag.size α) 0=false)(aG:Nat.ble (n*ag.size α) 16777216=true)
 (aU:nw c E L (List.replicate n z) dj r) (iQ:Nat.blt aV c.n=true) (k:∀p,ae c ops Q rest ((aV,.eq (aZ p r.length n))::E) (⟨p,.row e r n⟩::L)):
 ae c ops Q (⟨some aV,.buildSlice t n dj.toArray,ty,pos,af,none⟩::rest) E L:=λa W s=>by
 obtain⟨fG,dk,dv,b4,sV⟩:=fP.zero
 have om:fG.size=ag.size α:=by
  obtain⟨i2,h1,ad⟩:=dO.info;rw[dv]at h1;cases h1;exact ad
 have iA:ag.size α≠0:=λh=>by rw[h]at hs;cases hs
 have rG:=CM (sV (ks L++c.bL) W) n iA
 obtain⟨dY,ay,aN,a6⟩:=aU.run a W s _ rG
 have hlen:r.length=n:=by rw[a6];simp
 have hm:(dj.toArray.map λ(x:Nat×bO)=>(x.1,a.eval x.2)).toList=dj.map λ(i,x)=>(i,a.eval x):=by simp
 have ajc:=ni aG
 refine hl I (R:=λv W'=>v=.slice (some ⟨W.heap.size,0,none⟩) n n∧W'=W.alloc (.cells dY e)) (.lj (v:=.slice (some ⟨W.heap.size,0,none⟩) n n) (W':=W.alloc (.cells dY e)) ?_ ⟨rfl,rfl⟩) λv W' ⟨h1,ad⟩=>?_
 ·simp only[execOp,Instr.buildSlice,df,dn hu,Result.andThen_ok,Go.sizeOf,typeInfo,run_program,dv,Sem.run_pure,om]
  rw[bk (by omega)]
  try simp only[Sem.run_pure,Result.andThen_ok,df]
  by_cases bw:n*ag.size α=0
  ·have sU:n=0:=by
    rcases Nat.mul_eq_zero.1 bw with h|h
    ·exact h
    exact absurd h iA
   subst sU
   simp only[wQ,kO,Sem.run_pure,Result.andThen_ok]
   try simp only[wQ]at ay
   have gn:((Array.range 0).map (λx=>(#[]:Array bd)[x % (#[]:Array bd).size]!))=((Array.range 0).map (dk.cells[· % dk.cells.size]!)):=by simp
   simp only[pure_bind]
   rw[gn,hm,ay]
   simp[newRow]
  simp only[bw,mK,df,zeroValue,typeInfo,run_program,Result.andThen_ok,dv,b4,Sem.run_pure]
  rw[hm,ay]
  simp[newRow]
 subst h1 ad
 have vr:n<=maxLen:=by
  have:n*1<=n*ag.size α:=FE _ (by omega);have:maxLen=9223372036854775807:=rfl;omega
 have da:dY.size=n*ag.size α:=by have:=aN.1;rw[hlen]at this;simpa using this
 have b1:=s.alloc (o:=.cells dY e) (cp:=.row e r n) ⟨dY,rfl,da,by omega,vr,by
  have bh:=aN.1;rw[<-bh,l7];exact aN⟩
 refine k (some W.heap.size) _ _ (b1.put (τ:=.eq (aZ (some W.heap.size) r.length n)) (by simpa using iQ) ?_)
 show _=_
 rw[hlen];rfl
def ae.mg{l:aa Oper}{key:av Nat}{n m cap:Nat}(fq:Nat)(ao:look E fq=some (.eq (aZ key n cap)))(aG:n=m)(k:ae c ops Q l ((fq,.eq (aZ key m cap))::E) L):ae c ops Q l E L:=λa W s=>by
 subst aG;refine k a W (s.less λt τ h=>?_);simp only[look]at h;by_cases e:Nat.beq fq t=true
 ·rw[e]at h;simp only[cond_true]at h;have:=eO.1 e;subst this;exact⟨τ,by rw[ao,h],λ_ _ _ h=>h⟩
 simp only[kN]at e;rw[e]at h;exact⟨τ,h,λ_ _ _ h=>h⟩
end
def mN{α:Type}{xs r:aa α}{k:Nat}{v:α}(h:fi xs k v=r):xs.length=r.length:=by rw[<-h];simp[fi]
def RT{α:Type}{b:Nat}{r:aa α}(h:((fv b [] ([]:aa α)).bind λy=>some y)=some r):r=[]:=by
 obtain⟨y,h1,ad⟩:=bind_some h;obtain⟨_,_,ay⟩:=RX h1;rw[ay]at ad;exact(dh ad).symm
def kA:bd:=.slice none 0 0
def blank:aa (Nat×bd)->aa bd->aa bd
 |[],cs=>cs
 |o::r,cs=>blank r (cs.set o.1 kA)
def CF:∀{os:aa (Nat×bd)} {cs:aa bd},(blank os cs).length=cs.length
 |[],_=>rfl
 |o::r,cs=>by rw[blank,CF,sc]
def sg:∀{os:aa (Nat×bd)} {cs:aa bd} (i:Nat),(blank os cs)[i]? =if os.any (λh=>Nat.beq h.1 i)=true then cs[i]?.map (λ_=>kA)else cs[i]?
 |[],_,i=>by simp[blank]
 | o::r,cs,i=>by
   rw[blank,sg i,List.any_cons];by_cases h:o.1=i
   ·subst h;simp only[ma,KK,kO,nR];by_cases ao:o.1<cs.length
    ·simp[ao]
    simp[ao]
   have hb:Nat.beq o.1 i=false:=by
    cases hb:Nat.beq o.1 i
    ·rfl
    exact absurd (eO.1 hb) h
   rw[hb,tj,uI h]
def sv(os:aa (Nat×bd))(off n:Nat):Bool:=os.all λh=>Nat.blt h.1 off||Nat.ble (off+n) h.1
def Rz{os:aa (Nat×bd)}{off n i:Nat}(h:sv os off n=true)(h1:off<=i)(ad:i<off+n):os.any (λh=>Nat.beq h.1 i)=false:=by
 rw[uJ];intro x al hb;have ay:=mG.1 h x al;have aN:=eO.1 hb;simp only[nT,Nat.blt_eq,Nat.ble_eq]at ay;omega
def abF{os:aa (Nat×bd)}{off n:Nat}{cs:aa bd}(h:sv os off n=true):((blank os cs).drop off).take n=(cs.drop off).take n:=by
 apply k6;intro i;simp only[jN,kM];split
 ·rw[sg,Rz h (by omega) (by omega)];rfl
 rfl
def w7{cs ds:aa bd}{off:Nat}(h:off+ds.length<=cs.length)(i:Nat):(fR cs off ds)[i]? =if i<off then cs[i]? else if i<off+ds.length then ds[i-off]? else cs[i]? :=by
 have h1:(cs.take off).length=off:=by rw[fg];omega
 unfold fR;rw[h3];by_cases aw:i<off
 ·rw[bm aw,JD (by omega),jN,bm aw]
 rw[bk aw,PI (by omega),h1];by_cases ad:i<off+ds.length
 ·rw[bm ad,JD (by omega)]
 rw[bk ad,PI (by omega),kM];congr 1;omega
def aaz{os:aa (Nat×bd)}{off:Nat}{cs ds:aa bd}(h:sv os off ds.length=true)(hs:off+ds.length<=cs.length):blank os (fR cs off ds)=fR (blank os cs) off ds:=by
 apply k6;intro i;rw[sg,w7 hs,w7 (by rw[CF];exact hs),sg];by_cases h1:i<off
 ·simp only[bm h1]
 simp only[bk h1];by_cases ad:i<off+ds.length
 ·simp only[bm ad,Rz h (Nat.not_lt.1 h1) ad];rfl
 simp only[bk ad]
def u5(os:aa (Nat×bd))(o:Nat)(u:bd):aa (Nat×bd):=
 bif os.any (λh=>Nat.beq h.1 o)then os.map (λh=>bif Nat.beq h.1 o then(o,u)else h)else(o,u)::os
def aaM{os:aa (Nat×bd)}{o:Nat}{u:bd}{h:Nat×bd}(hm:h∈u5 os o u):h=(o,u)∨(h∈os∧h.1≠o):=by
 unfold u5 at hm;cases hb:os.any (λh=>Nat.beq h.1 o)
 ·rw[hb]at hm;simp only[cond_false]at hm;rcases dB.1 hm with hm|hm
  ·exact .inl hm
  refine .inr ⟨hm,λe=>?_⟩;have:=uJ.1 hb h hm;exact this (eO.2 e)
 rw[hb]at hm;simp only[cond_true]at hm;obtain⟨x,al,he⟩:=gH.1 hm;cases h1:Nat.beq x.1 o
 ·rw[h1]at he;simp only[cond_false]at he;subst he;exact .inr ⟨al,λe=>by rw[eO.2 e]at h1;cases h1⟩
 rw[h1]at he;exact .inl he.symm
def aaN{os:aa (Nat×bd)}{o i:Nat}{u:bd}:(u5 os o u).any (λh=>Nat.beq h.1 i)=(Nat.beq o i||os.any (λh=>Nat.beq h.1 i)):=by
 unfold u5;cases hb:os.any (λh=>Nat.beq h.1 o)
 ·simp only[cond_false,List.any_cons]
 simp only[cond_true,List.any_map];rw[mI,nT,nj,nj];constructor
 ·rintro ⟨x,al,he⟩;simp only[Function.comp]at he;cases h1:Nat.beq x.1 o
  ·rw[h1]at he;exact .inr ⟨x,al,he⟩
  rw[h1]at he;exact .inl he
 rintro (h|⟨x,al,he⟩)
 ·obtain⟨x,al,h1⟩:=nj.1 hb;exact⟨x,al,by simp only[Function.comp,h1,cond_true];exact h⟩
 refine⟨x,al,?_⟩;simp only[Function.comp];cases h1:Nat.beq x.1 o
 ·exact he
 have az:=eO.1 h1;have a8:=eO.1 he;simp only[cond_true];exact eO.2 (by omega)
def sl(os:aa (Nat×bd))(o:Nat):aa (Nat×bd):=os.filter (λh=> !Nat.beq h.1 o)
def aaO{os:aa (Nat×bd)}{o i:Nat}:(sl os o).any (λh=>Nat.beq h.1 i)=(!(Nat.beq o i)&&os.any (λh=>Nat.beq h.1 i)):=by
 rw[mI];simp only[nj,gJ,wB,sl,sd];constructor
 ·rintro ⟨x,⟨h1,ad⟩,ay⟩;refine⟨?_,x,h1,ay⟩;cases hb:Nat.beq o i
  ·rfl
  have:=eO.1 hb;have aN:=eO.1 ay;rw[aN,<-this,ma]at ad;cases ad
 rintro ⟨bw,x,h1,ay⟩;refine⟨x,⟨h1,?_⟩,ay⟩;cases hb:Nat.beq x.1 o
 ·rfl
 have:=eO.1 hb;have aN:=eO.1 ay;rw[<-this,aN,ma]at bw;cases bw
def lN{α:Type}[ag α](A:aa Nat)(W:bc)(cs:aa bd)(x:α)(os:aa (Nat×bd)):Prop:=ag.rep A W (blank os cs) x∧∀h∈os,cs[h.1]? =some h.2∧h.2.oneCell'=true
def lN.len{α:Type}[ag α]{A W}{cs:aa bd}{x:α}{os:aa (Nat×bd)}(h:lN A W cs x os):cs.length=ag.size α:=by rw[<-CF (os:=os)];exact ag.len h.1
def lN.mono{α:Type}[ag α]{A W cg W'}{cs:aa bd}{x:α}{os:aa (Nat×bd)}(e:Ext A W cg W')(h:lN A W cs x os):lN cg W' cs x os:=⟨ag.mono e h.1,h.2⟩
def lN.one{α:Type}[ag α]{A W}{cs:aa bd}{x:α}{os:aa (Nat×bd)}(h:lN A W cs x os):∀u∈cs,u.oneCell'=true:=by
 intro u hu;obtain⟨i,aw⟩:=mE.1 hu;by_cases hb:os.any (λh=>Nat.beq h.1 i)=true
 ·obtain⟨o,aS,he⟩:=nj.1 hb;have he:=eO.1 he;obtain⟨h1,ad⟩:=h.2 o aS;rw[he,aw]at h1;cases h1;exact ad
 have h1:=sg (os:=os) (cs:=cs) i;rw[bk hb,aw]at h1;exact ag.one h.1 u (er h1)
def dN.ck{α:Type}[ag α](x:α)(os:aa (Nat×bd)):dN where
 holds A W o:=∃cs T,o=.cells cs T (0,0)∧lN A W cs.toList x os
 nA:=False
 mono e h:=let⟨cs,T,aS,aC⟩:=h; ⟨cs,T,aS,aC.mono e⟩
def J.I1{α:Type}[ag α](x:α)(os:aa (Nat×bd)):J where
 holds A W v:=shaped (ag.agg α) v∧lN A W v.cells.toList x os
 mono e h:=⟨h.1,h.2.mono e⟩
structure dL where
 v:Value
instance:ag dL where
 size:=1
 agg:=false
 rep _ _ cs x:=cs=[x.v]∧x.v.oneCell'=true
 len h:=by rw[h.1];rfl
 one h:=by rw[h.1];intro u hu;rw[gG.1 hu];exact h.2
 flat _:=rfl
 mono _ h:=h
def vl{A W v}{u:bd}:(J.of (⟨u⟩:dL)).holds A W v↔v=u∧u.oneCell'=true:=by
 constructor
 ·rintro ⟨h1,ad,ay⟩;have h1:v.oneCell'=true:=h1;exact⟨mM h1 ad,ay⟩
 rintro ⟨rfl,h⟩;exact⟨h,by show v.cells.toList=[v]∧_;rw[cells_one h];exact⟨rfl,h⟩⟩
theorem bG.ex{P:Program}{t:bo}{γ:Type}[ag γ](h:bG P t (aa γ)):bG P t dL:=⟨h.size,h.WT⟩
def iI{key:av Nat}{n cap:Nat}:(aZ key n cap).oneCell'=true:=by cases key <;> rfl
def adq{A W}{γ:Type}[ag γ]:ag.rep A W [kA] ([]:aa γ):=⟨kA,rfl,.inl ⟨rfl,rfl⟩⟩
def St{α γ:Type}[ag α][ag γ]{A W}{cs ds:aa bd}{x:α}{v:γ}{os:aa (Nat×bd)}(l:aO α γ)(h:lN A W cs x os)(hd:ag.rep A W ds v)(a1:sv os l.off (ag.size γ)=true):lN A W (fR cs l.off ds) (l.set x v) os:=by
 have h1:=h.len;have fV:=l.gk;have ao:=ag.len hd;refine⟨?_,λo hm=>?_⟩
 ·have bh:=l.mc h.1 hd;rw[aaz (by rw[ao];exact a1) (by rw[ao];omega)];simpa[fR,ao]using bh
 refine⟨?_,(h.2 o hm).2⟩;rw[w7 (by rw[ao];omega)];have cH:=mG.1 a1 o hm;simp only[nT,Nat.blt_eq,Nat.ble_eq]at cH;rw[ao];by_cases ed:o.1<l.off
 ·rw[bm ed];exact(h.2 o hm).1
 rw[bk ed,bk (by omega)];exact(h.2 o hm).1
def R1{α γ:Type}[ag α][ag γ]{A W}{cs:aa bd}{x:α}{u:bd}{os:aa (Nat×bd)}(l:aO α (aa γ))(h:lN A W cs x os)(hu:u.oneCell'=true):lN A W (fR cs l.off [u]) (l.set x []) (u5 os l.off u):=by
 have h1:=h.len;have fV:l.off+1<=ag.size α:=l.gk;refine⟨?_,λo hm=>?_⟩
 ·have bh:ag.rep A W ((blank os cs).take l.off++[kA]++(blank os cs).drop (l.off+1)) (l.set x []):=l.mc h.1 (adq (γ:=γ));have e:blank (u5 os l.off u) (fR cs l.off [u])=fR (blank os cs) l.off [kA]:=by
   apply k6;intro i;rw[sg,w7 (by simp;omega),w7 (by rw[CF];simp;omega),sg];rw[aaN];by_cases aw:l.off=i
   ·subst aw;simp
   have hb:Nat.beq l.off i=false:=by
    cases hb:Nat.beq l.off i
    ·rfl
    exact absurd (eO.1 hb) aw
   rw[hb];simp only[tj,List.length_singleton];by_cases ad:i<l.off
   ·simp only[bm ad]
   have e5: ¬i<l.off+1:=by omega
   simp only[bk ad,bk e5]
  rw[e];simpa[fR]using bh
 rw[w7 (by simp;omega)];rcases aaM hm with rfl|⟨ay,cR⟩
 ·exact⟨by simp,hu⟩
  
 simp only[List.length_singleton]
 refine⟨?_,(h.2 o ay).2⟩
 by_cases ed:o.1<l.off
 ·rw[bm ed];exact(h.2 o ay).1
 rw[bk ed,bk (by omega)];exact(h.2 o ay).1
def R2{α γ:Type}[ag α][ag γ]{A W}{cs:aa bd}{x:α}{u:bd}{xs:aa γ}{os:aa (Nat×bd)}(l:aO α (aa γ))(h:lN A W cs x os)(hm:(l.off,u)∈os)(hs:pw A W u xs):lN A W cs (l.set x xs) (sl os l.off):=by
 have h1:=h.len;have fV:l.off+1<=ag.size α:=l.gk;have ak0:=(h.2 _ hm).1;refine⟨?_,λo aS=>h.2 o (sd.1 aS).1⟩;have bh:ag.rep A W ((blank os cs).take l.off++[u]++(blank os cs).drop (l.off+1)) (l.set x xs):=l.mc h.1 (ds:=[u]) (g:=xs) ⟨u,rfl,hs⟩;have e:blank (sl os l.off) cs=fR (blank os cs) l.off [u]:=by
  apply k6;intro i;rw[sg,w7 (by rw[CF];simp;omega),sg,aaO];by_cases aw:l.off=i
  ·subst aw;simp[ak0]
  have hb:Nat.beq l.off i=false:=by
   cases hb:Nat.beq l.off i
   ·rfl
   exact absurd (eO.1 hb) aw
  rw[hb];simp only[Bool.not_false,wM,List.length_singleton];by_cases ad:i<l.off
  ·simp only[bm ad]
  have e5: ¬i<l.off+1:=by omega
  simp only[bk ad,bk e5]
 rw[e];simpa[fR]using bh
section
variable{c:bW}{E:aa (Nat×J)}{L:aa aA}{ops:Array Oper}{Q:Exit->Act->bc->Prop}
variable{d:av Tmp}{ty:bo}{pos:String}{af:Array Edge}{g:av (Nat×Bool)}{x y:bO}{t t2:bo}
def bA.z1{a:Act}{W:bc}(s:bA c E L a W){i:Nat}{key:av Nat}{cp cp':dN}(ar:L[i]? =some ⟨key,cp⟩)(h:∀o,cp.holds (ks L++c.bL) W o->cp'.holds (ks L++c.bL) W o)(aG:cp.nA->cp'.nA):bA c E (L.set i ⟨key,cp'⟩) a W:=by
 have fz:ks (L.set i ⟨key,cp'⟩)=ks L:=HH (e:=⟨key,cp⟩) (cp:=cp') ar;exact
 {defers:=s.defers
  size:=s.size
  env:=λt τ ao=>by rw[fz];exact s.env t τ ao
  cW:=s.cW
  own:=λe he=>by
   rw[fz];obtain⟨j,aD⟩:=mE.1 he;rw[nR]at aD;split at aD
   ·split at aD
    ·simp only[fC]at aD;subst aD;have aS:=s.own _ (er ar);cases key with
     |none=>exact aG aS
     |some p=>obtain⟨o,h1,ad⟩:=aS;exact⟨o,h1,h _ ad⟩
    cases aD
   exact s.own e (er aD)
  nodup:=by rw[fz];exact s.nodup
  lt:=by rw[fz];exact s.lt
  fa:=by rw[fz];exact s.fa
  dK:=by rw[fz];exact s.dK}
def ae.akT{l:aa Oper}{p:Nat}{β:Type}[ag β]{b:β}(i:Nat)(ar:L[i]? =some ⟨some p,.var b⟩)(k:ae c ops Q l E (L.set i ⟨some p,.ck b []⟩)):ae c ops Q l E L:=λa W s=>
 k a W (s.z1 ar (λo ⟨cs,T,h1,ad⟩=>⟨cs,T,h1,ad,λ_ h=>by cases h⟩) id)
def ae.ql{l:aa Oper}{p:Nat}{β:Type}[ag β]{b:β}(i:Nat)(ar:L[i]? =some ⟨some p,.ck b []⟩)(k:ae c ops Q l E (L.set i ⟨some p,.var b⟩)):ae c ops Q l E L:=λa W s=>
 k a W (s.z1 ar (λo ⟨cs,T,h1,ad⟩=>⟨cs,T,h1,ad.1⟩) id)
def aq.ql{z:Exit}{p:Nat}{β:Type}[ag β]{b:β}(i:Nat)(ar:L[i]? =some ⟨some p,.ck b []⟩)(k:aq c Q z E (L.set i ⟨some p,.var b⟩)):aq c Q z E L:=λa W s=>
 k a W (s.z1 ar (λo ⟨cs,T,h1,ad⟩=>⟨cs,T,h1,ad.1⟩) id)
def MD:av bd->Bool
 |some (.slice none 0 0)=>true
 |_=>false
def RA{v:av bd}(h:MD v=true):v=some kA:=by
 unfold MD at h;split at h
 ·rfl
 cases h
def jz(P:Program)(t:bo)(hs:aa Nat):Prop:=((P.info? t).bind (·.zero)).any (λv=>hs.all λo=>MD v.cells.toList[o]?)=true
def Ll:∀{os:aa (Nat×bd)} {cs:aa bd},(∀h∈os,cs[h.1]? =some kA)->blank os cs=cs
 |[],_,_=>rfl
 | o::r,cs,h=>by
   have h1:=h o (by simp);have e:cs.set o.1 kA=cs:=by
    apply k6;intro i;rw[nR];split
    ·rename_i he;subst he;have:=(fY.1 h1).1;rw[bm this,h1]
    rfl
   rw[blank,e];exact Ll λx al=>h x (by simp[al])
def ae.qg{rest:aa Oper}{aV:Nat}{α:Type}[ag α]{z:α}(hs:aa Nat)(uv:jz c.P t hs)(fP:cN c.P t z)(aG:Nat.blt aV c.n=true)
 (k:∀p,ae c ops Q rest ((aV,.eq (.pointer (some ⟨p,0,none⟩)))::E) (⟨some p,.ck z (hs.map λo=>(o,kA))⟩::L)):ae c ops Q (⟨some aV,.alloc t,ty,pos,af,none⟩::rest) E L:=λa W s=>by
 obtain⟨i,dk,h1,ad,ay⟩:=fP.zero
 have ch:∀o∈hs,dk.cells.toList[o]? =some kA:=λo aS=>by
  unfold jz at uv;rw[h1]at uv;simp only[Option.bind_some,ad,Option.any_some]at uv;exact RA (mG.1 uv o aS)
 have WY:∀h∈hs.map (λo=>(o,kA)),dk.cells.toList[h.1]? =some h.2:=λh hm=>by
  obtain⟨o,aS,rfl⟩:=gH.1 hm;exact ch o aS
 refine hl I (R:=λv W'=>v=.pointer (some ⟨W.heap.size,0,none⟩)∧W'=W.alloc (.cells dk.cells t)) (.lj ?_ ⟨rfl,rfl⟩) λv W' ⟨a7,hw⟩=>?_
 ·simp[execOp,Instr.alloc,zeroValue,typeInfo,h1,ad,newVar,newRow]
 subst a7
 subst hw
 refine k _ _ _ ((s.alloc (cp:=.ck z (hs.map λo=>(o,kA))) ⟨dk.cells,t,rfl,?_,λh hm=>⟨WY h hm,by obtain⟨o,_,rfl⟩:=gH.1 hm;rfl⟩⟩).put (by simpa using aG) I)
 rw[Ll λh hm=>by rw[WY h hm];obtain⟨o,_,rfl⟩:=gH.1 hm;rfl]
 exact(ay _ _).2
def ae.Vo{rest:aa Oper}{aV:Nat}{α:Type}[ag α]{z:α}{os:aa (Nat×bd)}(al:aL c E L x (.I1 z os))(aG:Nat.blt aV c.n=true)
 (k:∀p,ae c ops Q rest ((aV,.eq (.pointer (some ⟨p,0,none⟩)))::E) (⟨some p,.ck z os⟩::L)):ae c ops Q (⟨some aV,.box t x,ty,pos,af,none⟩::rest) E L:=λa W s=>by
 refine hl I (R:=λv W'=>v=.pointer (some ⟨W.heap.size,0,none⟩)∧W'=W.alloc (.cells (a.eval x).cells t)) (.lj ?_ ⟨rfl,rfl⟩) λv W' ⟨a7,hw⟩=>?_
 ·simp[execOp,Instr.box,newVar,newRow]
 subst a7
 subst hw
 obtain⟨h1,ad⟩:=al a W s
 exact k _ _ _ ((s.alloc (cp:=.ck z os) ⟨_,t,rfl,ad⟩).put (by simpa using aG) I)
def Hg{t:bo}{i p o:Nat}{β γ:Type}[ag β][ag γ]{b:β}{os:aa (Nat×bd)}(l:aO β γ){r:γ}(dx:bG c.P t γ)(al:aL c E L x (.eq (.pointer (some ⟨p,o,none⟩))))
 (ar:L[i]? =some ⟨some p,.ck b os⟩) (aS:o=l.off) (aC:l.get b=r) (a1:sv os l.off (ag.size γ)=true):ba c E L ⟨d,.load t x,ty,pos,af,g⟩ (.of r):=.pure λa W s=>by
 subst aS
 subst aC
 obtain⟨pv,eH,cs,T,rfl,fU⟩:=s.own _ (er ar)
 have h1:cs.toList.length=ag.size β:=fU.len
 have a6:=l.iJ fU.1
 rw[abF a1]at a6
 obtain⟨v,ad,ay⟩:=wW (A:=ks L++c.bL) dx eH (by have:=l.gk;simp at h1;omega) a6
 refine⟨v,?_,ay⟩
 have aN:a.eval x=_:=al a W s
 simp[execOp,Instr.loadAt,Instr.sureAddr,aN,ad]
def adr{cs:aa bd}{o:Nat}{u:bd}(h:cs[o]? =some u):(cs.drop o).take 1=[u]:=by
 apply k6;intro i;rw[jN,kM];cases i with
 |zero=>simpa using h
 |succ i=>simp
def fQ{t:bo}{i p o q:Nat}{β γ:Type}[ag β][ag γ]{b:β}{os:aa (Nat×bd)}{u:bd}(dx:bG c.P t (aa γ))(al:aL c E L x (.eq (.pointer (some ⟨p,o,none⟩))))
 (ar:L[i]? =some ⟨some p,.ck b os⟩) (hq:os[q]? =some (o,u)):ba c E L ⟨d,.load t x,ty,pos,af,g⟩ (.eq u):=.pure λa W s=>by
 obtain⟨pv,eH,cs,T,rfl,fU,ch⟩:=s.own _ (er ar)
 obtain⟨a6,hu⟩:=ch _ (er hq)
 have bS:o<cs.size:=by have:=(fY.1 a6).1;simpa using this
 obtain⟨v,ad,ay⟩:=wW (α:=dL) (x:=⟨u⟩) (A:=ks L++c.bL) dx.ex eH (show o+1<=cs.size by omega) ⟨adr a6,hu⟩
 refine⟨v,?_,(vl.1 ay).1⟩
 have aN:a.eval x=_:=al a W s
 simp[execOp,Instr.loadAt,Instr.sureAddr,aN,ad]
def ae.zU{t:bo}{rest:aa Oper}{i p o:Nat}{β γ:Type}[ag β][ag γ]{b b':β}{v:γ}{os:aa (Nat×bd)}(l:aO β γ)(dx:bG c.P t γ)(al:aL c E L x (.eq (.pointer (some ⟨p,o,none⟩))))
 (hy:aL c E L y (.of v)) (ar:L[i]? =some ⟨some p,.ck b os⟩) (aS:o=l.off) (hb:l.set b v=b') (a1:sv os l.off (ag.size γ)=true)
 (k:ae c ops Q rest E (L.set i ⟨some p,.ck b' os⟩)):ae c ops Q (⟨none,.store t x y,ty,pos,af,none⟩::rest) E L:=λa W s=>by
 subst aS
 subst hb
 obtain⟨pv,eH,cs,T,rfl,fU⟩:=s.own _ (er ar)
 have h1:cs.toList.length=ag.size β:=fU.len
 have fV:=l.gk
 have a7:=hy a W s
 have ad:=GN (A:=ks L++c.bL) dx eH (off:=l.off) (by simp at h1;omega) a7
 have aN:a.eval x=_:=al a W s
 refine hl I (R:=λv W'=>W'=W.setRow p (fR cs.toList l.off (a.eval y).cells.toList).toArray) (.zS ?_ I) λv W' hw=>?_
 ·simp[execOp,Instr.storeAt,Instr.sureAddr,aN,ad]
 subst hw
 exact k _ _ (s.store ar eH ⟨_,T,rfl,by rw[List.toList_toArray];exact St l fU a7.2 a1⟩)
def ae.jS{t:bo}{rest:aa Oper}{i p o:Nat}{β γ:Type}[ag β][ag γ]{b b':β}{u:bd}{os os':aa (Nat×bd)}(l:aO β (aa γ))(dx:bG c.P t (aa γ))(al:aL c E L x (.eq (.pointer (some ⟨p,o,none⟩))))
 (hy:aL c E L y (.eq u)) (hu:u.oneCell'=true) (ar:L[i]? =some ⟨some p,.ck b os⟩) (aS:o=l.off) (hb:l.set b []=b') (pW:u5 os o u=os')
 (k:ae c ops Q rest E (L.set i ⟨some p,.ck b' os'⟩)):ae c ops Q (⟨none,.store t x y,ty,pos,af,none⟩::rest) E L:=λa W s=>by
 subst aS
 subst hb
 subst pW
 obtain⟨pv,eH,cs,T,rfl,fU⟩:=s.own _ (er ar)
 have h1:cs.toList.length=ag.size β:=fU.len
 have fV:l.off+1<=ag.size β:=l.gk
 have WZ:a.eval y=u:=hy a W s
 have a7:(J.of (⟨u⟩:dL)).holds (ks L++c.bL) W (a.eval y):=vl.2 ⟨WZ,hu⟩
 have ad:=GN (A:=ks L++c.bL) dx.ex eH (off:=l.off) (show l.off+1<=cs.size by simp at h1;omega) a7
 have aN:a.eval x=_:=al a W s
 have lv:(a.eval y).cells.toList=[u]:=by rw[WZ,cells_one hu]
 rw[lv]at ad
 refine hl I (R:=λv W'=>W'=W.setRow p (fR cs.toList l.off [u]).toArray) (.zS ?_ I) λv W' hw=>?_
 ·simp[execOp,Instr.storeAt,Instr.sureAddr,aN,ad]
 subst hw
 exact k _ _ (s.store ar eH ⟨_,T,rfl,by rw[List.toList_toArray];exact R1 l fU hu⟩)
def aaa{P:Program}{W:bc}{b off:Nat}{cur:Array bd}{T t:bo}{α:Type}[ag α]{v:bd}(ty:bG P t α)
 (hb:W.heap[b]? =some (.cells cur T (0,0))) (hs:off+ag.size α<=cur.size) (ao:v.cells.toList.length=ag.size α) (h1:∀u∈v.cells.toList,u.oneCell'=true):
 (storeVar t ⟨b,off,none⟩ v).run P W=.ok () (W.setRow b (fR cur.toList off v.cells.toList).toArray):=by
 have ad:=BH P b off T v.cells.toList 0 cur W hb (by rw[ao];omega) h1
 have da:v.cells.size=ag.size α:=by simpa using ao
 simp only[Nat.add_zero]at ad
 simp only[storeVar,df,ty.sizeOf,Result.andThen_ok,da]
 simp only[ne_eq,not_true_eq_false,↓reduceIte,Sem.run_pure,df,Result.andThen_ok]
 simpa[fR]using ad
def ae.tB{t:bo}{rest:aa Oper}{i p:Nat}{β:Type}[ag β]{b b':β}{os os':aa (Nat×bd)}(dx:bG c.P t β)(al:aL c E L x (.eq (.pointer (some ⟨p,0,none⟩))))
 (hy:aL c E L y (.I1 b' os')) (ar:L[i]? =some ⟨some p,.ck b os⟩)
 (k:ae c ops Q rest E (L.set i ⟨some p,.ck b' os'⟩)):ae c ops Q (⟨none,.store t x y,ty,pos,af,none⟩::rest) E L:=λa W s=>by
 obtain⟨pv,eH,cs,T,rfl,fU⟩:=s.own _ (er ar)
 have h1:cs.toList.length=ag.size β:=fU.len
 obtain⟨g1,g2⟩:=hy a W s
 have ao:=g2.len
 have ad:=aaa dx eH (off:=0) (by simp at h1;omega) ao g2.one
 have aN:a.eval x=_:=al a W s
 have e:fR cs.toList 0 (a.eval y).cells.toList=(a.eval y).cells.toList:=by
  unfold fR;rw[List.take_zero,List.nil_append,iS,ao,<-h1,uK,l8]
 rw[e]at ad
 refine hl I (R:=λv W'=>W'=W.setRow p (a.eval y).cells.toList.toArray) (.zS ?_ I) λv W' hw=>?_
 ·simp[execOp,Instr.storeAt,Instr.sureAddr,aN,ad]
 subst hw
 exact k _ _ (s.store ar eH ⟨_,T,rfl,by rw[List.toList_toArray];exact g2⟩)
def kS{p:Addr}(al:aL c E L x (.eq (.pointer (some p)))):ba c E L ⟨d,.nilCheck x,ty,pos,af,g⟩ (.eq (.pointer (some p))):=.pure λa W s=>by
 have aN:a.eval x=_:=al a W s;exact⟨_,by simp[execOp,aN],rfl⟩
def aeu{γ:Type}[ag γ]{r:γ}(al:aL c E L x (.ptr r)):ba c E L ⟨d,.nilCheck x,ty,pos,af,g⟩ (.ptr r):=.pure λa W s=>by
 have hp:=al a W s;obtain⟨b,off,cur,T,hQ,aN,a6⟩:=hp;exact⟨_,by simp[execOp,aN],b,off,cur,T,hQ,rfl,a6⟩
def bA.pM{a:Act}{W:bc}(s:bA c E L a W){i j p cap T:Nat}{key:av Nat}{β γ:Type}[ag β][ag γ]{b b':β}{xs:aa γ}{os os':aa (Nat×bd)}(l:aO β (aa γ))(gD:i≠j)(ar:L[i]? =some ⟨some p,.ck b os⟩)(qN:L[j]? =some ⟨key,.row T xs cap⟩)
 (q:Nat) (hq:os[q]? =some (l.off,aZ key xs.length cap)) (hb:l.set b xs=b') (pW:sl os l.off=os'):bA c E ((L.set j ⟨none,.dead⟩).set i ⟨some p,.ck b' os'⟩) a W:=by
 subst hb
 subst pW
 have hk:=s.kill j
 have aw:(L.set j ⟨none,.dead⟩)[i]? =some ⟨some p,.ck b os⟩:=by rw[uI (λe=>gD e.symm)];exact ar
 have mn:=zs (L:=L) (i:=j) (cp:=.dead)
 have oC:pw (ks (L.set j ⟨none,.dead⟩)++c.bL) W (aZ key xs.length cap) xs:=by
  have aS:=s.own _ (er qN);cases key with
  |none=>exact .inl ⟨rfl,aS.1⟩
  | some p=>
    obtain⟨o,eH,cs,rfl,da,aG,x1,aC⟩:=aS
    obtain⟨ay,aN⟩:=Lg da aG aC
    refine .inr ⟨p,0,cap,cs,T,(0,0),rfl,s.CR qN,eH,aG,by omega,ay,?_⟩
    exact aN.mono (.drop λk hm=>by
     rcases bX.1 hm with hm|hm
     ·exact bX.2 (.inl (mn.subset hm))
     exact bX.2 (.inr hm))
 exact hk.z1 aw (λo ⟨cs,T,h1,ad⟩=>⟨cs,T,h1,R2 l ad (er hq) oC⟩) id
def ae.pM{Fb:aa Oper}{p cap T:Nat}{key:av Nat}{β γ:Type}[ag β][ag γ]{b b':β}{xs:aa γ}{os os':aa (Nat×bd)}(l:aO β (aa γ))(i j q:Nat)(gD:Nat.beq i j=false)(ar:L[i]? =some ⟨some p,.ck b os⟩)(qN:L[j]? =some ⟨key,.row T xs cap⟩)
 (hq:os[q]? =some (l.off,aZ key xs.length cap)) (hb:l.set b xs=b') (pW:sl os l.off=os') (k:ae c ops Q Fb E ((L.set j ⟨none,.dead⟩).set i ⟨some p,.ck b' os'⟩)):ae c ops Q Fb E L:=
 λa W s=>k a W (s.pM l (λe=>by rw[e,ma]at gD;cases gD) ar qN q hq hb pW)
def bA.H5{a:Act}{W:bc}(s:bA c E L a W){i j p cap T fq:Nat}{key:av Nat}{β γ:Type}[ag β][ag γ]{b b':β}{xs:aa γ}{os os':aa (Nat×bd)}(l:aO β (aa γ))(gD:i≠j)(ar:L[i]? =some ⟨some p,.ck b os⟩)(qN:L[j]? =some ⟨key,.row T xs cap⟩)
 (q:Nat) (hq:os[q]? =some (l.off,aZ key xs.length cap)) (hb:l.set b xs=b') (pW:sl os l.off=os') (oC:look E fq=some (.eq (aZ key xs.length cap))):bA c ((fq,.of xs)::E) ((L.set j ⟨none,.dead⟩).set i ⟨some p,.ck b' os'⟩) a W:=by
 have h1:=s.freeze oC qN
 subst hb
 subst pW
 have aw:(L.set j ⟨none,.dead⟩)[i]? =some ⟨some p,.ck b os⟩:=by rw[uI (λe=>gD e.symm)];exact ar
 obtain⟨v,ad,ay⟩:=h1.env fq (.of xs) (by simp[look,ma])
 obtain⟨Bc,aN,a6⟩:=s.env fq _ oC
 rw[ad]at aN
 cases aN
 have a6:v=_:=a6
 subst a6
 exact h1.z1 aw (λo ⟨cs,T,g1,g2⟩=>⟨cs,T,g1,R2 l g2 (er hq) (n1.1 ay)⟩) id
def aq.H5{z:Exit}{p cap T:Nat}{key:av Nat}{β γ:Type}[ag β][ag γ]{b b':β}{xs:aa γ}{os os':aa (Nat×bd)}(l:aO β (aa γ))(i j q fq:Nat)(gD:Nat.beq i j=false)(ar:L[i]? =some ⟨some p,.ck b os⟩)(qN:L[j]? =some ⟨key,.row T xs cap⟩)
 (hq:os[q]? =some (l.off,aZ key xs.length cap)) (hb:l.set b xs=b') (pW:sl os l.off=os') (oC:look E fq=some (.eq (aZ key xs.length cap))) (k:aq c Q z ((fq,.of xs)::E) ((L.set j ⟨none,.dead⟩).set i ⟨some p,.ck b' os'⟩)):aq c Q z E L:=
 λa W s=>k a W (s.H5 l (λe=>by rw[e,ma]at gD;cases gD) ar qN q hq hb pW oC)
inductive vd(c:bW)(E:List (Nat×J))(L:List aA)(place:Nat->Option (Nat×Nat)){β:Type}[ag β]:β->List (Nat×Value)->List (Nat×Operand)->β->List (Nat×Value)->Prop
 |nil {b os}:vd c E L place b os [] b os
 |cons {b cZ b':β} {os os':List (Nat×Value)} {γ:Type} [ag γ] {v:γ} {i:Nat} {x:Operand} {r:List (Nat×Operand)} (l:aO β γ):place i=some (l.off,ag.size γ)->aL c E L x (.of v)->l.set b v=cZ->sv os l.off (ag.size γ)=true->vd c E L place cZ os r b' os'->vd c E L place b os ((i,x)::r) b' os'
 |hole {b cZ b':β} {os On os':List (Nat×Value)} {γ:Type} [ag γ] {u:Value} {i:Nat} {x:Operand} {r:List (Nat×Operand)} (l:aO β (List γ)):place i=some (l.off,1)->aL c E L x (.eq u)->u.oneCell'=true->l.set b []=cZ->u5 os l.off u=On->vd c E L place cZ On r b' os'->vd c E L place b os ((i,x)::r) b' os'
def vd.run{place:Nat->av (Nat×Nat)}{β:Type}[ag β]{b b':β}{os os':aa (Nat×bd)}{dj:aa (Nat×bO)}(h:vd c E L place b os dj b' os'):∀a W,bA c E L a W->∀cs:Array bd,lN (ks L++c.bL) W cs.toList b os->
 ∃dY,Instr.fill place cs (dj.map λ(i,x)=>(i,a.eval x))=some dY∧lN (ks L++c.bL) W dY.toList b' os':=by
 induction h with
 |nil=>intro a W s cs aC;exact⟨cs,rfl,aC⟩
 | @cons b cZ b' os os' γ _ v i x r l h1 ad ay aN _ bN=>
   intro a W s cs aC
   subst ay
   have a7:=ad a W s
   have da:(a.eval x).cells.size=ag.size γ:=by have:=ag.len a7.2;simpa using this
   have ao:cs.toList.length=ag.size β:=aC.len
   have fV:=l.gk
   rw[mJ,G9 h1 da (by simp at ao;omega)]
   refine bN a W s _ ?_
   have:=St l aC a7.2 aN
   simpa[fR,ag.len a7.2]using this
 | @hole b cZ b' os On os' γ _ u i x r l h1 ad ay aN a6 _ bN=>
   intro a W s cs aC
   subst aN
   subst a6
   have a7:a.eval x=u:=ad a W s
   have ak:(a.eval x).cells.toList=[u]:=by rw[a7,cells_one ay]
   have da:(a.eval x).cells.size=1:=by have:=dF List.length ak;simpa using this
   have ao:cs.toList.length=ag.size β:=aC.len
   have fV:l.off+1<=ag.size β:=l.gk
   rw[mJ,G9 h1 da (by simp at ao;omega)]
   refine bN a W s _ ?_
   have:=R1 l aC ay
   simpa[fR,ak]using this
def sh{β:Type}[ag β]{z b:β}{dj:aa (Nat×bO)}{pl:Array (Nat×Nat)}{os:aa (Nat×bd)}(k1:aa Nat)(uv:jz c.P t k1)(a1:ag.agg β=true)(E7:ff c.P t pl)(fP:cN c.P t z)
 (aU:vd c E L (pl[·]?) z (k1.map λo=>(o,kA)) dj b os):ba c E L ⟨d,.build t dj.toArray,ty,pos,af,g⟩ (.I1 b os):=.pure λa W s=>by
 obtain⟨fs,hu,hs,rfl⟩:=E7.at_
 obtain⟨i,dk,h1,ad,ay⟩:=fP.zero
 have ch:∀o∈k1,dk.cells.toList[o]? =some kA:=λo aS=>by
  unfold jz at uv;rw[h1]at uv;simp only[Option.bind_some,ad,Option.any_some]at uv;exact RA (mG.1 uv o aS)
 obtain⟨dY,aN,a6⟩:=aU.run a W s dk.cells ⟨by
  rw[Ll λh hm=>by obtain⟨o,aS,rfl⟩:=gH.1 hm;exact ch o aS];exact(ay _ _).2,λh hm=>by obtain⟨o,aS,rfl⟩:=gH.1 hm;exact⟨ch o aS,rfl⟩⟩
 refine⟨.agg dY,?_,by simp[shaped,a1],by simpa[Value.cells]using a6⟩
 have hm:(dj.toArray.map λ(x:Nat×bO)=>(x.1,a.eval x.2)).toList=dj.map λ(i,x)=>(i,a.eval x):=by simp
 simp only[execOp,Instr.build,df,zeroValue,typeInfo,run_program,Result.andThen_ok,h1,ad,Sem.run_pure,dn hu,Q7 fs hs]
 rw[hm,aN]
 rfl
def vI{α:Type}[Inhabited α](bytes:Nat)(n:Int):av (aa α):=if 0<=n∧n<=140737488355328∧bytes*n<=140737488355328 then some (List.replicate n.toNat default)else none
def acj{α:Type}[Inhabited α]{bytes:Nat}{n:Int}{r:aa α}(h:vI bytes n=some r):0<=n∧n<=140737488355328∧bytes*n<=140737488355328∧List.replicate n.toNat default=r:=by
 unfold vI at h;split at h
 ·rename_i ak;exact⟨ak.1,ak.2.1,ak.2.2,dh h⟩
 cases h
def ae.Ww{α:Type}[ag α][Inhabited α]{rest:aa Oper}{aV e bytes:Nat}{r:aa α}{n:Int}(hu:c.P.underlying t=some (.slice e))(dO:bG c.P e α)(fP:cN c.P e (default:α))(hs:Nat.beq (ag.size α) 0=false)(hb:(c.P.info? e).map (·.bytes)=some bytes)
 (al:aL c E L x (.of n)) (hy:aL c E L y (.of n)) (hm:vI bytes n=some r) (iQ:Nat.blt aV c.n=true) (k:∀p,ae c ops Q rest ((aV,.eq (aZ p r.length r.length))::E) (⟨p,.row e r r.length⟩::L)):
 ae c ops Q (⟨some aV,.makeSlice t x y,ty,pos,af,none⟩::rest) E L:=λa W s=>by
 obtain⟨bw,aG,ank,rfl⟩:=acj hm
 obtain⟨m,rfl⟩:=uH bw
 obtain⟨fG,dk,dv,b4,sV⟩:=fP.zero
 have om:fG.size=ag.size α:=by
  obtain⟨i2,h1,ad⟩:=dO.info;rw[dv]at h1;cases h1;exact ad
 have x8:fG.bytes=bytes:=by rw[dv]at hb;simpa using hb
 have iA:ag.size α≠0:=λh=>by rw[h]at hs;cases hs
 have rG:=CM (sV (ks L++c.bL) W) m iA
 have h1:=of_int.1 (al a W s)
 have ad:=of_int.1 (hy a W s)
 have hw:IntKind.i64.wrap (m:Int)=m:=by have:bz (m:Int)=m:=hr (by omega) (by omega);exact this
 have hp:(2:Int)^48=281474976710656:=by decide
 simp only[Int.toNat_natCast,Bp]at k
 generalize kJ:(Array.range (m*ag.size α)).map (dk.cells[· % dk.cells.size]!)=D at rG
 refine hl I (R:=λv W'=>v=.slice (some ⟨W.heap.size,0,none⟩) m m∧W'=W.alloc (.cells D e)) (.lj (v:=.slice (some ⟨W.heap.size,0,none⟩) m m) (W':=W.alloc (.cells D e)) ?_ ⟨rfl,rfl⟩) λv W' ⟨ay,aN⟩=>?_
 ·have cY:((decide ((m:Int)<0)||decide ((fG.bytes:Int)*m>2^48))||decide ((m:Int)<0)||decide ((m:Int)>m))=false:=by
   rw[x8,hp];simp;omega
  have I2:((Array.range (m*fG.size)).map λi=>(if m*fG.size=0 then(#[]:Array bd)else dk.cells)[i % (if m*fG.size=0 then(#[]:Array bd)else dk.cells).size]!)=D:=by
   rw[<-kJ,om];by_cases gL:m*ag.size α=0
   ·rw[gL];simp
   simp only[bk gL]
  have a1:(asInt (.int .i64 (m:Int)):Sem Int).run c.P W=.ok (m:Int) W:=by simp[asInt,asIntOf]
  simp only[execOp,Instr.makeSlice,df,dn hu,Result.andThen_ok,h1,ad,a1,Sem.run_pure,typeInfo,run_program,dv,hw,cY,p4,mK,run_askRoom,Go.sizeOf,Int.toNat_natCast]
  by_cases gL:m*fG.size=0
  ·simp only[gL,kO,Sem.run_pure,Result.andThen_ok,df,newRow]at I2⊢
   rw[I2]
   simp
  simp only[gL,mK,Sem.run_pure,Result.andThen_ok,df,newRow,zeroValue,typeInfo,run_program,dv,b4]at I2⊢
  rw[I2]
  simp
 subst ay aN
 have vr:m<=maxLen:=by
  have:maxLen=9223372036854775807:=rfl;omega
 have da:D.size=m*ag.size α:=by have:=rG.1;simpa using this
 have b1:=s.alloc (o:=.cells D e) (cp:=.row e (List.replicate m (default:α)) m) ⟨D,rfl,da,by simp,vr,by
  have bh:=rG.1;rw[Bp]at bh⊢;rw[<-bh,l7];exact rG⟩
 exact k (some W.heap.size) _ _ (b1.put (τ:=.eq (aZ (some W.heap.size) m m)) (by simpa using iQ) I)
def aq.lk{fn:Func}{δ:Type}{ρ:δ->J}{Lo:δ->aa aA}(aV:δ)(hs:(Lo aV).Sublist L)(aC:fn.results= #[])(pU:ρ aV=.bR [])(dC:c.ds=[]:=by rfl):aq c (bodyPost c.P fn (jo c.X c.bL c.iE ρ Lo)) .ret E L:=λa W s=>
 ⟨s.xg dC,.tuple #[],by simp[w6,aC],s.ends aV hs (by rw[pU];exact⟨_,rfl,.nil⟩)⟩
end
abbrev Hid:=Nat->av Nat
def fe(l:aa (av Nat)):Hid:=λi=>(l[i]?).getD none
structure c0 where
 slot:Option Nat
 up:List Nat
 rd:List Nat
 wr:List Nat
 τ:(Nat->Hid)->J
 fA:(Nat->Hid)->Nat->aA
def gw(up:aa Nat)(i:Nat)(hd:Nat->Hid):Nat->Hid:=λj=>bif Nat.beq j i||up.any (λk=>Nat.beq k j)then hd j else λ_=>none
def lx(hd:Nat->Hid)(i:Nat)(x:Hid):Nat->Hid:=λj=>bif Nat.beq j i then x else hd j
def abG{up:aa Nat}{i:Nat}{hd hd':Nat->Hid}(h:hd i=hd' i)(cC:∀k∈up,hd k=hd' k):gw up i hd=gw up i hd':=by
 funext j;unfold gw;cases h1:Nat.beq j i
 ·cases ad:up.any (λk=>Nat.beq k j)
  ·rfl
  obtain⟨k,hk,he⟩:=nj.1 ad;have:=eO.1 he;subst this;simp only[tj,cond_true];exact cC k hk
 have:=eO.1 h1;subst this;simp only[KK,cond_true];exact h
def nC:aa aA->(Nat->aA)->aa Nat->aa aA
 |L,_,[]=>L
 |L,f,j::r=>nC (L.set j (f j)) f r
def Rm:∀{L:aa aA} {f:Nat->aA} {cc:aa Nat},(nC L f cc).length=L.length
 |_,_,[]=>rfl
 |L,f,j::r=>by rw[nC,Rm,sc]
def LK:∀{L:aa aA} {f:Nat->aA} {cc:aa Nat} (i:Nat),(nC L f cc)[i]? =if cc.contains i=true then L[i]?.map (λ_=>f i)else L[i]?
 |_,_,[],i=>by simp[nC]
 | L,f,j::r,i=>by
   rw[nC,LK i];by_cases h:j=i
   ·subst h;simp only[Ql,BEq.rfl,KK,kO,nR];by_cases ao:j<L.length
    ·simp[ao]
    simp[ao]
   have hb:(i==j)=false:=by simp;exact λe=>h e.symm
   rw[Ql,hb,tj,uI h]
def fH(ls:Nat->Bool)(hd:Nat->Hid):Nat->aa c0->aa aA->aa aA
 |_,[],L=>L
 |k,h::r,L=>fH ls hd (k+1) r (bif ls k then nC L (h.fA (gw h.up k hd)) h.wr else L)
def hc(ls:Nat->Bool)(hd:Nat->Hid)(E:aa (Nat×J)):Nat->aa c0->aa (Nat×J)
 |_,[]=>E
 | k,h::r=>match ls k,h.slot with
   |true,some s=>(s,h.τ (gw h.up k hd))::hc ls hd E (k+1) r
   |_,_=>hc ls hd E (k+1) r
def mo(ls:Nat->Bool)(hd:Nat->Hid)(j:Nat):Nat->aa c0->av aA->av aA
 |_,[],v=>v
 |k,h::r,v=>mo ls hd j (k+1) r (bif ls k&&h.wr.contains j then v.map (λ_=>h.fA (gw h.up k hd) j)else v)
def HJ{ls:Nat->Bool}{hd:Nat->Hid}(j:Nat):∀{k:Nat} {hs:aa c0} {L:aa aA},(fH ls hd k hs L)[j]? =mo ls hd j k hs L[j]?
 |_,[],_=>rfl
 | k,h::r,L=>by
   rw[fH,mo,HJ j];congr 1;cases ls k
   ·rfl
   simp only[cond_true,wM];rw[LK];cases h.wr.contains j <;> rfl
def Ly{ls:Nat->Bool}{hd:Nat->Hid}{j:Nat}:∀{k:Nat} {hs:aa c0} {v:av aA},(∀m h,hs[m]? =some h->h.wr.contains j=true->ls (k+m)=false)->mo ls hd j k hs v=v
 |_,[],_,_=>rfl
 | k,h::r,v,aG=>by
   rw[mo,Ly λm x hm al=>by have:=aG (m+1) x (by simpa using hm) al;rw[<-this];congr 1;omega];cases hw:h.wr.contains j
   ·simp
   have:=aG 0 h I hw;simp only[Nat.add_zero]at this;rw[this];rfl
def Lh{ls:Nat->Bool}{hd:Nat->Hid}{j:Nat}:∀{k:Nat} {hs rs:aa c0} {v:av aA},mo ls hd j k (hs++rs) v=mo ls hd j (k+hs.length) rs (mo ls hd j k hs v)
 |_,[],_,_=>rfl
 | k,h::r,rs,v=>by
   rw[List.cons_append,mo,Lh,mo,List.length_cons];congr 1;omega
def G3{ls ls':Nat->Bool}{hd hd':Nat->Hid}{j:Nat}:∀{k:Nat} {hs:aa c0} {v:av aA},(∀m h,hs[m]? =some h->h.wr.contains j=true->ls (k+m)=ls' (k+m)∧(ls (k+m)=true->gw h.up (k+m) hd=gw h.up (k+m) hd'))->mo ls hd j k hs v=mo ls' hd' j k hs v
 |_,[],_,_=>rfl
 | k,h::r,v,aG=>by
   have bN:=G3 (ls:=ls) (ls':=ls') (hd:=hd) (hd':=hd') (j:=j) (k:=k+1) (hs:=r) (v:=bif ls k&&h.wr.contains j then v.map (λ_=>h.fA (gw h.up k hd) j)else v) λm x hm al=>by
    have:=aG (m+1) x (by simpa using hm) al;rw[show k+1+m=k+(m+1) by omega];exact this
   rw[mo,mo,bN];congr 1;cases hw:h.wr.contains j
   ·simp
   have:=aG 0 h I hw;simp only[Nat.add_zero]at this;rw[<-this.1];cases ao:ls k
   ·rfl
   rw[this.2 ao]
def Lz{ls:Nat->Bool}{hd:Nat->Hid}{E:aa (Nat×J)}{t:Nat}:∀{k:Nat} {hs:aa c0},(∀(m:Nat) (h:c0),hs[m]? =some h->ls (k+m)=true->h.slot≠some t)->look (hc ls hd E k hs) t=look E t
 |_,[],_=>rfl
 | k,h::r,aG=>by
   have bN:=Lz (ls:=ls) (hd:=hd) (E:=E) (t:=t) (k:=k+1) (hs:=r) λm x hm ao=>aG (m+1) x (by simpa using hm) (by rw[<-ao];congr 1;omega);unfold hc;split
   ·rename_i s h1 ad;have cR:Nat.beq s t=false:=by
     cases hb:Nat.beq s t
     ·rfl
     have:=eO.1 hb;subst this;exact absurd ad (aG 0 h I h1)
    simp only[look,cR,cond_false];exact bN
   exact bN
def LL{ls:Nat->Bool}{hd:Nat->Hid}{E:aa (Nat×J)}{s:Nat}:∀{k:Nat} {hs:aa c0} {j:Nat} {h:c0},hs[j]? =some h->ls (k+j)=true->h.slot=some s->(∀m x,hs[m]? =some x->x.slot=some s->m=j)->look (hc ls hd E k hs) s=some (h.τ (gw h.up (k+j) hd))
 |_,[],_,_,h,_,_,_=>by simp at h
 | k,x::r,0,h,aD,ao,hs,_=>by
   simp only[List.getElem?_cons_zero,fC]at aD;subst aD;simp only[Nat.add_zero]at ao;unfold hc;rw[ao,hs];simp[look,ma]
 | k,x::r,j+1,h,aD,ao,hs,hu=>by
   have bN:=LL (ls:=ls) (hd:=hd) (E:=E) (s:=s) (k:=k+1) (hs:=r) (j:=j) (h:=h) (by simpa using aD) (by rw[<-ao];congr 1;omega) hs λm y hm hy=>by
    have:=hu (m+1) y (by simpa using hm) hy;omega
   rw[show k+1+j=k+(j+1) by omega]at bN;unfold hc;split
   ·rename_i b1 h1 ad;have cR:Nat.beq b1 s=false:=by
     cases hb:Nat.beq b1 s
     ·rfl
     have:=eO.1 hb;subst this;have:=hu 0 x I ad;omega
    simp only[look,cR,cond_false];exact bN
   exact bN
def Su{ls:Nat->Bool}{hd:Nat->Hid}{E:aa (Nat×J)}{t:Nat}{τ:J}:∀{k:Nat} {hs:aa c0},look (hc ls hd E k hs) t=some τ->(∃(j:Nat) (h:c0),hs[j]? =some h∧ls (k+j)=true∧h.slot=some t∧τ=h.τ (gw h.up (k+j) hd))∨(look E t=some τ∧∀(m:Nat) (h:c0),hs[m]? =some h->ls (k+m)=true->h.slot≠some t)
 |_,[],h=>.inr ⟨h,λm h hm=>by simp at hm⟩
 | k,x::r,h=>by
   unfold hc at h;have go:(ls k=true->x.slot≠some t)->look (hc ls hd E (k+1) r) t=some τ->(∃(j:Nat) (h:c0),(x::r)[j]? =some h∧ls (k+j)=true∧h.slot=some t∧τ=h.τ (gw h.up (k+j) hd))∨(look E t=some τ∧∀(m:Nat) (h:c0),(x::r)[m]? =some h->ls (k+m)=true->h.slot≠some t):=λal h=>by
    rcases Su h with⟨j,y,h1,ad,ay,aN⟩|⟨h1,ad⟩
    ·exact .inl ⟨j+1,y,by simpa using h1,by rw[<-ad];congr 1;omega,ay,by rw[aN];congr 2;omega⟩
    refine .inr ⟨h1,λm y hm ao=>?_⟩;cases m with
    |zero=>simp only[List.getElem?_cons_zero,fC]at hm;subst hm;exact al ao
    |succ m=>exact ad m y (by simpa using hm) (by rw[<-ao];congr 1;omega)
   split at h
   ·rename_i s h1 ad;simp only[look]at h;by_cases e:Nat.beq s t=true
    ·rw[e]at h;simp only[cond_true,fC]at h;have:=eO.1 e;subst this;exact .inl ⟨0,x,rfl,h1,ad,h.symm⟩
    rw[kN]at e;rw[e]at h;exact go (λ_ iA=>by rw[ad]at iA;cases iA;rw[ma]at e;cases e) h
   rename_i eP;exact go (λao iA=>eP t ao iA) h
def jw(hd:Nat->Hid)(hs:aa c0)(E:aa (Nat×J)):aa Nat->aa (Nat×J)
 |[]=>E
 | j::r=>match hs[j]? with
   | some h=>match h.slot with
     |some s=>(s,h.τ (gw h.up j hd))::jw hd hs E r
     |none=>jw hd hs E r
   |none=>jw hd hs E r
def Tg{hd:Nat->Hid}{hs:aa c0}{E:aa (Nat×J)}{t:Nat}{τ:J}:∀{ds:aa Nat},look (jw hd hs E ds) t=some τ->(∃j∈ds,∃h:c0,hs[j]? =some h∧h.slot=some t∧τ=h.τ (gw h.up j hd))∨look E t=some τ
 |[],h=>.inr h
 | j::r,h=>by
   have go:look (jw hd hs E r) t=some τ->(∃i∈j::r,∃h:c0,hs[i]? =some h∧h.slot=some t∧τ=h.τ (gw h.up i hd))∨look E t=some τ:=λh=>by
    rcases Tg h with⟨i,h1,ad⟩|h1
    ·exact .inl ⟨i,by simp[h1],ad⟩
    exact .inr h1
   unfold jw at h;split at h
   ·rename_i x al;split at h
    ·rename_i s oC;simp only[look]at h;by_cases e:Nat.beq s t=true
     ·rw[e]at h;simp only[cond_true,fC]at h;have:=eO.1 e;subst this;exact .inl ⟨j,by simp,x,al,oC,h.symm⟩
     simp only[kN]at e;rw[e]at h;exact go h
    exact go h
   exact go h
def xB(E:aa (Nat×J))(v:bd):aa Nat->Prop
 |[]=>True
 |s::r=>look E s=some (.eq v)∧xB E v r
def xB.get{E:aa (Nat×J)}{v:bd}:∀{e9:aa Nat},xB E v e9->∀s∈e9,look E s=some (.eq v)
 | _::_,h,s,hs=>by
   rcases dB.1 hs with rfl|hs
   ·exact h.1
   exact xB.get h.2 s hs
def AQ(τ:J)(E:aa (Nat×J)):aa Nat->aa (Nat×J)
 |[]=>E
 |s::r=>(s,τ)::AQ τ E r
def Sv{τ:J}{E:aa (Nat×J)}{t:Nat}{σ:J}:∀{e9:aa Nat},look (AQ τ E e9) t=some σ->(t∈e9∧σ=τ)∨look E t=some σ
 |[],h=>.inr h
 | s::r,h=>by
   simp only[AQ,look]at h;by_cases e:Nat.beq s t=true
   ·rw[e]at h;simp only[cond_true,fC]at h;have:=eO.1 e;subst this;exact .inl ⟨by simp,h.symm⟩
   simp only[kN]at e;rw[e]at h;rcases Sv h with⟨h1,ad⟩|h1
   ·exact .inl ⟨by simp[h1],ad⟩
   exact .inr h1
def pN:av Nat->J->aa (Nat×J)->aa (Nat×J)
 |some s,τ,E=>(s,τ)::E
 |none,_,E=>E
section
variable{c:bW}{E:aa (Nat×J)}{L:aa aA}{ops:Array Oper}{Q:Exit->Act->bc->Prop}
def bA.ku{a:Act}{W:bc}{α:Type}[ag α]{i cap T:Nat}{e9:aa Nat}{key:av Nat}{xs:aa α}(h:bA c E L a W)(ao:xB E (aZ key xs.length cap) e9)(ar:L[i]? =some ⟨key,.row T xs cap⟩):
 bA c (AQ (.of xs) E e9) (L.set i ⟨none,.dead⟩) a W:=by
 have hk:=h.kill i
 refine {hk with env:=λt τ eI=>?_}
 rcases Sv eI with⟨hm,rfl⟩|h1
 ·obtain⟨v,h1,ad⟩:=h.env t _ (ao.get t hm)
  refine⟨v,h1,n1.2 ?_⟩
  have k2:v=aZ key xs.length cap:=ad
  subst k2
  have aS:=h.own _ (er ar)
  cases key with
  |none=>exact .inl ⟨rfl,aS.1⟩
  | some p=>
    obtain⟨o,eH,cs,rfl,da,aG,x1,aC⟩:=aS
    obtain⟨ay,aN⟩:=Lg da aG aC
    refine .inr ⟨p,0,cap,cs,T,(0,0),rfl,h.CR ar,eH,aG,by omega,ay,?_⟩
    have mn:=zs (L:=L) (i:=i) (cp:=.dead)
    exact aN.mono (.drop λk hm=>by
     rcases bX.1 hm with hm|hm
     ·exact bX.2 (.inl (mn.subset hm))
     exact bX.2 (.inr hm))
 exact hk.env t τ h1
def ae.ku{l:aa Oper}{α:Type}[ag α]{key:av Nat}{xs:aa α}{cap T:Nat}(i:Nat)(e9:aa Nat)(ao:xB E (aZ key xs.length cap) e9)(ar:L[i]? =some ⟨key,.row T xs cap⟩)
 (k:ae c ops Q l (AQ (.of xs) E e9) (L.set i ⟨none,.dead⟩)):ae c ops Q l E L:=λa W st=>k a W (st.ku ao ar)
def aq.ku{x:Exit}{α:Type}[ag α]{key:av Nat}{xs:aa α}{cap T:Nat}(i:Nat)(e9:aa Nat)(ao:xB E (aZ key xs.length cap) e9)(ar:L[i]? =some ⟨key,.row T xs cap⟩)
 (k:aq c Q x (AQ (.of xs) E e9) (L.set i ⟨none,.dead⟩)):aq c Q x E L:=λa W st=>k a W (st.ku ao ar)
def fS(c:bW)(ops:Array Oper)(Q:Exit->Act->bc->Prop)(hs:aa c0)(E:aa (Nat×J))(L:aa aA)(i:Nat)(o:Oper)(h:c0):Prop:=
 ∀ (hd:Nat->Hid) (E':aa (Nat×J)) (L':aa aA),(∀t τ,look (jw hd hs E h.up) t=some τ->look E' t=some τ)->
   (∀j e,(fH (λ_=>true) hd 0 (hs.take i) L)[j]? =some e->h.rd.contains j=true->L'[j]? =some e)->
   ae c ops (nN (λa W=> ∃x,bA c (pN h.slot (h.τ (gw h.up i (lx hd i x))) E') (nC L' (h.fA (gw h.up i (lx hd i x))) h.wr) a W) Q) [o] E' L'
def z6(c:bW)(ops:Array Oper)(Q:Exit->Act->bc->Prop)(hs:aa c0)(E:aa (Nat×J))(L:aa aA):Nat->aa Oper->aa c0->Prop
 |_,[],[]=>True
 |i,o::os,h::r=>fS c ops Q hs E L i o h∧z6 c ops Q hs E L (i+1) os r
 |_,_,_=>False
def RB{ls ls':Nat->Bool}{hd:Nat->Hid}:∀{k:Nat} {hs:aa c0},(∀m,m<hs.length->ls (k+m)=ls' (k+m))->hc ls hd E k hs=hc ls' hd E k hs
 |_,[],_=>rfl
 | k,h::r,aG=>by
   have bN:=RB (ls:=ls) (ls':=ls') (hd:=hd) (k:=k+1) (hs:=r) λm hm=>by
    have:=aG (m+1) (by simp;omega);rw[show k+1+m=k+(m+1) by omega];exact this
   have bw:=aG 0 (by simp);simp only[Nat.add_zero]at bw;unfold hc;rw[bw,bN]
def Sw{ls ls':Nat->Bool}{hd:Nat->Hid}:∀{k:Nat} {hs:aa c0} {L:aa aA},(∀m,m<hs.length->ls (k+m)=ls' (k+m))->fH ls hd k hs L=fH ls' hd k hs L
 |_,[],_,_=>rfl
 | k,h::r,L,aG=>by
   have bw:=aG 0 (by simp);simp only[Nat.add_zero]at bw;rw[fH,fH,bw];exact Sw λm hm=>by
    have:=aG (m+1) (by simp;omega);rw[show k+1+m=k+(m+1) by omega];exact this
def kD(hs:aa c0):aa (av Nat×aa Nat×aa Nat×aa Nat):=hs.map λh=>(h.slot,h.up,h.rd,h.wr)
def L7{hs:aa c0}{i:Nat}{h:c0}(aw:hs[i]? =some h):(kD hs)[i]? =some (h.slot,h.up,h.rd,h.wr):=by simp[kD,aw]
def ve(c:bW)(ops:Array Oper)(Q:Exit->Act->bc->Prop)(hs:aa c0)(E:aa (Nat×J))(L:aa aA)(np:Nat)(i:Nat)(o:Oper)(h:c0):Prop:=
 ∀ (hd:Nat->Hid) (E':aa (Nat×J)) (L':aa aA),(∀t τ,look (jw hd hs E h.up) t=some τ->look E' t=some τ)->
   (∀j e,(fH (λ_=>true) hd 0 (hs.take i) L)[j]? =some e->h.rd.contains j=true->L'[j]? =some e)->L'.drop np=L.drop np->
   ae c ops (nN (λa W=> ∃x,bA c (pN h.slot (h.τ (gw h.up i (lx hd i x))) E') (nC L' (h.fA (gw h.up i (lx hd i x))) h.wr) a W) Q) [o] E' L'
def oX(c:bW)(ops:Array Oper)(Q:Exit->Act->bc->Prop)(hs:aa c0)(E:aa (Nat×J))(L:aa aA)(np:Nat):Nat->aa Oper->aa c0->Prop
 |_,[],[]=>True
 |i,o::os,h::r=>ve c ops Q hs E L np i o h∧oX c ops Q hs E L np (i+1) os r
 |_,_,_=>False
def oX.get{hs:aa c0}{np:Nat}:∀{k:Nat} {os:aa Oper} {rs:aa c0},oX c ops Q hs E L np k os rs->∀i h o,rs[i]? =some h->os[i]? =some o->ve c ops Q hs E L np (k+i) o h
 |k,[],[],_,i,h,o,aw,_=>by simp at aw
 | k,anS::os,bw::r,ch,i,h,o,aw,aS=>by
   cases i with
   | zero=>
     simp only[List.getElem?_cons_zero,fC]at aw aS
     subst aw;subst aS;exact ch.1
   | succ i=>
     have:=oX.get ch.2 i h o (by simpa using aw) (by simpa using aS)
     rw[show k+1+i=k+(i+1) by omega]at this
     exact this
 |k,[],_::_,ch,_,_,_,_,_=>ch.elim
 |k,_::_,[],ch,_,_,_,_,_=>ch.elim
def z6.Ei{hs:aa c0}{np:Nat}:∀{k:Nat} {os:aa Oper} {rs:aa c0},z6 c ops Q hs E L k os rs->oX c ops Q hs E L np k os rs
 |_,[],[],_=>trivial
 |_,_::_,_::_,h=>⟨λhd E' L' h1 ad _=>h.1 hd E' L' h1 ad,z6.Ei h.2⟩
 |_,[],_::_,h=>h.elim
 |_,_::_,[],h=>h.elim
def R3{n:Nat}:∀{L:aa aA} {f:Nat->aA} {cc:aa Nat},(∀j∈cc,j<n∨L.length<=j)->(nC L f cc).drop n=L.drop n
 |_,_,[],_=>rfl
 | L,f,j::r,h=>by
   rw[nC,R3 (λk hk=>by rw[sc];exact h k (by simp[hk]))];rcases h j (by simp)with h1|h1
   ·rw[List.drop_set_of_lt h1]
   rw[List.set_eq_of_length_le h1]
def L8{ls:Nat->Bool}{hd:Nat->Hid}{n:Nat}:∀{k:Nat} {hs:aa c0} {L:aa aA},(∀h∈hs,∀j∈h.wr,j<n∨L.length<=j)->(fH ls hd k hs L).drop n=L.drop n
 |_,[],_,_=>rfl
 | k,h::r,L,hw=>by
   rw[fH];cases ao:ls k
   ·exact L8 λx al=>hw x (by simp[al])
   simp only[cond_true];rw[L8 (λx al j aD=>by rw[Rm];exact hw x (by simp[al]) j aD),R3 (hw h (by simp))]
def UX{hs:aa c0}{ds:aa (av Nat×aa Nat×aa Nat×aa Nat)}{np:Nat}(dC:kD hs=ds)(h:(ds.all λd=>d.2.2.2.all λj=>Nat.blt j np)=true):∀h∈hs,∀j∈h.wr,j<np∨L.length<=j:=λx al j aD=>by
 subst dC;have h1:=mG.1 h (x.slot,x.up,x.rd,x.wr) (gH.2 ⟨x,al,rfl⟩);have ad:=mG.1 h1 j aD;exact .inl (Nat.blt_eq.mp ad)
def aq.fin{slot:av Nat}{up wr:aa Nat}{i:Nat}{hd:Nat->Hid}{τ:(Nat->Hid)->J}{fA:(Nat->Hid)->Nat->aA}{E' hM:aa (Nat×J)}{L' L2:aa aA}(x:Hid)(aK:hM=pN slot (τ (gw up i (lx hd i x))) E')(ar:L2=nC L' (fA (gw up i (lx hd i x))) wr):
 aq c (nN (λa W=> ∃x,bA c (pN slot (τ (gw up i (lx hd i x))) E') (nC L' (fA (gw up i (lx hd i x))) wr) a W) Q) .normal hM L2:=λa W s=>by
 subst aK ar
 exact⟨x,s⟩
def aq.place{z:Exit}{e:aA}(j:Nat)(aD:L[j]? =some ⟨none,.dead⟩)(k:aq c Q z E (L.set j e)):aq c Q z E (e::L):=λa W s=>by
 refine k a W (s.sub (λx al=>?_) ?_)
 ·rcases PL al with h|h
  ·exact dB.2 (.inr h)
  exact dB.2 (.inl h)
 have h1:=u0 aD;have ad:(L.set j e).Perm (e::L.eraseIdx j):=by
  have ay:(L.set j e)[j]? =some e:=by rw[yT (fY.1 aD).1]
  have aN:=u0 ay;rwa[JV]at aN
 have a6:=xk (h1.cons e);have bh:ks (e::⟨none,.dead⟩::L.eraseIdx j)=ks (e::L.eraseIdx j):=by cases hk:e.key <;> simp[ks,hk]
 rw[bh]at a6;exact(xk ad).nodup_iff.2 (a6.nodup_iff.1 s.nodup)
def aq.back{z:Exit}{e gn:aA}(j:Nat)(aD:L[j]? =some gn)(k:aq c Q z E (L.set j e)):aq c Q z E (e::L.eraseIdx j):=λa W s=>by
 have ay:(L.set j e)[j]? =some e:=by rw[yT (fY.1 aD).1]
 have aN:=u0 ay;rw[JV]at aN;exact k a W (s.perm aN.symm)
def ax.qs{z:Code}(n:Nat)(k:ax c Q z E (L++List.replicate n ⟨none,.dead⟩)):ax c Q z E L:=λa W s=>by
 refine k a W ?_;have hk:ks (L++List.replicate n ⟨none,.dead⟩)=ks L:=by
  rw[ef];have:∀n,ks (List.replicate n (⟨none,.dead⟩:aA))=[]:=λn=>by
   induction n with
   |zero=>rfl
   |succ n bN=>rw[List.replicate_succ];simp[ks,bN]
  rw[this,l8]
 exact
 {defers:=s.defers
  size:=s.size
  env:=λt τ ao=>by rw[hk];exact s.env t τ ao
  cW:=s.cW
  own:=λe he=>by
   rw[hk];rcases bX.1 he with he|he
   ·exact s.own e he
   rw[(List.mem_replicate.1 he).2];trivial
  nodup:=by rw[hk];exact s.nodup
  lt:=by rw[hk];exact s.lt
  fa:=by rw[hk];exact s.fa
  dK:=by rw[hk];exact s.dK}
def ax.H2{z:Code}(n m:Nat)(k:ax c Q z E (L.take m++(List.replicate n ⟨none,.dead⟩++L.drop m))):ax c Q z E L:=by
 refine ax.qs n λa W s=>k a W (s.perm ?_);have e:L=L.take m++L.drop m:=(fw m L).symm;conv=>lhs;rw[e]
 rw[h3];exact mF.append_left _
def aq.ep{z:Exit}{L2:aa aA}(h:L=L2)(k:aq c Q z E L2):aq c Q z E L:=by subst h;exact k
def aq.mg{z:Exit}{key:av Nat}{n m cap:Nat}(fq:Nat)(ao:look E fq=some (.eq (aZ key n cap)))(aG:n=m)(k:aq c Q z ((fq,.eq (aZ key m cap))::E) L):aq c Q z E L:=λa W s=>by
 subst aG;refine k a W (s.less λt τ h=>?_);simp only[look]at h;by_cases e:Nat.beq fq t=true
 ·rw[e]at h;simp only[cond_true]at h;have:=eO.1 e;subst this;exact⟨τ,by rw[ao,h],λ_ _ _ h=>h⟩
 simp only[kN]at e;rw[e]at h;exact⟨τ,h,λ_ _ _ h=>h⟩
variable{hs:aa c0}{i d:Nat}{up rd:aa Nat}{fA:(Nat->Hid)->Nat->aA}{o:Oper}
def iL{τ:J}(bu:o.guard=none)(hd:o.dst=some d)(aG:Nat.blt d c.n=true)
 (h:∀(hd:Nat->Hid) (E':aa (Nat×J)) (L':aa aA),(∀t τ,look (jw hd hs E up) t=some τ->look E' t=some τ)->(∀j e,(fH (λ_=>true) hd 0 (hs.take i) L)[j]? =some e->rd.contains j=true->L'[j]? =some e)->ba c E' L' o τ):
 fS c ops Q hs E L i o ⟨some d,up,rd,[],λ_=>τ,fA⟩:=λEj E' L' aK ar=>
 ae.v (h Ej E' L' aK ar) bu hd aG (ae.nil (aq.fin (λ_=>none) I I))
def aik{j g:Nat}{b want:Bool}{τ:J}(bu:o.guard=some (j,want))(aD:(ops[j]?).bind (·.dst)=some g)(hd:o.dst=some d)(aG:Nat.blt d c.n=true)
 (ao:∀hd,look (jw hd hs E up) g=some (.of b))
 (h:∀(hd:Nat->Hid) (E':aa (Nat×J)) (L':aa aA),(∀t τ,look (jw hd hs E up) t=some τ->look E' t=some τ)->(∀j e,(fH (λ_=>true) hd 0 (hs.take i) L)[j]? =some e->rd.contains j=true->L'[j]? =some e)->b=want->ba c E' L' o τ):
 fS c ops Q hs E L i o ⟨some d,up,rd,[],λ_=>.cond (b=want) τ,fA⟩:=λEj E' L' aK ar=>
 ae.g (h Ej E' L' aK ar) bu aD (aK _ _ (ao Ej)) hd aG (ae.nil (aq.fin (λ_=>none) I I))
variable{ty t:bo}{pos:String}{af:Array Edge}
def ae.Vw{α:Type}[ag α]{rest:aa Oper}{aV e n:Nat}{z:α}{r0 r:aa α}{dj:aa (Nat×bO)}(hu:c.P.underlying t=some (.slice e))(dO:bG c.P e α)(fP:cN c.P e z)(hs:Nat.beq (ag.size α) 0=false)(aG:Nat.ble (n*ag.size α) 16777216=true)
 (aU:nw c E L (List.replicate n z) dj r0) (aC:r0=r) (iQ:Nat.blt aV c.n=true) (k:∀p,ae c ops Q rest ((aV,.eq (aZ p r.length n))::E) (⟨p,.row e r n⟩::L)):
 ae c ops Q (⟨some aV,.buildSlice t n dj.toArray,ty,pos,af,none⟩::rest) E L:=by subst aC;exact ae.rh hu dO fP hs aG aU iQ k
variable{g:av (Nat×Bool)}{x y:bO}
end
section
variable{c:bW}{E:aa (Nat×J)}{L:aa aA}{ops:Array Oper}{Q:Exit->Act->bc->Prop}
variable{d:av Tmp}{ty:bo}{pos:String}{af:Array Edge}{g:av (Nat×Bool)}{x y:bO}{t t2:bo}
def Src(c:bW)(E:aa (Nat×J))(L:aa aA)(y:bO)(N:Nat){α:Type}[ag α](vs:aa α):Prop:=
 ∀a W,bA c E L a W->(Builtin.lenOf (a.eval y)).run c.P W=.ok N W∧∃cells:aa bd,(Builtin.firstCells (ag.size α) vs.length (a.eval y)).run c.P W=.ok cells.toArray W∧gi (ks L++c.bL) W cells vs∧∀v∈cells,v.oneCell'=true
def ae.H8{rest:aa Oper}{i e p off aV dLen dCap N T:Nat}{cp cp':dN}{α:Type}[ag α]{vs:aa α}(hu:c.P.underlying t=some (.slice e))(dO:bG c.P e α)
 (al:aL c E L x (.eq (.slice (some ⟨p,off,none⟩) dLen dCap))) (hy:Src c E L y N vs) (aji:Nat.min N dLen=vs.length) (ar:L[i]? =some ⟨some p,cp⟩) (aG:Nat.blt aV c.n=true)
 (ak1:∀A W o cells,cp.holds A W o->gi A W cells vs->∃cs,o=.cells cs T (0,0)∧off+cells.length<=cs.size∧cp'.holds A W (.cells (cs.toList.take off++cells++cs.toList.drop (off+cells.length)).toArray T (0,0)))
 (k:ae c ops Q rest ((aV,.of (vs.length:Int))::E) (L.set i ⟨some p,cp'⟩)):
 ae c ops Q (⟨some aV,.call ⟨.builtin .copy,#[x,y],#[t,t2]⟩,ty,pos,af,none⟩::rest) E L:=λa W s=>by
 have iQ:aV<c.n:=by simpa using aG
 have h1:a.eval x=_:=al a W s
 obtain⟨ao,cells,ak,aC,AO⟩:=hy a W s
 obtain⟨o,aS,ch⟩:=s.own _ (er ar)
 obtain⟨cs,rfl,Iw,qw⟩:=ak1 _ _ _ _ ch aC
 obtain⟨fG,dv,da⟩:=dO.info
 have cU:=BH (P:=c.P) p off T cells 0 cs W aS (by omega) AO
 simp only[Nat.add_zero]at cU
 have iM:(execOp a.eval ⟨some aV,.call ⟨.builtin .copy,#[x,y],#[t,t2]⟩,ty,pos,af,none⟩).run c.P W=.ok (.value (goInt vs.length)) (W.setRow p (cs.toList.take off++cells++cs.toList.drop (off+cells.length)).toArray):=by
  simp[execOp,resolve,invoke,builtin,Builtin.copy_,h1,dn hu,ao,aji,Go.sizeOf,typeInfo,dv,da,ak,cU]
 refine hl I (R:=λv gR=>v=goInt vs.length∧gR=W.setRow p (cs.toList.take off++cells++cs.toList.drop (off+cells.length)).toArray) (.lj iM ⟨rfl,rfl⟩) λv gR ⟨a7,hw⟩=>?_
 subst a7
 subst hw
 exact k _ _ ((s.store ar aS qw).put iQ (of_int.2 I))
def Hh{i T cap lo N k:Nat}{key:av Nat}{α:Type}[ag α]{xs:aa α}(hy:aL c E L y (.eq (hK key lo N cap (ag.size α))))(ar:L[i]? =some ⟨key,.row T xs cap⟩)(hk:0<k)(h7:lo+k<=xs.length):
 Src c E L y N ((xs.drop lo).take k):=λa W s=>by
 obtain⟨p,cs,rfl,eH,g1,g2,g3,g4⟩:=s.rowAt ar (by omega)
 have h1:a.eval y=_:=hy a W s
 have lv:cap≠lo:=by omega
 have a7:a.eval y=.slice (some ⟨p,lo*ag.size α,none⟩) N (cap-lo):=by rw[h1];simp[hK,lv]
 have hlen:((xs.drop lo).take k).length=k:=by rw[fg,jh];omega
 have vK:cs.toList.length=cap*ag.size α:=by simpa using g1
 have ajj:(lo+k)*ag.size α<=xs.length*ag.size α:=gp _ h7
 have Iv:xs.length*ag.size α<=cap*ag.size α:=gp _ g2
 rw[lG]at ajj
 have V4:((cs.toList.drop (lo*ag.size α)).take (k*ag.size α)).length=k*ag.size α:=by rw[fg,jh];omega
 have fU:gi (ks L++c.bL) W ((cs.toList.drop (lo*ag.size α)).take (k*ag.size α)) ((xs.drop lo).take k):=by
  refine⟨by rw[V4,hlen],λj aD=>?_⟩;rw[hlen]at aD;have a6:=g4.2 (lo+j) (by omega);have fV:=zZ (s:=ag.size α) aD;have am2:=zZ (s:=ag.size α) (show lo+j<xs.length by omega);rw[tg,p8,nk (by omega)]at a6;rw[tg,p8,nk (by omega),B8,<-lG];simpa using a6
 have e5:=FK (P:=c.P) W ⟨p,lo*ag.size α,none⟩ ((cs.toList.drop (lo*ag.size α)).take (k*ag.size α)) λj v a7=>by
  rw[jB,Ct W p _ cs T (0,0) eH];rw[jN]at a7;split at a7
  ·rw[kM]at a7;simpa using a7
  cases a7
 rw[V4]at e5
 refine⟨by rw[a7];rfl,(cs.toList.drop (lo*ag.size α)).take (k*ag.size α),?_,fU,fU.one⟩
 rw[a7]
 simp only[Builtin.firstCells]
 rw[hlen]
 exact e5
def L1{p lo n cap size:Nat}(h:cap≠lo):hK (some p) lo n cap size=Value.slice (some ⟨p,lo*size,none⟩) n (cap-lo):=by simp[hK,h]
def Tc{i T cap:Nat}{key:av Nat}{α:Type}[ag α]{xs:aa α}(hy:aL c E L y (.eq (aZ key xs.length cap)))(ar:L[i]? =some ⟨key,.row T xs cap⟩)(al:0<xs.length):Src c E L y xs.length xs:=by
 have:=Hh (lo:=0) (k:=xs.length) (N:=xs.length) (by rw[zG];exact hy) ar al (by omega);simpa using this
def HF{key:av Nat}{n cap size:Nat}(h:aL c E L x (.eq (hK key 0 n cap size))):aL c E L x (.eq (aZ key n cap)):=by rw[<-zG (size:=size)];exact h
def Mo{p lo n cap size:Nat}(ak:cap≠lo)(h:aL c E L x (.eq (hK (some p) lo n cap size))):aL c E L x (.eq (.slice (some ⟨p,lo*size,none⟩) n (cap-lo))):=by rw[<-L1 ak];exact h
def dN.D4{α:Type}[ag α](T:bo)(xs:aa α)(i m cap:Nat):dN where
 holds A W o:=∃cs,o=.cells cs T (0,0)∧cs.size=cap*ag.size α∧xs.length+m<=cap∧cap<=maxLen∧gi A W (cs.toList.take (i*ag.size α)) (xs.take i)∧
  gi A W ((cs.toList.drop ((i+m)*ag.size α)).take ((xs.length-i)*ag.size α)) (xs.drop i)
 nA:=False
 mono e h:=let⟨cs,h1,ad,ay,aN,a6,bh⟩:=h; ⟨cs,h1,ad,ay,aN,a6.mono e,bh.mono e⟩
def ac3{α:Type}[ag α]{T i m cap:Nat}{xs:aa α}(aw:i<=xs.length)(hm:xs.length+m<=cap){A W o cells}(h:(dN.row T xs cap).holds A W o)(ak:gi A W cells (xs.drop i)):
 ∃cs,o=.cells cs T (0,0)∧(i+m)*ag.size α+cells.length<=cs.size∧(dN.D4 T xs i m cap).holds A W (.cells (cs.toList.take ((i+m)*ag.size α)++cells++cs.toList.drop ((i+m)*ag.size α+cells.length)).toArray T (0,0)):=by
 obtain⟨cs,rfl,g1,g2,g3,g4⟩:=h
 have vK:cs.toList.length=cap*ag.size α:=by simpa using g1
 have lv:cells.length=(xs.length-i)*ag.size α:=by rw[ak.1,jh]
 have az:(i+m)*ag.size α+(xs.length-i)*ag.size α=(xs.length+m)*ag.size α:=by rw[<-lG];congr 1;omega
 have a8:(xs.length+m)*ag.size α<=cap*ag.size α:=gp _ hm
 have dw:i*ag.size α<=(i+m)*ag.size α:=gp _ (by omega)
 have h2:i*ag.size α<=xs.length*ag.size α:=gp _ aw
 have nf:(cs.toList.take ((i+m)*ag.size α)).length=(i+m)*ag.size α:=by rw[fg];omega
 refine⟨cs,rfl,by omega,_,rfl,?_,hm,g3,?_,?_⟩
 ·simp only[BG,fB,fg,jh];omega
 ·rw[List.toList_toArray,h3,yQ (by rw[nf];omega),p8,nk dw]
  have:=G8 aw (⟨cs,rfl,g1,g2,g3,g4⟩:(dN.row T xs cap).holds A W (.cells cs T (0,0)))
  obtain⟨ak2,h1,_,_,_,a6⟩:=this
  cases h1
  rwa[fg,nk aw]at a6
 rw[List.toList_toArray,h3,List.drop_left' nf,<-lv,F9]
 exact ak
def ab9{α:Type}[ag α]{T i cap:Nat}{xs vs:aa α}(aw:i<=xs.length){A W o cells}(h:(dN.D4 T xs i vs.length cap).holds A W o)(ak:gi A W cells vs):
 ∃cs,o=.cells cs T (0,0)∧i*ag.size α+cells.length<=cs.size∧(dN.row T (xs.take i++vs++xs.drop i) cap).holds A W (.cells (cs.toList.take (i*ag.size α)++cells++cs.toList.drop (i*ag.size α+cells.length)).toArray T (0,0)):=by
 obtain⟨cs,rfl,g1,g2,g3,g4,g5⟩:=h
 have vK:cs.toList.length=cap*ag.size α:=by simpa using g1
 have lv:cells.length=vs.length*ag.size α:=ak.1
 have gn:i*ag.size α+vs.length*ag.size α=(i+vs.length)*ag.size α:=by rw[<-lG]
 have az:(i+vs.length)*ag.size α+(xs.length-i)*ag.size α=(xs.length+vs.length)*ag.size α:=by rw[<-lG];congr 1;omega
 have a8:(xs.length+vs.length)*ag.size α<=cap*ag.size α:=gp _ g2
 have hlen:(xs.take i++vs++xs.drop i).length=xs.length+vs.length:=by simp;omega
 refine⟨cs,rfl,by omega,_,rfl,?_,by rw[hlen];exact g2,g3,?_⟩
 ·simp only[BG,fB,fg,jh];omega
 rw[List.toList_toArray,hlen]
 have oj:=uW (uW g4 ak) g5
 have nf:(cs.toList.take (i*ag.size α)++cells).length=(i+vs.length)*ag.size α:=by rw[fB,fg];omega
 have yx:(cs.toList.take (i*ag.size α)++cells++cs.toList.drop (i*ag.size α+cells.length)).take ((xs.length+vs.length)*ag.size α)=cs.toList.take (i*ag.size α)++cells++(cs.toList.drop ((i+vs.length)*ag.size α)).take ((xs.length-i)*ag.size α):=by
  rw[FV,nf,qS (by omega),lv,gn];congr 2;omega
 rw[yx]
 exact oj
def LH{α:Type}[ag α]{T lo cap:Nat}{xs vs:aa α}(hk:lo+vs.length<=xs.length){A W o cells}(h:(dN.row T xs cap).holds A W o)(ak:gi A W cells vs):
 ∃cs,o=.cells cs T (0,0)∧lo*ag.size α+cells.length<=cs.size∧(dN.row T (xs.take lo++vs++xs.drop (lo+vs.length)) cap).holds A W (.cells (cs.toList.take (lo*ag.size α)++cells++cs.toList.drop (lo*ag.size α+cells.length)).toArray T (0,0)):=by
 obtain⟨cs,rfl,g1,g2,g3,g4⟩:=h
 have vK:cs.toList.length=cap*ag.size α:=by simpa using g1
 have lv:cells.length=vs.length*ag.size α:=ak.1
 have gn:lo*ag.size α+vs.length*ag.size α=(lo+vs.length)*ag.size α:=by rw[<-lG]
 have az:(lo+vs.length)*ag.size α<=xs.length*ag.size α:=gp _ hk
 have a8:xs.length*ag.size α<=cap*ag.size α:=gp _ g2
 have hlen:(xs.take lo++vs++xs.drop (lo+vs.length)).length=xs.length:=by simp;omega
 refine⟨cs,rfl,by omega,_,rfl,?_,by rw[hlen];exact g2,g3,?_⟩
 ·simp only[BG,fB,fg,jh];omega
 rw[List.toList_toArray,hlen]
 have g5:=R0 (lo:=lo) g4 ak hk
 have e:(cs.toList.take (lo*ag.size α)++cells++cs.toList.drop (lo*ag.size α+cells.length)).take (xs.length*ag.size α)=(cs.toList.take (xs.length*ag.size α)).take (lo*ag.size α)++cells++(cs.toList.take (xs.length*ag.size α)).drop (lo*ag.size α+cells.length):=by
  have dw:(cs.toList.take (lo*ag.size α)++cells).length=lo*ag.size α+cells.length:=by rw[fB,fg];omega
  rw[FV,dw,qS (by omega),p8,nk (by omega),tg]
 rw[e]
 exact g5
def aeb{p n cap e:Nat}(hu:c.P.underlying t=some (.slice e))(al:aL c E L x (.eq (aZ (some p) n cap))):ba c E L ⟨d,.call ⟨.builtin .cap,#[x],#[t]⟩,ty,pos,af,g⟩ (.of (cap:Int)):=.pure λa W s=>by
 have h1:a.eval x=_:=al a W s;exact⟨.int .i64 cap,by simp[execOp,resolve,invoke,builtin,Builtin.cap_,h1,aZ,dn hu,goInt],of_int.2 I⟩
def ts{p n cap:Nat}{α:Type}[ag α]{e:bo}{lo aw:av bO}{m h:Nat}{E9 Fa:Int}(hu:c.P.underlying t=some (.slice e))(dO:bG c.P e α)(al:aL c E L x (.eq (aZ (some p) n cap)))
 (h7:v7 c E L lo E9 0) (gl:v7 c E L aw Fa n) (hm:E9=m) (aG:Fa=h) (ch:m<=h∧h<=cap):
 ba c E L ⟨d,.slice t x lo aw none,ty,pos,af,g⟩ (.eq (hK (some p) m (h-m) cap (ag.size α))):=.pure λa W s=>by
 subst hm;subst aG
 obtain⟨ua,lu⟩:=ch
 obtain⟨fG,dv,da⟩:=dO.info
 have h1:a.eval x=_:=al a W s
 refine⟨_,?_,rfl⟩
 simp only[hK]
 have ar:∀v,v=Value.int .i64 m->(Instr.sliceBound v h .sliceB).run c.P W=.ok m W:=λv a7=>qc ua a7
 have hH:∀v,v=Value.int .i64 h->(Instr.sliceBound v cap .sliceAcap).run c.P W=.ok h W:=λv a7=>qc (by omega) a7
 generalize fV:(h:Int)=XB at gl
 generalize Ed:(m:Int)=XC at h7
 generalize x7:(n:Int)=XD at gl
 generalize WU:(0:Int)=XE at h7
 cases h7 with
 | none=>
   have gL:m=0:=by omega
   cases gl with
   | none=>
     have lu:h=n:=by omega
     subst lu
     subst gL
     simp[execOp,Instr.sliceAt,Instr.slice,Instr.sliceBounds,h1,aZ,dn hu,Go.sizeOf,typeInfo,dv,da,jB]
   | some ch=>
     subst fV
     subst gL
     simp[execOp,Instr.sliceAt,Instr.slice,Instr.sliceBounds,h1,aZ,dn hu,Go.sizeOf,typeInfo,dv,da,jB,hH _ (of_int.1 (ch a W s))]
 | some ao=>
   subst Ed
   cases gl with
   | none=>
     have lu:h=n:=by omega
     subst lu
     simp[execOp,Instr.sliceAt,Instr.slice,Instr.sliceBounds,h1,aZ,dn hu,Go.sizeOf,typeInfo,dv,da,jB,ar _ (of_int.1 (ao a W s))]
     split <;> rfl
   | some ch=>
     subst fV
     simp[execOp,Instr.sliceAt,Instr.slice,Instr.sliceBounds,h1,aZ,dn hu,Go.sizeOf,typeInfo,dv,da,jB,ar _ (of_int.1 (ao a W s)),hH _ (of_int.1 (ch a W s))]
     split <;> rfl
def agn{f:FuncId}{fn:Func}{p q T U cap cap' i j e tR dP XH fj yy XI pv:Nat}{α:Type}[ag α]{xs vs:aa α}(DF:Nat.beq (ag.size α) 0=false)
 (aU:c.P.funcs[f]? =some fn) (agQ:(fn.name== "runtime.NumGoroutine")=false) (hb:fn.body.isNone=true) (aG:Extern.findNext fn=none)
 (he:Extern.find fn=some (Extern.SlicesOverlaps.overlaps #[t,t] #[tR])) (hu:c.P.underlying t=some (.slice e)) (dO:bG c.P e α)
 (al:aL c E L x (.eq (.slice (some ⟨q,XI,none⟩) dP XH))) (hy:aL c E L y (.eq (.slice (some ⟨p,pv,none⟩) fj yy)))
 (aw:L[i]? =some ⟨some p,.row T xs cap⟩) (aD:L[j]? =some ⟨some q,.row U vs cap'⟩) (IQ:p≠q) (vr:0<cap):
 ba c E L ⟨d,.call ⟨.value (.func f),#[x,y],#[t,t]⟩,ty,pos,af,g⟩ (.of false):=.pure λa W s=>by
 obtain⟨o,aS,cs,rfl,g1,g2,g3,g4⟩:=s.own _ (er aw)
 obtain⟨o',ox,dY,rfl,aW,bP,dc,eW⟩:=s.own _ (er aD)
 obtain⟨fG,dv,da⟩:=dO.info
 have h1:a.eval x=_:=al a W s
 have ad:a.eval y=_:=hy a W s
 have k1:ag.size α≠0:=λh=>by rw[h]at DF;cases DF
 have cR:cs.size≠0:=by rw[g1];exact Nat.mul_ne_zero (by omega) k1
 have I3:=Lib.run_overlaps_apart (P:=c.P) W t tR e hu (ag.size α) (λw=>by simp[Go.sizeOf,typeInfo,dv,da]) ⟨q,XI,none⟩ ⟨p,pv,none⟩ dP XH fj yy (λh=>IQ h.symm) U T dY.size cs.size
  (by simp[World.shape?,ox]) (by simp[World.shape?,aS]) cR (by simp[World.frozen?,ox]) (by simp[World.frozen?,ox])
 refine⟨.bool false,?_,by exact of_bool.2 I⟩
 have bw:a.eval (.func f)=.func (.func f) #[] #[]:=rfl
 simp[execOp,resolve,Deferred.ofValue,bw,invoke,run_callFunc_extern aU agQ hb aG he,h1,ad,I3]
def ae.aiL{α:Type}[ag α]{rest:aa Oper}{aV i e bytes cap m k p T:Nat}{jJ:IntKind}{xs:aa α}{z:α}(hu:c.P.underlying t=some (.slice e))(kE:c.P.underlying t2=some (.int jJ))(dO:bG c.P e α)(fP:cN c.P e z)(DF:Nat.beq (ag.size α) 0=false)
 (x8:(c.P.info? e).map (·.bytes)=some bytes) (al:aL c E L x (.eq (hK (some p) 0 m cap (ag.size α)))) (hy:aL c E L y (.of (k:Int))) (ar:L[i]? =some ⟨some p,.row T xs cap⟩) (hm:m<=xs.length) (hk:0<k) (bu:cap<m+k)
 (rC:(m+k)*bytes<=140737488355328) (pT:m+k<=maxLen) (aG:Nat.blt aV c.n=true)
 (lF:∀q cap',ae c ops Q rest ((aV,.eq (aZ (some q) (m+k) cap'))::E) (⟨some q,.row e (xs.take m++List.replicate k z) cap'⟩::L)):
 ae c ops Q (⟨some aV,.call ⟨.builtin .append,#[x,y],#[t,t2]⟩,ty,pos,af,none⟩::rest) E L:=λa W s=>by
 obtain⟨fG,dk,dv,b4,sV⟩:=fP.zero
 have om:fG.size=ag.size α:=by
  obtain⟨i2,h1,ad⟩:=dO.info;rw[dv]at h1;cases h1;exact ad
 have MC:fG.bytes=bytes:=by simpa[dv]using x8
 subst MC
 have x9:dk.cells.size=ag.size α:=by have:=ag.len (sV [] W).2;simpa using this
 have k1:ag.size α≠0:=λh=>by rw[h]at DF;cases DF
 have iQ:aV<c.n:=by simpa using aG
 have h1:a.eval x=.slice (some ⟨p,0,none⟩) m cap:=by
  have:=al a W s;rw[zG]at this;exact this
 obtain⟨o,aS,cs,rfl,g1,g2,g3,g4⟩:=s.own _ (er ar)
 have rD:maxLen=9223372036854775807:=rfl
 have ad:a.eval y=.int .i64 k:=of_int.1 (hy a W s)
 have ajk:=G8 hm (⟨cs,rfl,g1,g2,g3,g4⟩:(dN.row T xs cap).holds (ks L++c.bL) W (.cells cs T (0,0)))
 obtain⟨ak2,az,_,_,_,Ek⟩:=ajk
 cases az
 have NV:(xs.take m).length=m:=by rw[fg];omega
 rw[NV]at Ek
 have xz:∀(j:Nat) u,(cs.toList.take (m*ag.size α))[j]? =some u->W.drew.cell? ((⟨p,0,none⟩:Addr).add j)=some u:=by
  intro j u mZ;rw[jN]at mZ;split at mZ
  ·rw[jB,iS,Ct W.drew p j cs T (0,0) aS];simpa using mZ
  cases mZ
 have hold:=FK (P:=c.P) W.drew ⟨p,0,none⟩ _ xz
 rw[Ek.1,NV]at hold
 have aC:=Lib.run_append_grow_zeros (P:=c.P) W t t2 ty e fG dk .i64 jJ hu kE dv b4 (some ⟨p,0,none⟩) m cap _ (by simp only[Builtin.firstCells];rw[om];exact hold) k hk (by omega) bu (by omega)
  (by have:k*fG.bytes<=(m+k)*fG.bytes:=gp _ (by omega)
      omega) (growslice_fits bu rC)
 have uf:=grownCap_ge W (m+k) cap e
 have hle:=grownCap_le_maxLen W (m+k) cap e pT
 have IZ:=sV (ks L++c.bL) W
 have rG:=CM IZ k k1
 have Om:Builtin.zeroCells dk.cells k=(Array.range (k*ag.size α)).map (dk.cells[· % dk.cells.size]!):=by rw[Builtin.zeroCells,x9]
 rw[<-Om]at rG
 have Ar:=(uW Ek rG).mono (Ext.cW (Fr.drew W))
 have hlen:(xs.take m++List.replicate k z).length=m+k:=by rw[fB,NV,Bp]
 have cU:=(s.world (Fr.drew W)).alloc (o:=.cells ((cs.toList.take (m*ag.size α)).toArray++Builtin.zeroCells dk.cells k++Builtin.zeroCells dk.cells (grownCap W (m+k) cap e-(m+k))) e)
  (cp:=.row e (xs.take m++List.replicate k z) (grownCap W (m+k) cap e))
  (L5 (T:=e) Ar (ds:=(Builtin.zeroCells dk.cells (grownCap W (m+k) cap e-(m+k))).toList) (by rw[Array.length_toList,size_zeroCells,x9,hlen]) (by rw[hlen];exact uf) hle (by simp))
 refine hl I (R:=λv gR=>v=aZ (some W.heap.size) (m+k) (grownCap W (m+k) cap e)∧gR=W.drew.alloc (.cells ((cs.toList.take (m*ag.size α)).toArray++Builtin.zeroCells dk.cells k++Builtin.zeroCells dk.cells (grownCap W (m+k) cap e-(m+k))) e)) (.lj ?_ ⟨rfl,rfl⟩) λv gR ⟨a7,hw⟩=>?_
 ·simp only[execOp,resolve,invoke,builtin,df,Sem.run_pure,Result.andThen_ok]
  have az:(#[x,y]:Array bO).map a.eval= #[a.eval x,a.eval y]:=by simp
  rw[az,h1,ad,aC]
  rfl
 subst a7
 subst hw
 exact lF _ _ _ _ (cU.put iQ I)
def ax.some{code:Code}{i T cap:Nat}{key:av Nat}{α:Type}[ag α]{xs:aa α}(ar:L[i]? =Option.some ⟨key,.row T xs cap⟩)(al:0<xs.length)(k:∀p,key=Option.some p->xs.length<=cap->cap<=maxLen->ax c Q code E L):ax c Q code E L:=λa W s=>by
 obtain⟨p,cs,rfl,eH,g1,g2,g3,g4⟩:=s.rowAt ar al;exact k p I g2 g3 a W s
def ax.apart{code:Code}{p q:Nat}{cp cp':dN}{L':aa aA}(ar:L=⟨Option.some p,cp⟩::⟨Option.some q,cp'⟩::L')(k:p≠q->ax c Q code E L):ax c Q code E L:=λa W s=>by
 refine k (λe=>?_) a W s;have:=s.nodup;rw[ar,e]at this;simp[ks]at this
def Sx{α γ:Type}[ag α][ag γ]{A W}{cs:aa bd}{x:α}{os:aa (Nat×bd)}{u:bd}(l:aO α (aa γ))(h:lN A W cs x os)(hq:(l.off,u)∈os):lN A W cs (l.set x []) os:=by
 refine⟨?_,h.2⟩;have h1:=l.mc (ds:=[kA]) (g:=([]:aa γ)) h.1 (show ag.rep A W [kA] ([]:aa γ)from by
  have:=(n1 (A:=A) (W:=W) (v:=kA) (xs:=([]:aa γ))).2 (.inl ⟨rfl,rfl⟩);exact this.2)
 have hb:(blank os cs)[l.off]? =some kA:=by
  rw[sg,bm (nj.2 ⟨_,hq,by simp⟩),(h.2 _ hq).1];rfl
 have bS:l.off<(blank os cs).length:=(fY.1 hb).1;have he:(blank os cs).take l.off++[kA]++(blank os cs).drop (l.off+ag.size (aa γ))=blank os cs:=by
  show(blank os cs).take l.off++[kA]++(blank os cs).drop (l.off+1)=blank os cs;have ad:(blank os cs)[l.off]=kA:=(fY.1 hb).2;rw[<-ad,h3,List.singleton_append,JL,fw]
 rwa[he]at h1
def ae.IG{Fb:aa Oper}{p:Nat}{β γ:Type}[ag β][ag γ]{b b':β}{os:aa (Nat×bd)}{u:bd}(l:aO β (aa γ))(i q:Nat)(ar:L[i]? =some ⟨some p,.ck b os⟩)(hq:os[q]? =some (l.off,u))(hb:l.set b []=b')
 (k:ae c ops Q Fb E (L.set i ⟨some p,.ck b' os⟩)):ae c ops Q Fb E L:=λa W s=>
 k a W (s.again ar (λA W o ⟨cs,T,h1,ad⟩=>⟨cs,T,h1,hb▸Sx l ad (er hq)⟩) id)
def aq.IG{z:Exit}{p:Nat}{β γ:Type}[ag β][ag γ]{b b':β}{os:aa (Nat×bd)}{u:bd}(l:aO β (aa γ))(i q:Nat)(ar:L[i]? =some ⟨some p,.ck b os⟩)(hq:os[q]? =some (l.off,u))(hb:l.set b []=b')
 (k:aq c Q z E (L.set i ⟨some p,.ck b' os⟩)):aq c Q z E L:=λa W s=>
 k a W (s.again ar (λA W o ⟨cs,T,h1,ad⟩=>⟨cs,T,h1,hb▸Sx l ad (er hq)⟩) id)
end
def DC{α:Type}(bytes:Nat)(xs:aa α)(i:Int)(vs:aa α):av (aa α):=
 if 0<=i∧i<=xs.length∧0<vs.length∧(xs.length+vs.length)*bytes<=140737488355328∧xs.length+vs.length<=maxLen then some (xs.take i.toNat++vs++xs.drop i.toNat)else none
def abq{α:Type}{bytes:Nat}{xs vs r:aa α}{i:Int}(h:DC bytes xs i vs=some r):
 ∃k:Nat,i=k∧k<=xs.length∧0<vs.length∧(xs.length+vs.length)*bytes<=140737488355328∧xs.length+vs.length<=maxLen∧r=xs.take k++vs++xs.drop k:=by
 unfold DC at h
 split at h
 ·rename_i ak
  obtain⟨h1,ad,ay,aN,a6⟩:=ak
  exact⟨i.toNat,by omega,by omega,ay,aN,a6,(by simp only[fC]at h;exact h.symm)⟩
 cases h
end Gv
