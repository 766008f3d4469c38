/-
  The library of the decompiler, as far as it is needed here. Conditions: none.
-/
import Derived.WalkKit
import Derived.StillTail
import Derived.OwnWalkIn
import Derived.RangeFuncNested
import Derived.RangeFuncLeaves
import Derived.RangeFuncCalls
import Derived.ChangeSame
import Derived.OpenShut
import Derived.Carry
import Derived.DataReads
set_option linter.defProp false
set_option linter.unusedVariables false
set_option linter.unusedSimpArgs false
namespace Gv
open Go
def I{α:Sort _}{a:α}:a=a:=rfl
def r1:True:=trivial
abbrev aa:=@List
abbrev aw:=@Option
abbrev bf:=@Go.World
abbrev bl:=@Go.Value
abbrev bx:=@Go.TypeId
abbrev bZ:=@Go.Operand
def To:=@Array.all_eq_true_iff_forall_mem
def Tq:=@Array.getD_eq_getD_getElem?
def ve:=@Array.getElem?_append_left
def Ij:=@Array.getElem?_eq_getElem
def TC:=@Array.getElem?_eq_none
def q4:=@Array.getElem?_eq_some_iff
def MZ:=@Array.getElem?_modify
def yY:=@Array.getElem?_setIfInBounds_ne
def w2:=@Array.getElem?_toList
def MQ:=@Array.size_setIfInBounds
def TV:=@Array.toList_filter
def Ty:=@BitVec.eq_of_getLsbD_eq
def y0:=@BitVec.eq_of_toNat_eq
def TP:=@BitVec.getLsbD_of_ge
def MM:=@BitVec.getLsbD_ushiftRight
def TW:=@BitVec.getLsbD_zero
def NA:=@BitVec.lt_def
def TH:=@BitVec.toNat_setWidth
def Tv:=@BitVec.toNat_ushiftRight
def gq:=@Bool.and_eq_true
def Bw:=@Bool.eq_false_iff
def oo:=@Bool.eq_iff_iff
def rK:=@Bool.false_eq_true
def sL:=@Bool.false_or
def T7:=@Bool.not_eq_false'
def kX:=@Bool.not_eq_true
def vh:=@Bool.not_eq_true'
def NB:=@Bool.not_true
def TQ:=@Bool.or_eq_false_iff
def oq:=@Bool.or_eq_true
def zd:=@Bool.true_and
def NQ:=@Bool.true_or
def MO:=@Classical.byContradiction
def JD:=@Eq.trans
def w0:=@Int.eq_ofNat_of_zero_le
def NY:=@Int.le_refl
def T8:=@Int.natCast_nonneg
def T9:=@Int.tmod_lt_of_pos
def IW:=@List.Perm.refl
def y9:=@List.Sublist.refl
def kH:=@List.all_eq_true
def w7:=@List.any_eq_false
def oQ:=@List.any_eq_true
def jn:=@List.append_assoc
def Ik:=@List.append_cancel_left
def M0:=@List.append_inj_left'
def ma:=@List.append_nil
def Ua:=@List.contains_cons
def M1:=@List.contains_iff_mem
def TI:=@List.contains_toArray
def Il:=@List.countP_le_length
def Ni:=@List.count_append
def Ub:=@List.count_eq_zero
def Ip:=@List.count_le_length
def Nj:=@List.drop_append
def Tp:=@List.drop_append_of_le_length
def EN:=@List.drop_drop
def vf:=@List.drop_eq_getElem_cons
def TR:=@List.drop_eq_nil_iff
def Bm:=@List.drop_eq_nil_of_le
def w9:=@List.drop_length
def DX:=@List.drop_of_length_le
def TX:=@List.drop_succ_cons
def vm:=@List.drop_take
def vn:=@List.drop_zero
def DP:=@List.eq_nil_of_length_eq_zero
def M6:=@List.eraseIdx_set_eq
def Er:=@List.ext_getElem
def l9:=@List.ext_getElem?
def TJ:=@List.filterMap_append
def Tw:=@List.filterMap_cons_some
def vg:=@List.filter_append
def w1:=@List.filter_cons_of_neg
def Bl:=@List.filter_cons_of_pos
def MW:=@List.filter_eq_nil_iff
def y4:=@List.filter_eq_self
def TY:=@List.filter_sublist
def TD:=@List.find?_cons_of_pos
def Iw:=@List.find?_eq_none
def Na:=@List.flatMap_append
def Tz:=@List.flatMap_eq_nil_iff
def IP:=@List.forIn_cons
def M7:=@List.getElem?_append
def Bk:=@List.getElem?_append_left
def DQ:=@List.getElem?_append_right
def lp:=@List.getElem?_drop
def qf:=@List.getElem?_eq_getElem
def M3:=@List.getElem?_eq_none
def fL:=@List.getElem?_eq_some_iff
def TE:=@List.getElem?_eraseIdx
def Ef:=@List.getElem?_map
def oP:=@List.getElem?_set
def w3:=@List.getElem?_set_ne
def Bn:=@List.getElem?_set_self
def jR:=@List.getElem?_take
def MX:=@List.getElem_cons_drop
def Es:=@List.getElem_map
def om:=@List.getElem_mem
def TZ:=@List.getElem_of_mem
def Nh:=@List.getElem_range
def fh:=@List.length_append
def ku:=@List.length_drop
def TF:=@List.length_eq_one_iff
def DU:=@List.length_eq_zero_iff
def Tx:=@List.length_erase_of_mem
def Bo:=@List.length_filter_le
def kY:=@List.length_map
def TG:=@List.length_pos_of_mem
def Bx:=@List.length_range
def DZ:=@List.length_replicate
def vk:=@List.length_set
def fy:=@List.length_take
def vl:=@List.map_append
def D6:=@List.map_congr_left
def mb:=@List.map_cons
def T0:=@List.map_eq_nil_iff
def xd:=@List.map_map
def Jk:=@List.map_nil
def ca:=@List.mem_append
def M8:=@List.mem_append_left
def D0:=@List.mem_append_right
def dO:=@List.mem_cons
def gd:=@List.mem_cons_of_mem
def ln:=@List.mem_cons_self
def TS:=@List.mem_erase_of_ne
def sI:=@List.mem_filter
def w4:=@List.mem_filterMap
def D3:=@List.mem_iff_getElem
def l8:=@List.mem_iff_getElem?
def gY:=@List.mem_map
def eo:=@List.mem_of_getElem?
def Bs:=@List.mem_of_mem_drop
def Tt:=@List.mem_or_eq_of_mem_set
def lq:=@List.mem_range
def gX:=@List.mem_singleton
def sG:=@List.nil_sublist
def nd:=@List.nodup_append
def lQ:=@List.nodup_cons
def Nw:=@List.nodup_nil
def xa:=@List.not_mem_nil
def Iq:=@List.pairwise_append
def nQ:=@List.pairwise_cons
def Eg:=@List.pairwise_map
def nc:=@List.perm_append_comm
def Ts:=@List.perm_ext_iff_of_nodup
def q5:=@List.perm_middle
def EA:=@List.range_succ
def TK:=@List.set_getElem_self
def Uc:=@List.singleton_inj
def Eh:=@List.size_toArray
def I4:=@List.take_add
def Ei:=@List.take_add_one
def IH:=@List.take_append
def gb:=@List.take_append_drop
def Bj:=@List.take_append_of_le_length
def IX:=@List.take_left
def nf:=@List.take_length
def sF:=@List.take_of_length_le
def rM:=@List.take_take
def I5:=@Nat.add_assoc
def NR:=@Nat.add_comm
def nh:=@Nat.add_mul
def TA:=@Nat.add_sub_cancel_left
def ng:=@Nat.beq_refl
def TL:=@Nat.ble_eq_true_of_le
def EB:=@Nat.div_add_mod
def No:=@Nat.div_eq_of_lt
def TM:=@Nat.div_lt_iff_lt_mul
def TT:=@Nat.div_lt_of_lt_mul
def NZ:=@Nat.div_one
def TN:=@Nat.eq_of_beq_eq_true
def Ud:=@Nat.eq_zero_or_pos
def oO:=@Nat.le_of_ble_eq_true
def w6:=@Nat.le_of_lt_succ
def iu:=@Nat.le_refl
def pv:=@Nat.le_trans
def N0:=@Nat.le_zero
def I6:=@Nat.lt_irrefl
def rL:=@Nat.lt_of_lt_of_le
def sN:=@Nat.lt_or_ge
def oR:=@Nat.min_eq_left
def Nk:=@Nat.min_eq_right
def Np:=@Nat.mod_eq_of_lt
def BS:=@Nat.mod_lt
def rN:=@Nat.mul_comm
def Is:=@Nat.mul_le_mul_left
def hi:=@Nat.mul_le_mul_right
def NS:=@Nat.ne_of_lt
def N1:=@Nat.one_mul
def Eb:=@Nat.pos_of_ne_zero
def Tu:=@Nat.shiftRight_eq_div_pow
def rO:=@Nat.succ_mul
def h7:=@Nat.zero_add
def q7:=@Nat.zero_le
def zg:=@Nat.zero_mul
def zp:=@Ne.symm
def NC:=@Go.Oper.semAt_eq
def vq:=@Go.Oper.wp_mono
def TB:=@Option.bind_eq_some_iff
def MP:=@Option.isNone_iff_eq_none
def MR:=@Option.isSome_iff_exists
def uc:=@Option.some.inj
def fi:=@Option.some.injEq
def vp:=@Prod.mk.injEq
def y2:=@Go.Region.waitsFor_spec
def dI:=@Go.Sem.run_bind
def ML:=@Std.Legacy.Range.forIn_eq_forIn_range'
def ND:=@Go.StepsIn.trans
def MU:=@Go.World.putObj_heap_other
def II:=@Go.World.size_alloc
def JE:=@and_true
def TU:=@beq_eq_false_iff_ne
def oT:=@beq_iff_eq
def Et:=@beq_self_eq_true
def Js:=@Go.calls_of_wp
def E8:=@Go.cell_of_row
def ec:=@congrArg
def za:=@decide_eq_false
def mC:=@decide_eq_false_iff_not
def vo:=@decide_eq_true
def fM:=@decide_eq_true_eq
def NT:=@decide_false
def N2:=@decide_true
def BQ:=@Go.fenced_calm
def ot:=@if_false
def bn:=@if_neg
def br:=@if_pos
def mc:=@if_true
def rP:=@Go.mem_ready
def zr:=@not_or
def Ue:=@of_decide_eq_false
def w8:=@of_decide_eq_true
def xf:=@or_false
def Jt:=@Go.run_endLoop
def Ns:=@Go.run_eqGuard_agg
def Ix:=@Go.run_loadCells_list
def Ej:=@Go.run_storeCells_at
def dL:=@Go.run_underlying
def KI(w:bf)(o:Obj)(i:Nat)(h:i<w.heap.size):(w.alloc o).heap[i]? =w.heap[i]? :=by
 show(w.heap.push o)[i]? =w.heap[i]?;rw[Array.getElem?_push,bn (NS h)]
def XD(w:bf)(o:Obj):(w.alloc o).heap[w.heap.size]? =some o:=by
 show(w.heap.push o)[w.heap.size]? =some o;simp
structure Fr(X:List Nat)(W W':World):Prop where
 os:W'.os=W.os
 tape:W'.tape=W.tape
 output:W'.output=W.output
 drawn:W.drawn<=W'.drawn
 size:W.heap.size<=W'.heap.size
 block:∀k,k<W.heap.size->k∉X->W'.heap[k]? =W.heap[k]?
def Fr.refl(X:aa Nat)(W:bf):Fr X W W:=⟨rfl,rfl,rfl,iu _,iu _,λ_ _ _=>rfl⟩
def Fr.trans{X:aa Nat}{A B C:bf}(h:Fr X A B)(k:Fr X B C):Fr X A C:=
 ⟨k.os.trans h.os,k.tape.trans h.tape,k.output.trans h.output,pv h.drawn k.drawn,pv h.size k.size,
   λi ax al=>(k.block i (rL ax h.size) al).trans (h.block i ax al)⟩
def Fr.weaken{X Y:aa Nat}{A B:bf}(h:Fr X A B)(s:∀k∈X,k∈Y):Fr Y A B:=
 ⟨h.os,h.tape,h.output,h.drawn,h.size,λi ax al=>h.block i ax λhm=>al (s _ hm)⟩
def Fr.nil{X:aa Nat}{A B:bf}(h:Fr [] A B):Fr X A B:=h.weaken (by simp)
def Fr.alloc{X:aa Nat}(W:bf)(o:Obj):Fr X W (W.alloc o):=
 ⟨rfl,rfl,rfl,iu _,by simp,λk hk _=>KI W o k hk⟩
def Fr.drew{X:aa Nat}(W:bf):Fr X W W.drew:=⟨rfl,rfl,rfl,Nat.le_succ _,iu _,λ_ _ _=>rfl⟩
def Fr.setRow{X:aa Nat}(W:bf)(g:Nat)(cs:Array bl)(h:g∈X):Fr X W (W.setRow g cs):=
 ⟨rfl,rfl,rfl,iu _,by simp,λk _ al=>setRow_other W g k cs (λe=>al (e▸h))⟩
structure Ext(A:List Nat)(W:World)(cE:List Nat)(W':World):Prop where
 size:W.heap.size<=W'.heap.size
 block:∀k,k<W.heap.size->k∉A->W'.heap[k]? =W.heap[k]?
 new:∀k∈cE,k<W.heap.size->k∈A
def Ext.refl(A:aa Nat)(W:bf):Ext A W A W:=⟨iu _,λ_ _ _=>rfl,λ_ h _=>h⟩
def Ext.trans{A B C:aa Nat}{U V W:bf}(h:Ext A U B V)(k:Ext B V C W):Ext A U C W:=
 ⟨pv h.size k.size,
  λi ax a7=>(k.block i (rL ax h.size) (λhb=>a7 (h.new i hb ax))).trans (h.block i ax a7),
  λi ak ax=>h.new i (k.new i ak (rL ax h.size)) ax⟩
def Ext.YO{A X:aa Nat}{W W':bf}(h:Fr X W W')(s:∀k∈X,k∈A):Ext A W A W':=
 ⟨h.size,λk hk a7=>h.block k hk λal=>a7 (s k al),λ_ h _=>h⟩
def Ext.dk{A:aa Nat}{W W':bf}(h:Fr [] W W'):Ext A W A W':=.YO h (by simp)
def Ext.drop{A cE:aa Nat}{W:bf}(s:∀k∈cE,k∈A):Ext A W cE W:=⟨iu _,λ_ _ _=>rfl,λk h _=>s k h⟩
structure J where
 holds:List Nat->World->Value->Prop
 mono:∀{A W cE W' v},Ext A W cE W'->holds A W v->holds cE W' v
class ah (α:Type)where
 size:Nat
 agg:Bool
 rep:aa Nat->bf->aa bl->α->Prop
 len:∀{A W cs x},rep A W cs x->cs.length=size
 one:∀{A W cs x},rep A W cs x->∀v∈cs,v.oneCell'=true
 flat:agg=false->size=1
 mono:∀{A W cE W' cs x},Ext A W cE W'->rep A W cs x->rep cE W' cs x
def shaped(b:Bool)(v:bl):Prop:=if b=true then ∃cs,v=.agg cs else v.oneCell'=true
def cells_one{v:bl}(h:v.oneCell'=true):v.cells= #[v]:=by cases v <;> first|rfl|simp[Value.oneCell']at h
def J.of{α:Type}[ah α](x:α):J where
 holds A W v:=shaped (ah.agg α) v∧ah.rep A W v.cells.toList x
 mono e h:=⟨h.1,ah.mono e h.2⟩
def J.eq(u:bl):J where
 holds _ _ v:=v=u
 mono _ h:=h
def J.cond(c:Prop)(τ:J):J where
 holds A W v:=(c->τ.holds A W v)∧(¬c->v=undef)
 mono e h:=⟨λak=>τ.mono e (h.1 ak),h.2⟩
def J.any:J where
 holds _ _ _:=True
 mono _ h:=h
inductive gG(A:List Nat)(W:World):List J->List Value->Prop
 |nil:gG A W [] []
 |cons {τ v τs vs}:τ.holds A W v->gG A W τs vs->gG A W (τ::τs) (v::vs)
def gG.mono{A W cE W'}(e:Ext A W cE W'):∀{τs vs},gG A W τs vs->gG cE W' τs vs
 |_,_,.nil=>.nil
 |_,_,.cons h r=>.cons (J.mono _ e h) (r.mono e)
def gG.length{A W}:∀{τs vs},gG A W τs vs->vs.length=τs.length
 |_,_,.nil=>rfl
 |_,_,.cons _ r=>by simp[r.length]
def J.bY(τs:aa J):J where
 holds A W v:=∃vs:Array bl,v=.tuple vs∧gG A W τs vs.toList
 mono e h:=let⟨vs,ba,b2⟩:=h; ⟨vs,ba,b2.mono e⟩
def J.ptr{α:Type}[ah α](x:α):J where
 holds A W v:=∃b off cur T iT,v=.pointer (some ⟨b,off,none⟩)∧b∉A∧W.heap[b]? =some (.cells cur T iT)∧off+ah.size α<=cur.size∧ah.rep A W ((cur.toList.drop off).take (ah.size α)) x
 mono e h:=by
  obtain⟨b,off,cur,T,iT,rfl,hb,b2,hs,aD⟩:=h;have b9:b<_:=(q4.1 b2).1;exact⟨b,off,cur,T,iT,rfl,λhm=>hb (e.new b hm b9),by rw[e.block b b9 hb];exact b2,hs,ah.mono e aD⟩
structure dr where
 holds:List Nat->World->Obj->Prop
 nX:Prop
 mono:∀{A W cE W' o},Ext A W cE W'->holds A W o->holds cE W' o
def dr.var{α:Type}[ah α](x:α):dr where
 holds A W o:=∃cs T,o=.cells cs T (0,0)∧ah.rep A W cs.toList x
 nX:=False
 mono e h:=let⟨cs,T,aU,aD⟩:=h; ⟨cs,T,aU,ah.mono e aD⟩
def hf{α:Type}[ah α](A:aa Nat)(W:bf)(cs:aa bl)(xs:aa α):Prop:=
 cs.length=xs.length*ah.size α∧∀i (h:i<xs.length),ah.rep A W ((cs.drop (i*ah.size α)).take (ah.size α)) xs[i]
def hf.mono{α:Type}[ah α]{A W cE W'}{cs:aa bl}{xs:aa α}(e:Ext A W cE W')(h:hf A W cs xs):hf cE W' cs xs:=
 ⟨h.1,λi ax=>ah.mono e (h.2 i ax)⟩
def dr.row{α:Type}[ah α](T:bx)(xs:aa α)(cap:Nat):dr where
 holds A W o:=∃cs,o=.cells cs T (0,0)∧cs.size=cap*ah.size α∧xs.length<=cap∧cap<=maxLen∧hf A W (cs.toList.take (xs.length*ah.size α)) xs
 nX:=xs=[]∧cap=0
 mono e h:=let⟨cs,h1,ad,ay,aR,aX⟩:=h; ⟨cs,h1,ad,ay,aR,aX.mono e⟩
def dr.dead:dr where
 holds _ _ _:=True
 nX:=True
 mono _ h:=h
structure aE where
 key:Option Nat
 cp:dr
def aE.ok(A:aa Nat)(W:bf)(e:aE):Prop:=
 match e.key with
 |some p=> ∃o,W.heap[p]? =some o∧e.cp.holds A W o
 |none=>e.cp.nX
def ks:aa aE->aa Nat
 |[]=>[]
 | e::r=>match e.key with
   |some p=>p::ks r
   |none=>ks r
def nq{L:aa aE}{k:Nat}:k∈ks L↔∃e∈L,e.key=some k:=by
 induction L with
 |nil=>simp[ks]
 | cons e r bJ=>
   cases hk:e.key with
   |none=>simp[ks,hk,bJ]
   |some p=>simp[ks,hk,bJ,eq_comm]
structure cj where
 P:Program
 n:Nat
 jO:World
 X:List Nat
 bP:List Nat
 rd:Option Nat
 ds:List Deferred
def tf(D:Nat):Deferred:= {target:=.collected D,args:= #[]}
abbrev cj.F(c:cj):Fence:= {fn:=λ_=>True,depth:=none,alive:=false,round:=c.rd}
abbrev cj.wp(c:cj)(y:Code)(Q:Exit->Act->bf->Prop):Act->bf->Prop:=y.wpIn c.F 9 c.P Q
abbrev cj.tt(c:cj)(ops:Array Oper)(Q:Exit->Act->bf->Prop):aa Oper->Act->bf->Prop:=wpListIn c.F 9 c.P ops Q
def look:aa (Nat×J)->Nat->aw J
 |[],_=>none
 |(s,τ)::r,t=>bif Nat.beq s t then some τ else look r t
structure bG(c:cj)(E:List (Nat×J))(L:List aE)(a:Act)(W:World):Prop where
 defers:a.defers=c.ds
 size:a.tmps.size=c.n
 env:∀t τ,look E t=some τ->∃v,a.tmps[t]? =some v∧τ.holds (ks L++c.bP) W v
 dk:Fr c.X c.jO W
 own:∀e∈L,e.ok (ks L++c.bP) W
 nodup:(ks L).Nodup
 lt:∀k∈ks L,k<W.heap.size
 fR:∀k∈ks L,k<c.jO.heap.size->k∈c.X
 er:∀k∈c.bP,k<W.heap.size∧k∉ks L
def eP{s t:Nat}:Nat.beq s t=true↔s=t:=by
 constructor
 ·exact TN
 rintro rfl;exact ng s
def bG.FV{c E L a W}(h:bG c E L a W):∀k∈ks L++c.bP,k<W.heap.size:=by
 intro k hk;rcases ca.1 hk with hk|hk
 ·exact h.lt k hk
 exact(h.er k hk).1
def bG.world{c E L a W W'}(h:bG c E L a W)(f:Fr [] W W'):bG c E L a W' where
 defers:=h.defers
 size:=h.size
 env t τ ao:=let⟨v,h1,ad⟩:=h.env t τ ao; ⟨v,h1,τ.mono (.dk f) ad⟩
 dk:=h.dk.trans f.nil
 own e he:=by
  have h1:=h.own e he;unfold aE.ok at *;split at h1
  ·rename_i p hp;obtain⟨o,aU,b2⟩:=h1;have b9:=h.lt p (nq.2 ⟨e,he,hp⟩);exact⟨o,by rw[f.block p b9 (by simp)];exact aU,dr.mono _ (.dk f) b2⟩
  exact h1
 nodup:=h.nodup
 lt k hk:=rL (h.lt k hk) f.size
 fR:=h.fR
 er k hk:=⟨rL (h.er k hk).1 f.size,(h.er k hk).2⟩
def bG.put{c E L a W}(h:bG c E L a W){d:Nat}(hd:d<c.n){v:bl}{τ:J}(ba:τ.holds (ks L++c.bP) W v):
 bG c ((d,τ)::E) L (a.put (some d) v) W where
 defers:=h.defers
 size:=by simp[Act.put,h.size]
 env t tu ao:=by
  simp only[look]at ao;simp only[Act.put];by_cases e:Nat.beq d t=true
  ·rw[e]at ao;simp only[cond_true,fi]at ao;subst ao;have:=eP.1 e;subst this;exact⟨v,by simp[h.size,hd],ba⟩
  simp only[kX]at e;rw[e]at ao;simp only[cond_false]at ao;obtain⟨u,h1,ad⟩:=h.env t tu ao;have cX:d≠t:=λh=>by rw[eP.2 h]at e;cases e
  exact⟨u,by rw[yY cX];exact h1,ad⟩
 dk:=h.dk
 own:=h.own
 nodup:=h.nodup
 lt:=h.lt
 fR:=h.fR
 er:=h.er
def bG.zE{c E L a W}(s:bG c E L a W)(h:c.ds=[]):a.defers=[]:=by rw[s.defers,h]
def bG.less{c E E' L a W}(h:bG c E L a W)(aM:∀t τ,look E' t=some τ->∃σ,look E t=some σ∧∀A W v,σ.holds A W v->τ.holds A W v):bG c E' L a W:=
 {h with env:=λt τ ao=>let⟨_,h1,ad⟩:=aM t τ ao;let⟨v,ay,aR⟩:=h.env t _ h1; ⟨v,ay,ad _ _ _ aR⟩}
def bG.alloc{c E L a W}(h:bG c E L a W){o:Obj}{cp:dr}(ak:cp.holds (ks L++c.bP) W o):
 bG c E (⟨some W.heap.size,cp⟩::L) a (W.alloc o):=by
 have si:W.heap.size∉ks L:=λhm=>I6 _ (h.lt _ hm)
 have gR:Ext (ks L++c.bP) W (ks (⟨some W.heap.size,cp⟩::L)++c.bP) (W.alloc o):=
  ⟨by simp,λk hk _=>KI W o k hk,λk hk b9=>by
   simp only[ks,List.cons_append,dO]at hk;rcases hk with rfl|hk
   ·exact absurd b9 (I6 _)
   exact hk⟩
 exact
 {defers:=h.defers
  size:=h.size
  env:=λt τ ao=>let⟨v,h1,ad⟩:=h.env t τ ao; ⟨v,h1,τ.mono gR ad⟩
  dk:=h.dk.trans (Fr.alloc W o)
  own:=λe he=>by
   rcases dO.1 he with rfl|he
   ·exact⟨o,XD W o,cp.mono gR ak⟩
   have h1:=h.own e he;unfold aE.ok at *;split at h1
   ·rename_i p hp;obtain⟨o',aU,b2⟩:=h1;exact⟨o',by rw[KI W o p (h.lt p (nq.2 ⟨e,he,hp⟩))];exact aU,dr.mono _ gR b2⟩
   exact h1
  nodup:=by simp only[ks];exact lQ.2 ⟨si,h.nodup⟩
  lt:=λk hk=>by
   simp only[ks,dO]at hk;rw[II];rcases hk with rfl|hk
   ·omega
   have:=h.lt k hk;omega
  fR:=λk hk b9=>by
   simp only[ks,dO]at hk;rcases hk with rfl|hk
   ·have:=h.dk.size;omega
   exact h.fR k hk b9
  er:=λk hk=>by
   obtain⟨h1,ad⟩:=h.er k hk;refine⟨by rw[II];omega,λhm=>?_⟩;simp only[ks,dO]at hm;rcases hm with rfl|hm
   ·omega
   exact ad hm}
def bG.sub{c E L L' a W}(h:bG c E L a W)(av:∀e∈L',e∈L)(aI:(ks L').Nodup):bG c E L' a W:=by
 have hk:∀k∈ks L',k∈ks L:=λk hk=>by
  obtain⟨e,he,ad⟩:=nq.1 hk;exact nq.2 ⟨e,av e he,ad⟩
 have gR:Ext (ks L++c.bP) W (ks L'++c.bP) W:=.drop λk hm=>by
  rcases ca.1 hm with hm|hm
  ·exact ca.2 (.inl (hk k hm))
  exact ca.2 (.inr hm)
 exact
 {defers:=h.defers
  size:=h.size
  env:=λt τ ao=>let⟨v,h1,ad⟩:=h.env t τ ao; ⟨v,h1,τ.mono gR ad⟩
  dk:=h.dk
  own:=λe he=>by
   have h1:=h.own e (av e he);unfold aE.ok at *;split at h1
   ·obtain⟨o',aU,b2⟩:=h1;exact⟨o',aU,dr.mono _ gR b2⟩
   exact h1
  nodup:=aI
  lt:=λk hm=>h.lt k (hk k hm)
  fR:=λk hm=>h.fR k (hk k hm)
  er:=λk hm=>⟨(h.er k hm).1,λad=>(h.er k hm).2 (hk k ad)⟩}
def eg(L R:aa aE):ks (L++R)=ks L++ks R:=by
 induction L with
 |nil=>rfl
 |cons e r bJ=>cases hk:e.key <;> simp[ks,hk,bJ]
def zU{L:aa aE}{i:Nat}{e:aE}{cp:dr}(ax:L[i]? =some e):ks (L.set i ⟨e.key,cp⟩)=ks L:=by
 induction L generalizing i with
 |nil=>simp at ax
 | cons x r bJ=>
   cases i with
   |zero=>simp only[List.getElem?_cons_zero,fi]at ax;subst ax;simp[ks]
   |succ i=>simp only[List.getElem?_cons_succ]at ax;simp[ks,bJ ax]
def Qa{L:aa aE}(aI:(ks L).Nodup){i j:Nat}{e f:aE}{p:Nat}(ax:L[i]? =some e)(aC:L[j]? =some f)(he:e.key=some p)(aY:f.key=some p):i=j:=by
 induction L generalizing i j with
 |nil=>simp at ax
 | cons x r bJ=>
   have aD:(ks r).Nodup:=by
    cases al:x.key with
    |none=>simpa[ks,al]using aI
    |some q=>simp only[ks,al]at aI;exact(lQ.1 aI).2
   have x3:∀q,x.key=some q->q∉ks r:=λq al=>by simp only[ks,al]at aI;exact(lQ.1 aI).1
   cases i with
   | zero=>
     simp only[List.getElem?_cons_zero,fi]at ax
     subst ax
     cases j with
     |zero=>rfl
     | succ j=>
       simp only[List.getElem?_cons_succ]at aC
       exact absurd (nq.2 ⟨f,eo aC,aY⟩) (x3 p he)
   | succ i=>
     simp only[List.getElem?_cons_succ]at ax
     cases j with
     | zero=>
       simp only[List.getElem?_cons_zero,fi]at aC
       subst aC
       exact absurd (nq.2 ⟨e,eo ax,he⟩) (x3 p aY)
     | succ j=>
       simp only[List.getElem?_cons_succ]at aC
       rw[bJ aD ax aC]
def bG.store{c E L a W}(h:bG c E L a W){i p:Nat}{cp cp':dr}(ax:L[i]? =some ⟨some p,cp⟩){cs dT:Array bl}{T:bx}
 (aU:W.heap[p]? =some (.cells cs T (0,0))) (ak:cp'.holds (ks L++c.bP) W (.cells dT T (0,0))):
 bG c E (L.set i ⟨some p,cp'⟩) a (W.setRow p dT):=by
 have gw:ks (L.set i ⟨some p,cp'⟩)=ks L:=zU (cp:=cp') ax
 have hp:p∈ks L:=nq.2 ⟨_,eo ax,rfl⟩
 have gR:Ext (ks L++c.bP) W (ks L++c.bP) (W.setRow p dT):=
  ⟨by simp,λk _ a7=>setRow_other W p k dT (λe=>a7 (e▸ca.2 (.inl hp))),λ_ h _=>h⟩
 exact
 {defers:=h.defers
  size:=h.size
  env:=λt τ ao=>by rw[gw];exact let⟨v,h1,ad⟩:=h.env t τ ao; ⟨v,h1,τ.mono gR ad⟩
  dk:=⟨h.dk.os,h.dk.tape,h.dk.output,h.dk.drawn,by simpa using h.dk.size,λk hk al=>by
   rw[setRow_other W p k dT (λe=>al (e▸h.fR p hp (e▸hk)))];exact h.dk.block k hk al⟩
  own:=λe he=>by
   rw[gw];obtain⟨j,aC⟩:=l8.1 he;rw[oP]at aC;split at aC
   ·rename_i hI;subst hI;split at aC
    ·simp only[fi]at aC;subst aC;exact⟨_,setRow_heap W p cs dT T (0,0) aU,cp'.mono gR ak⟩
    cases aC
   rename_i hI;have h1:=h.own e (eo aC);unfold aE.ok at *;split at h1
   ·rename_i q hq;obtain⟨o',oB,b2⟩:=h1;have cX:q≠p:=λe'=>hI (Qa h.nodup ax aC I (e'▸hq));exact⟨o',by rw[setRow_other W p q dT cX];exact oB,dr.mono _ gR b2⟩
   exact h1
  nodup:=by rw[gw];exact h.nodup
  lt:=by rw[gw];simpa using h.lt
  fR:=by rw[gw];exact h.fR
  er:=by rw[gw];simpa using h.er}
abbrev ah.scalar{α:Type}(val:α->bl)(h:∀x,(val x).oneCell'=true):ah α where
 size:=1
 agg:=false
 rep _ _ cs x:=cs=[val x]
 len h:=by rw[h];rfl
 one aD:=by subst aD;intro v ba;rw[gX.1 ba];exact h _
 flat _:=rfl
 mono _ h:=h
instance:ah Bool:=.scalar Value.bool λ_=>rfl
instance:ah Int:=.scalar (Value.int .i64) λ_=>rfl
instance:ah (BitVec 64):=.scalar (λx=>Value.int .u64 (x.toNat:Int)) λ_=>rfl
instance:ah (BitVec 32):=.scalar (λx=>Value.int .u32 (x.toNat:Int)) λ_=>rfl
instance:ah (BitVec 16):=.scalar (λx=>Value.int .u16 (x.toNat:Int)) λ_=>rfl
instance:ah (BitVec 8):=.scalar (λx=>Value.int .u8 (x.toNat:Int)) λ_=>rfl
instance:ah ByteArray:=.scalar Value.string λ_=>rfl
def ov{v u:bl}(h:v.oneCell'=true)(e:v.cells.toList=[u]):v=u:=by
 rw[cells_one h]at e;simpa using e
def of_bool{A W v}{b:Bool}:(J.of b).holds A W v↔v=.bool b:=
 ⟨λh=>ov h.1 h.2,λh=>by subst h;exact⟨rfl,rfl⟩⟩
def of_int{A W v}{x:Int}:(J.of x).holds A W v↔v=.int .i64 x:=
 ⟨λh=>ov h.1 h.2,λh=>by subst h;exact⟨rfl,rfl⟩⟩
def js{A W v}{x:BitVec 64}:(J.of x).holds A W v↔v=.int .u64 (x.toNat:Int):=
 ⟨λh=>ov h.1 h.2,λh=>by subst h;exact⟨rfl,rfl⟩⟩
def vT{A W v}{x:BitVec 8}:(J.of x).holds A W v↔v=.int .u8 (x.toNat:Int):=
 ⟨λh=>ov h.1 h.2,λh=>by subst h;exact⟨rfl,rfl⟩⟩
def KJ{A W v}{x:ByteArray}:(J.of x).holds A W v↔v=.string x:=
 ⟨λh=>ov h.1 h.2,λh=>by subst h;exact⟨rfl,rfl⟩⟩
def aP(c:cj)(E:aa (Nat×J))(L:aa aE)(x:bZ)(τ:J):Prop:=∀a W,bG c E L a W->τ.holds (ks L++c.bP) W (a.eval x)
section
variable{c:cj}{E:aa (Nat×J)}{L:aa aE}
def ag{t:Nat}{τ:J}(h:look E t=some τ):aP c E L (.tmp t) τ:=λa W s=>by
 obtain⟨v,h1,ad⟩:=s.env t τ h;have:a.eval (.tmp t)=v:=by simp[Act.eval,h1]
 rw[this];exact ad
def b1{t:Nat}{τ:J}{p:Prop}(h:look E t=some (.cond p τ))(hp:p):aP c E L (.tmp t) τ:=λa W s=>(ag h a W s).1 hp
def KB(v:bl):aP c E L (.const v) (.eq v):=λ_ _ _=>rfl
def cH(k:Int):aP c E L (.const (.int .i64 k)) (.of k):=λ_ _ _=>of_int.2 I
def hN(b:Bool):aP c E L (.const (.bool b)) (.of b):=λ_ _ _=>of_bool.2 I
def vB(x:BitVec 64){k:Int}(h:(x.toNat:Int)=k):aP c E L (.const (.int .u64 k)) (.of x):=λ_ _ _=>js.2 (by rw[h];rfl)
def W1(x:BitVec 8){k:Int}(h:(x.toNat:Int)=k):aP c E L (.const (.int .u8 k)) (.of x):=λ_ _ _=>vT.2 (by rw[h];rfl)
def gM(s:ByteArray):aP c E L (.const (.string s)) (.of s):=λ_ _ _=>KJ.2 I
def gJ(P:Program)(o:Oper)(a:Act)(W:bf)(R:bl->bf->Prop):Prop:=
 o.wp P a W (λhL W'=> ∃v,hL=a.put o.dst v∧R v W') (λ_ _ _=>False)
def CallsIn.PH{rd:aw Nat}{n:Nat}{P:Program}{f:FuncId}{args:Array bl}{w:bf}{R:Ending->bf->Prop}
 (h:Calls P f args w R):CallsIn {fn:=λ_=>True,depth:=none,alive:=false,round:=rd} n P f args w R:=
 (callsIn_wide (n:=n)).2 h
def RowsIn.ajc{rd:aw Nat}{n:Nat}{P:Program}{row:String}{args:Array bl}{w:bf}{R:bl->bf->Prop}
 (h:Rows P row args w R):RowsIn {fn:=λ_=>True,depth:=none,alive:=false,round:=rd} n P row args w R:=
 λc cs _=>let⟨v,pk,r,s⟩:=h c cs; ⟨v,pk,r,stepsIn_wide.2 s⟩
def gJ.wp{P:Program}{o:Oper}{a:Act}{W:bf}{R:bl->bf->Prop}{next:Act->bf->Prop}{Q:Exit->Act->bf->Prop}
 (h:gJ P o a W R) (hk:∀v W',R v W'->next (a.put o.dst v) W'):o.wp P a W next Q:=by
 unfold gJ Oper.wp at *
 generalize (execOp a.eval o).run P W=r at *
 cases r with
 | ok n W'=>
   cases n <;> simp only[Oper.upon]at h⊢
   case value v=>obtain⟨u,h1,ad⟩:=h;rw[h1];exact hk _ _ ad
   case skip=>obtain⟨u,h1,ad⟩:=h;rw[h1];exact hk _ _ ad
   case defer d=>obtain⟨u,h1,ad⟩:=h;rw[h1];exact hk _ _ ad
   case enter f args=>
    refine h.mono λe uU he=>?_
    cases e with
    |returned v=>obtain⟨u,h1,ad⟩:=he;simp only at h1⊢;rw[h1];exact hk _ _ ad
    |panicked ch=>exact he.elim
    |outgrown=>obtain⟨_,_,h1⟩:=he;exact h1.elim
   case row row args=>exact h.mono λv uU ⟨u,h1,ad⟩=>by rw[h1];exact hk _ _ ad
 |halt x W'=>cases x <;> simp only[Oper.upon]at h
def gJ.agW{P:Program}{o:Oper}{a:Act}{W:bf}{R:bl->bf->Prop}(h:gJ P o a W R):∀c,o.op≠ .defer c:=by
 intro c aU;unfold gJ Oper.wp execOp at h;rw[aU]at h;simp only[dI]at h;generalize (resolve a.eval c o.type).run P W=r at h;cases r with
 | ok d W'=>
   simp only[Result.andThen,Sem.run_pure,Oper.upon]at h
   obtain⟨v,h1,_⟩:=h
   have:=ec Act.defers h1
   cases hd:o.dst <;> simp[Act.put,hd]at this
 |halt x W'=>cases x <;> simp only[Result.andThen,Oper.upon]at h
def gJ.wpIn{c:cj}{n:Nat}{o:Oper}{a:Act}{W:bf}{R:bl->bf->Prop}{next:Act->bf->Prop}{Q:Exit->Act->bf->Prop}
 (h:gJ c.P o a W R) (hk:∀v W',R v W'->next (a.put o.dst v) W'):o.wpIn c.F n c.P a W next Q:=by
 refine⟨λ_ _=>trivial,?_⟩
 rw[NC _ _ _ h.agW]
 unfold gJ Oper.wp at h
 generalize (execOp a.eval o).run c.P W=r at *
 cases r with
 | ok m W'=>
   cases m <;> simp only[Oper.upon,Oper.uponIn]at h⊢
   case value v=>obtain⟨u,h1,ad⟩:=h;rw[h1];exact hk _ _ ad
   case skip=>obtain⟨u,h1,ad⟩:=h;rw[h1];exact hk _ _ ad
   case defer d=>obtain⟨u,h1,ad⟩:=h;rw[h1];exact hk _ _ ad
   case enter f args=>
    refine⟨λh=>by simp at h,CallsIn.PH ?_⟩
    refine h.mono λe uU he=>?_
    cases e with
    |returned v=>obtain⟨u,h1,ad⟩:=he;simp only at h1⊢;rw[h1];exact hk _ _ ad
    |panicked ch=>exact he.elim
    |outgrown=>obtain⟨_,_,h1⟩:=he;exact h1.elim
   case row row args=>
    refine⟨λh=>by simp at h,RowsIn.ajc ?_⟩
    exact h.mono λv uU ⟨u,h1,ad⟩=>by rw[h1];exact hk _ _ ad
 |halt x W'=>cases x <;> simp only[Oper.upon]at h
def ae8{c:cj}{n:Nat}{o:Oper}{a:Act}{W W':bf}{v:bl}{next:Act->bf->Prop}{Q:Exit->Act->bf->Prop}
 (h:(execOp a.eval o).run c.P W=.ok (.value v) W') (hk:next (a.put o.dst v) W'):o.wpIn c.F n c.P a W next Q:=
 gJ.wpIn (R:=λu U=>u=v∧U=W') (by unfold gJ Oper.wp;rw[h];exact⟨v,rfl,rfl,rfl⟩) λu U ⟨h1,ad⟩=>by subst h1;subst ad;exact hk
def Vb{c:cj}{n:Nat}{o:Oper}{a:Act}{W W':bf}{next:Act->bf->Prop}{Q:Exit->Act->bf->Prop}
 (h:(execOp a.eval o).run c.P W=.ok .skip W') (hk:next (a.put o.dst undef) W'):o.wpIn c.F n c.P a W next Q:=
 gJ.wpIn (R:=λu U=>u=undef∧U=W') (by unfold gJ Oper.wp;rw[h];exact⟨undef,rfl,rfl,rfl⟩) λu U ⟨h1,ad⟩=>by subst h1;subst ad;exact hk
def JF{F:Fence}{n:Nat}{P:Program}{md:Region.Mode}{ops:Array Oper}{tK:Exit->Act->bf->Prop}:∀(l:aa Oper) (k:Nat) (bI:Array Bool) (a:Act) (w:bf),(∀j,l[j]? =ops[k+j]?)->
 Region.seqB md ops l.length k bI=true->wpListIn F n P ops tK l a w->wpAnyIn F n P md ops tK l.length bI a w
 |[],_,_,_,_,_,dE,h=>⟨by simpa[Region.seqB]using dE,h⟩
 | o::l,k,bI,a,w,ao,dE,h=>by
   have bu:ops[k]? =some o:=by simpa using (ao 0).symm
   simp only[List.length_cons,Region.seqB,gq,fM]at dE;refine⟨λh1=>(by rw[dE.1]at h1;cases h1),λi ax=>?_⟩;rw[dE.1]at ax;have nD:i=k:=by simpa using ax
   subst nD;have hw:wpOpIn F n P ops tK i (wpListIn F n P ops tK l) a w:=by unfold wpOpIn;simp only[bu];exact h
   exact wpOpIn_mono (λhL pk cT=>JF l (i+1) _ hL pk (λj=>by have:=ao (j+1);simpa[I5,NR 1 j]using this) dE.2 cT) hw
def gJ.mK{P:Program}{o:Oper}{a:Act}{W W':bf}{R:bl->bf->Prop}{v:bl}
 (h:(execOp a.eval o).run P W=.ok (.value v) W') (aD:R v W'):gJ P o a W R:=by
 unfold gJ Oper.wp
 rw[h]
 exact⟨v,rfl,aD⟩
def gJ.Cm{P:Program}{o:Oper}{a:Act}{W W':bf}{R:bl->bf->Prop}
 (h:(execOp a.eval o).run P W=.ok .skip W') (aD:R undef W'):gJ P o a W R:=by
 unfold gJ Oper.wp
 rw[h]
 exact⟨undef,rfl,aD⟩
def gJ.vE{P:Program}{o:Oper}{a:Act}{W W':bf}{R:bl->bf->Prop}{f:FuncId}{args:Array bl}
 (h:(execOp a.eval o).run P W=.ok (.enter f args) W') (aD:Calls P f args W' λe uU=> ∃v,e=.returned v∧R v uU):gJ P o a W R:=by
 unfold gJ Oper.wp
 rw[h]
 exact aD.mono λe uU ⟨v,he,ad⟩=>by subst he;exact⟨v,rfl,ad⟩
def bc(c:cj)(E:aa (Nat×J))(L:aa aE)(o:Oper)(τ:J):Prop:=
 ∀a W,bG c E L a W->gJ c.P o a W λv W'=>Fr [] W W'∧τ.holds (ks L++c.bP) W' v
def bc.pure{o:Oper}{τ:J}(h:∀a W,bG c E L a W->∃v,(execOp a.eval o).run c.P W=.ok (.value v) W∧τ.holds (ks L++c.bP) W v):bc c E L o τ:=
 λa W s=>let⟨_,h1,ad⟩:=h a W s; .mK h1 ⟨.refl _ _,ad⟩
variable{ops:Array Oper}{Q:Exit->Act->bf->Prop}
def ae(c:cj)(ops:Array Oper)(Q:Exit->Act->bf->Prop)(l:aa Oper)(E:aa (Nat×J))(L:aa aE):Prop:=
 ∀a W,bG c E L a W->c.tt ops Q l a W
def ar(c:cj)(Q:Exit->Act->bf->Prop)(x:Exit)(E:aa (Nat×J))(L:aa aE):Prop:=∀a W,bG c E L a W->Q x a W
def ae.nil(h:ar c Q .normal E L):ae c ops Q [] E L:=λa W s=>wpListIn_nil (h a W s)
def iw{c:cj}{o:Oper}{rest:aa Oper}{a:Act}{W:bf}(bF:o.guard=none){R:bl->bf->Prop}(h:gJ c.P o a W R)
 (hk:∀v W',R v W'->c.tt ops Q rest (a.put o.dst v) W'):c.tt ops Q (o::rest) a W:=
 wpListIn_plain bF λ_ qX=>h.wpIn λv W' aD=>qX _ _ (hk v W' aD)
def ae.v{o:Oper}{rest:aa Oper}{d:Nat}{τ:J}(h:bc c E L o τ)(bF:o.guard=none)(hd:o.dst=some d)(aI:Nat.blt d c.n=true)
 (k:ae c ops Q rest ((d,τ)::E) L):ae c ops Q (o::rest) E L:=λa W s=>
 iw bF (h a W s) λv W' ⟨f,ba⟩=>by
  rw[hd];exact k _ _ ((s.world f).put (by simpa using aI) ba)
def JW{j g:Nat}{b:Bool}(aC:(ops[j]?).bind (·.dst)=some g)(ao:look E g=some (.of b)){a:Act}{W:bf}(s:bG c E L a W):
 yielded ops a.tmps j=some b:=by
 obtain⟨v,h1,ad⟩:=s.env g _ ao
 unfold yielded
 rw[aC]
 simp only[Option.bind_some,h1,of_bool.1 ad]
def ae.g{o:Oper}{rest:aa Oper}{d j g:Nat}{b want:Bool}{τ:J}(h:b=want->bc c E L o τ)(bF:o.guard=some (j,want))(aC:(ops[j]?).bind (·.dst)=some g)
 (ao:look E g=some (.of b)) (hd:o.dst=some d) (aI:Nat.blt d c.n=true)
 (k:ae c ops Q rest ((d,.cond (b=want) τ)::E) L):ae c ops Q (o::rest) E L:=λa W s=>by
 have hy:=JW aC ao s
 unfold cj.tt wpListIn
 by_cases hb:b=want
 ·rw[br (by simp[Region.wanted,bF,hy,hb])]
  refine((h hb a W s).wpIn λv W' ⟨f,ba⟩=>?_)
  rw[hd]
  exact k _ _ ((s.world f).put (by simpa using aI) ⟨λ_=>ba,λh=>absurd hb h⟩)
 rw[bn (by simp[Region.wanted,bF,hy,hb])]
 rw[hd]
 exact⟨λ_ _=>trivial,k _ _ (s.put (by simpa using aI) ⟨λh=>absurd h hb,λ_=>rfl⟩)⟩
def afe{j g:Nat}{p:Prop}{b:Bool}(aC:(ops[j]?).bind (·.dst)=some g)(ao:look E g=some (.cond p (.of b))){a:Act}{W:bf}(s:bG c E L a W):
 (p->yielded ops a.tmps j=some b)∧(¬p->yielded ops a.tmps j=none):=by
 obtain⟨v,h1,ad,ay⟩:=s.env g _ ao
 unfold yielded
 rw[aC]
 simp only[Option.bind_some,h1]
 exact⟨λhp=>by simp only[of_bool.1 (ad hp)],λhp=>by simp only[ay hp];rfl⟩
def ae.gg{o:Oper}{rest:aa Oper}{d j g:Nat}{p:Prop}{b want:Bool}{τ:J}(h:p∧b=want->bc c E L o τ)(bF:o.guard=some (j,want))(aC:(ops[j]?).bind (·.dst)=some g)
 (ao:look E g=some (.cond p (.of b))) (hd:o.dst=some d) (aI:Nat.blt d c.n=true)
 (k:ae c ops Q rest ((d,.cond (p∧b=want) τ)::E) L):ae c ops Q (o::rest) E L:=λa W s=>by
 have hy:=afe aC ao s
 unfold cj.tt wpListIn
 by_cases hb:p∧b=want
 ·rw[br (by simp[Region.wanted,bF,hy.1 hb.1,hb.2])]
  refine((h hb a W s).wpIn λv W' ⟨f,ba⟩=>?_)
  rw[hd]
  exact k _ _ ((s.world f).put (by simpa using aI) ⟨λ_=>ba,λh=>absurd hb h⟩)
 have hw:Region.wanted o (yielded ops a.tmps)=false:=by
  by_cases hp:p
  ·have: ¬(b=want):=λh=>hb ⟨hp,h⟩;simp[Region.wanted,bF,hy.1 hp,this]
  simp[Region.wanted,bF,hy.2 hp]
 rw[bn (by simp[hw])]
 refine⟨λ_ _=>trivial,?_⟩
 rw[hd]
 exact k _ _ (s.put (by simpa using aI) ⟨λh=>absurd h hb,λ_=>rfl⟩)
inductive eN(E:List (Nat×J)):List (Nat×J)->Prop
 |nil:eN E []
 |cons {t τ σ r}:look E t=some σ->(∀A W v,σ.holds A W v->τ.holds A W v)->eN E r->eN E ((t,τ)::r)
def eN.same{t:Nat}{τ:J}{r:aa (Nat×J)}(h:look E t=some τ)(k:eN E r):eN E ((t,τ)::r):=.cons h (λ_ _ _ h=>h) k
def eN.all{r:aa (Nat×J)}(h:eN E r:=by repeat (first|exact eN.nil|refine eN.same I ?_)):eN E r:=h
def eN.look:∀{E':aa (Nat×J)},eN E E'->∀t τ,Gv.look E' t=some τ->∃σ,Gv.look E t=some σ∧∀A W v,σ.holds A W v->τ.holds A W v
 |_,.nil,t,τ,h=>by simp[Gv.look]at h
 | _,.cons (t:=s) (σ:=σ) h1 ad r,t,τ,h=>by
   simp only[Gv.look]at h;by_cases e:Nat.beq s t=true
   ·rw[e]at h;simp only[cond_true,fi]at h;subst h;rw[eP.1 e]at h1;exact⟨σ,h1,ad⟩
   simp only[kX]at e;rw[e]at h;exact r.look t τ h
def ar.le{x:Exit}{E':aa (Nat×J)}(h:eN E E')(k:ar c Q x E' L):ar c Q x E L:=λa W s=>k a W (s.less h.look)
def ae.le{l:aa Oper}{E':aa (Nat×J)}(h:eN E E')(k:ae c ops Q l E' L):ae c ops Q l E L:=λa W s=>k a W (s.less h.look)
def az(c:cj)(Q:Exit->Act->bf->Prop)(code:Code)(E:aa (Nat×J))(L:aa aE):Prop:=∀a W,bG c E L a W->c.wp code Q a W
def az.le{code:Code}{E':aa (Nat×J)}(h:eN E E')(k:az c Q code E' L):az c Q code E L:=λa W s=>k a W (s.less h.look)
def az.fk{id:Nat}{l:aa Oper}(h:ae c l.toArray Q l E L):az c Q (.region id l.toArray false) E L:=λa W s=>wpIn_region_lit (h a W s)
def az.seq{x y:Code}(h:az c (Exit.then (c.wp y Q) Q) x E L):az c Q (.seq x y) E L:=λa W s=>wpIn_seq (h a W s)
def ar.next{y:Code}(h:az c Q y E L):ar c (Exit.then (c.wp y Q) Q) .normal E L:=λa W s=>h a W s
def ar.exit{y:Act->bf->Prop}{id:Nat}(h:ar c Q (.exit id) E L):ar c (Exit.then y Q) (.exit id) E L:=λa W s=>h a W s
def ar.ret{y:Act->bf->Prop}(h:ar c Q .ret E L):ar c (Exit.then y Q) .ret E L:=λa W s=>h a W s
def az.block{id:Nat}{x:Code}(h:az c (Exit.inBlock id Q) x E L):az c Q (.block id x) E L:=λa W s=>wpIn_block (h a W s)
def ar.ri{id:Nat}(h:ar c Q .normal E L):ar c (Exit.inBlock id Q) .normal E L:=λa W s=>h a W s
def ar.qs{id:Nat}(h:ar c Q .normal E L):ar c (Exit.inBlock id Q) (.exit id) E L:=λa W s=>by
 show(if id=id then Q .normal a W else Q (.exit id) a W);rw[br I];exact h a W s
def ar.ajd{id G3:Nat}(cX:Nat.beq G3 id=false)(h:ar c Q (.exit G3) E L):ar c (Exit.inBlock id Q) (.exit G3) E L:=λa W s=>by
 show(if G3=id then Q .normal a W else Q (.exit G3) a W);rw[bn (λe=>by rw[e,ng]at cX;cases cX)];exact h a W s
def ar.te{id:Nat}(h:ar c Q .ret E L):ar c (Exit.inBlock id Q) .ret E L:=λa W s=>h a W s
def az.skip(h:ar c Q .normal E L):az c Q .skip E L:=λa W s=>wpIn_skip (h a W s)
def az.exit{id:Nat}(h:ar c Q (.exit id) E L):az c Q (.exit id) E L:=λa W s=>wpIn_exit (h a W s)
def az.ret(h:ar c Q .ret E L):az c Q .ret E L:=λa W s=>wpIn_ret (h a W s)
def az.cond{x:bZ}{b:Bool}{y z:Code}(ao:aP c E L x (.of b))(bw:b=true->az c Q y E L)(aY:b=false->az c Q z E L):az c Q (.cond x y z) E L:=
 λa W s=>wpIn_cond_split (of_bool.1 (ao a W s)) (λh=>bw h a W s) (λh=>aY h a W s)
def di{σ ε:Type}:Nat->(σ->aw (σ⊕ε))->σ->aw ε
 |0,_,_=>none
 | n+1,b,s=>match b s with
   |none=>none
   |some (.inl b0)=>di n b b0
   |some (.inr e)=>some e
def ary{σ ε:Type}(c:cj)(E:σ->aa (Nat×J))(L:σ->aa aE)(xs:ε->Exit)(eu:ε->aa (Nat×J))(Lx:ε->aa aE):σ⊕ε->Exit->Act->bf->Prop
 | .inl s,x,a,W=>x=.normal∧bG c (E s) (L s) a W
 | .inr e,x,a,W=>x≠ .normal∧x=xs e∧bG c (eu e) (Lx e) a W
def ar.round{σ ε:Type}{E':σ->aa (Nat×J)}{L':σ->aa aE}{xs:ε->Exit}{eu:ε->aa (Nat×J)}{Lx:ε->aa aE}{s:σ}
 (h:∀a W,bG c E L a W->bG c (E' s) (L' s) a W):ar c (ary c E' L' xs eu Lx (.inl s)) .normal E L:=λa W st=>⟨rfl,h a W st⟩
def agh{F:Fence}{n:Nat}{P:Program}{body:Code}{σ ε:Type}(b:σ->aw (σ⊕ε))(fG:σ->Act->bf->Prop)(X:ε->Exit->Act->bf->Prop)
 (ux:∀s r,b s=some r->∀a W,fG s a W->body.wpIn F n P (λx a W=>match r with | .inl b0=>x=.normal∧fG b0 a W| .inr e=>x≠ .normal∧X e x a W) a W)
 (Q:Exit->Act->bf->Prop) (e:ε) (pE:∀x a W,X e x a W->Q x a W) {s0:σ} {N:Nat} (ao:di N b s0=some e) {a0:Act} {jO:bf} (bu:fG s0 a0 jO):
 (Code.loop body).wpIn F n P Q a0 jO:=by
 intro dk k cs mr hb aD
 have key:∀N s,di N b s=some e->∀a W,fG s a W->
  ∃x hL W',Q x hL W'∧ArrivesIn (Machine.fenced P F) P (lone (dk.atR a (.code body::.inLoop body::k)) cs W) dk k cs x hL W':=by
  intro N
  induction N with
  |zero=>intro s h;simp[di]at h
  | succ N bJ=>
    intro s h a W pn
    simp only[di]at h
    split at h
    ·cases h
    ·rename_i b0 hs
     obtain⟨x,sj,CY,hq,oy⟩:=ux s _ hs a W pn dk (.inLoop body::k) cs mr hb aD
     obtain⟨al,RQ⟩:=hq
     subst al
     obtain⟨Ro,Rp,Rq,QT,PI⟩:=bJ b0 h sj CY RQ
     exact⟨Ro,Rp,Rq,QT,.of_steps (ND oy (.one (BQ hb aD I) stepR_inLoop)) PI⟩
    rename_i e' hs
    simp only[fi]at h
    subst h
    obtain⟨x,sj,CY,hq,oy⟩:=ux s _ hs a W pn dk (.inLoop body::k) cs mr hb aD
    obtain⟨al,oI⟩:=hq
    exact⟨x,sj,CY,pE _ _ _ oI,.pass (x:=.inLoop body) I (λ_ _=>.inl al) oy⟩
 obtain⟨x,hL,W',hq,oy⟩:=key N s0 ao a0 jO bu
 exact⟨x,hL,W',hq,.of_steps (.one (BQ hb aD I) stepR_loop) oy⟩
def cm(P:Program)(f:FuncId)(τs:aa J)(ρ:J):Prop:=
 ∀ (A:aa Nat) (W:bf) (vs:aa bl),(∀k∈A,k<W.heap.size)->gG A W τs vs->
   Calls P f vs.toArray W λe W'=> ∃v,e=.returned v∧Fr [] W W'∧ρ.holds A W' v
def params:Nat->aa J->aa (Nat×J)
 |_,[]=>[]
 |k,τ::r=>(k,τ)::params (k+1) r
def zu{A:aa Nat}{W:bf}{τs:aa J}{vs:aa bl}(h:gG A W τs vs):∀(k t:Nat) (τ:J),look (params k τs) t=some τ->k<=t∧∃v,vs[t-k]? =some v∧τ.holds A W v:=by
 induction h with
 |nil=>intro k t τ h;simp[params,look]at h
 | cons h1 r bJ=>
   intro k t τ ao
   simp only[params,look]at ao
   by_cases e:Nat.beq k t=true
   ·rw[e]at ao
    simp only[cond_true,fi]at ao
    subst ao
    rw[eP.1 e]
    exact⟨iu _,_,by simp,h1⟩
   simp only[kX]at e
   rw[e]at ao
   have cX:k≠t:=λh=>by rw[eP.2 h]at e;cases e
   obtain⟨ad,v,ay,aR⟩:=bJ (k+1) t τ ao
   refine⟨by omega,v,?_,aR⟩
   rw[show t-k=(t-(k+1))+1 by omega,List.getElem?_cons_succ]
   exact ay
def cm.enter{P:Program}{f:FuncId}{fn:Func}{code:Code}{n:Nat}{τs:aa J}{ρ:J}(aY:P.funcs[f]? =some fn)(hb:fn.body=some code)(aI:fn.ntmps=n)(hlen:Nat.ble τs.length n=true)
 (h:∀W A,az ⟨P,n,W,[],A,none,[]⟩ (bodyPost P fn λe W'=> ∃v,e=.returned v∧Fr [] W W'∧ρ.holds A W' v) code (params 0 τs) []):cm P f τs ρ:=by
 intro A W vs ev ba
 refine Js aY hb (wpIn_wide.1 (h W A _ _ ?_))
 have ao:=ba.length
 have hle:τs.length<=n:=oO hlen
 exact
 {defers:=rfl
  size:=by simp[aI,ao];omega
  env:=λt τ kN=>by
   obtain⟨_,v,ad,ay⟩:=zu ba 0 t τ kN;refine⟨v,?_,ay⟩;have b9:t<vs.length:=(fL.1 ad).1;rw[ve (by simpa using b9)];simpa using ad
  dk:=.refl _ _
  own:=by simp
  nodup:=by simp[ks]
  lt:=by simp[ks]
  fR:=by simp[ks]
  er:=λk hk=>⟨ev k hk,by simp[ks]⟩}
def Vq{ρ:J}{A B:aa Nat}{W:bf}{v:bl}(h:ρ.holds (B++A) W v):ρ.holds A W v:=ρ.mono (.drop λ_ h=>ca.2 (.inr h)) h
end
section
variable{c:cj}{E:aa (Nat×J)}{L:aa aE}{ops:Array Oper}{Q:Exit->Act->bf->Prop}
def ko(c:cj)(ops:Array Oper)(E:aa (Nat×J))(L:aa aE)(o:Oper)(τ:J):Prop:=
 ∀ a W,bG c E L a W->
   (Region.wanted o (yielded ops a.tmps)=true->gJ c.P o a W λv W'=>Fr [] W W'∧τ.holds (ks L++c.bP) W' v)∧
   (Region.wanted o (yielded ops a.tmps)=false->τ.holds (ks L++c.bP) W undef)
def ko.v{o:Oper}{τ:J}(h:bc c E L o τ)(bF:o.guard=none):ko c ops E L o τ:=λa W s=>
 ⟨λ_=>h a W s,λhw=>by simp[Region.wanted,bF]at hw⟩
def ko.g{o:Oper}{j g:Nat}{b want:Bool}{τ:J}(h:b=want->bc c E L o τ)(bF:o.guard=some (j,want))(aC:(ops[j]?).bind (·.dst)=some g)(ao:look E g=some (.of b)):
 ko c ops E L o (.cond (b=want) τ):=λa W s=>by
 have hy:=JW aC ao s
 constructor
 ·intro hw
  have hb:b=want:=by simpa[Region.wanted,bF,hy]using hw
  refine gJ.wp (h hb a W s) λv W' ⟨f,ba⟩=>⟨v,rfl,f,λ_=>ba,λh=>absurd hb h⟩
 intro hw
 exact⟨λhb=>by simp[Region.wanted,bF,hy,hb]at hw,λ_=>rfl⟩
inductive ff
 |val (τ:J)
 |new (cp:dr)
 |jJ (i:Nat) (cp:dr)
 |pY (j:Nat) (cp:dr)
def ff.o5:ff->Bool
 | .jJ _ _| .pY _ _=>true
 |_=>false
def ff.u9(p:Nat):ff->aw J
 | .val τ=>some τ
 | .new _=>some (.eq (.pointer (some ⟨p,0,none⟩)))
 |_=>none
def he(bt:Nat->Nat)(dy:aa (aw Nat))(hs:aa ff)(E:aa (Nat×J)):aa Nat->aa (Nat×J)
 |[]=>E
 | j::r=>match dy[j]?,hs[j]? with
   | some (some s),some h=>match h.u9 (bt j)with
     |some τ=>(s,τ)::he bt dy hs E r
     |none=>he bt dy hs E r
   |_,_=>he bt dy hs E r
def CI:aa aE->Nat->dr->aa aE
 |[],_,_=>[]
 |e::r,0,cp=>⟨e.key,cp⟩::r
 |e::r,i+1,cp=>e::CI r i cp
def agi{L:aa aE}{i:Nat}{e:aE}{cp:dr}(h:L[i]? =some e):CI L i cp=L.set i ⟨e.key,cp⟩:=by
 induction L generalizing i with
 |nil=>simp at h
 | cons x r bJ=>
   cases i with
   |zero=>simp only[List.getElem?_cons_zero,fi]at h;subst h;rfl
   |succ i=>simp only[List.getElem?_cons_succ]at h;simp[CI,bJ h]
def ee(L:aa aE):aa ff->aa aE
 |[]=>L
 | .jJ i cp::r=>ee (CI L i cp) r
 |_::r=>ee L r
def j2(j:Nat)(cp:dr):aa ff->dr
 |[]=>cp
 | .pY i cp'::r=>j2 j (bif Nat.beq i j then cp' else cp) r
 |_::r=>j2 j cp r
def Vr(L:aa aE)(r:aa ff)(h:ff):ee L (r++[h])=ee (ee L r) [h]:=by
 induction r generalizing L with
 |nil=>rfl
 |cons x r bJ=>cases x <;> simp only[List.cons_append,ee] <;> exact bJ _
def OK(j:Nat)(cp:dr)(r:aa ff)(h:ff):j2 j cp (r++[h])=j2 j (j2 j cp r) [h]:=by
 induction r generalizing cp with
 |nil=>rfl
 |cons x r bJ=>cases x <;> simp only[List.cons_append,j2] <;> exact bJ _
def J6{L:aa aE}:∀{r:aa ff},(∀h∈r,h.o5=false)->ee L r=L
 |[],_=>rfl
 | h::r,b2=>by
   have:=b2 h (by simp);have bJ:=J6 (L:=L) (r:=r) (λx al=>b2 x (by simp[al]));cases h <;> first|exact bJ|cases this
def JX{j:Nat}{cp:dr}:∀{r:aa ff},(∀h∈r,h.o5=false)->j2 j cp r=cp
 |[],_=>rfl
 | h::r,b2=>by
   have:=b2 h (by simp);have bJ:=JX (j:=j) (cp:=cp) (r:=r) (λx al=>b2 x (by simp[al]));cases h <;> first|exact bJ|cases this
def qx(w:Nat->Bool)(i:Nat):Nat->aa ff->Bool
 |_,[]=>true
 |k,.jJ j _::r=>(!(Nat.beq j i)||w k)&&qx w i (k+1) r
 |k,.val _::r=>qx w i (k+1) r
 |k,.new _::r=>qx w i (k+1) r
 |k,.pY _ _::r=>qx w i (k+1) r
def afo{L:aa aE}{i j:Nat}{cp:dr}(h:i≠j):(CI L i cp)[j]? =L[j]? :=by
 induction L generalizing i j with
 |nil=>rfl
 | cons e r bJ=>
   cases i with
   | zero=>cases j with
     |zero=>exact absurd I h
     |succ j=>rfl
   | succ i=>cases j with
     |zero=>rfl
     |succ j=>simp only[CI,List.getElem?_cons_succ];exact bJ (by omega)
def Fy{L:aa aE}{i:Nat}{w:Nat->Bool}:∀{r:aa ff} (b k:Nat),qx w i k r=true->(∀q,q<b->(∃j cp,r[q]? =some (.jJ j cp))->w (k+q)=false)->(ee L (r.take b))[i]? =L[i]?
 |[],b,_,_,_=>by simp[ee]
 |h::r,0,_,_,_=>by simp[ee]
 | .jJ j cp::r,b+1,k,h,hw=>by
   simp only[qx,gq,oq,vh]at h;have ap1:w k=false:=by simpa using hw 0 (by omega) ⟨j,cp,by simp⟩
   have cX:j≠i:=λe=>by
    rw[e,ng,ap1]at h;rcases h.1 with h|h <;> cases h
   rw[List.take_succ_cons,ee,Fy b (k+1) h.2 (λq hq al=>by have:=hw (q+1) (by omega) (by simpa using al);rw[<-this];congr 1;omega),afo cX]
 | .val _::r,b+1,k,h,hw=>by rw[List.take_succ_cons];exact Fy (r:=r) b (k+1) h (λq hq al=>by have:=hw (q+1) (by omega) (by simpa using al);rw[<-this];congr 1;omega)
 | .new _::r,b+1,k,h,hw=>by rw[List.take_succ_cons];exact Fy (r:=r) b (k+1) h (λq hq al=>by have:=hw (q+1) (by omega) (by simpa using al);rw[<-this];congr 1;omega)
 | .pY _ _::r,b+1,k,h,hw=>by rw[List.take_succ_cons];exact Fy (r:=r) b (k+1) h (λq hq al=>by have:=hw (q+1) (by omega) (by simpa using al);rw[<-this];congr 1;omega)
def abQ(P:Program)(o:Oper)(cp:dr):Prop:=
 o.guard=none∧∃l4,(∀A W,cp.holds A W l4)∧∀(a:Act) W,(execOp a.eval o).run P W=.ok (.value (.pointer (some ⟨W.heap.size,0,none⟩))) (W.alloc l4)
def My(c:cj)(E:aa (Nat×J))(L:aa aE)(o:Oper)(p:Nat)(cp:dr):Prop:=
 o.guard=none∧o.dst=none∧∀a W,bG c E L a W->∃cs dT T,W.heap[p]? =some (.cells cs T (0,0))∧(execOp a.eval o).run c.P W=.ok .skip (W.setRow p dT)∧cp.holds (ks L++c.bP) W (.cells dT T (0,0))
def s6(c:cj)(ops:Array Oper)(bt:Nat->Nat)(dy:aa (aw Nat))(all:aa ff)(E:aa (Nat×J))(L:aa aE):Nat->aa Oper->aa ff->aa (aa Nat)->Prop
 |_,_,[],_=>True
 |i,o::os,.val τ::hs,d::ds=>(∀L':aa aE,(∀(j:Nat) (e:aE),L[j]? =some e->qx (λk=>Region.waitsFor .any ops k i) j 0 all=true->L'[j]? =some e)->ko c ops (he bt dy all E d) L' o τ)∧s6 c ops bt dy all E L (i+1) os hs ds
 |i,o::os,.new cp::hs,_::ds=>abQ c.P o cp∧s6 c ops bt dy all E L (i+1) os hs ds
 |i,o::os,.jJ k cp::hs,d::ds=>(∃(p:Nat) (pZ:dr),(ee L (all.take i))[k]? =some ⟨some p,pZ⟩∧∀L':aa aE,(∀(j:Nat) (e:aE),(ee L (all.take i))[j]? =some e->L'[j]? =some e)->My c (he bt dy all E d) L' o p cp)∧s6 c ops bt dy all E L (i+1) os hs ds
 |i,o::os,.pY k cp::hs,d::ds=>(d.contains k=true∧∃pZ:dr,all[k]? =some (.new pZ)∧∀(L':aa aE) (q:Nat),L'[q]? =some ⟨some (bt k),j2 k pZ (all.take i)⟩->My c (he bt dy all E d) L' o (bt k) cp)∧s6 c ops bt dy all E L (i+1) os hs ds
 |_,_,_,_=>False
def F8(ops:Array Oper)(n:Nat)(dy:aa (aw Nat))(lA:aa (aa Nat))(G4:aa Bool)(qY:Nat):Bool:=
 decide (dy.length=n)&&decide (n<=ops.size)&&(dy.filterMap id).all (Nat.blt · qY)&&decide (dy.filterMap id).Nodup&&
 ((List.range n).all λi=>((ops[i]?).map λo=>(some o.dst==dy[i]?)&&(o.after.all λe=> !Region.binds .any e||decide (e.on<i))).getD false)&&
 ((List.range n).all λi=>(lA.getD i []).all λj=>decide (j<n)&&Region.waitsFor .any ops i j)&&
 ((List.range n).all λi=> !(G4.getD i false)||((List.range i).all λj=> !(G4.getD j false)||Region.waitsFor .any ops i j))&&
 (decide (n=ops.size)||(Region.sinkB .any ops n&&Region.chainB .any ops n))&&
 Region.seqB .any ops (ops.size-n) n ((List.range n).foldl (λl i=>l.setIfInBounds i true) (Array.replicate ops.size false))
def CZ(E:aa (Nat×J))(dy:aa Nat):Bool:=match E with
 |[]=>true
 |e::r=> !(dy.contains e.1)&&CZ r dy
def O5{dy:aa Nat}:∀{E:aa (Nat×J)},CZ E dy=true->∀t τ,look E t=some τ->t∉dy
 |[],_,t,τ,h=>by simp[look]at h
 | (s,σ)::r,hd,t,τ,h=>by
   simp only[CZ,gq,vh]at hd;simp only[look]at h;by_cases e:Nat.beq s t=true
   ·have:=eP.1 e;subst this;simpa using hd.1
   simp only[kX]at e;rw[e]at h;exact O5 hd.2 t τ h
def Qb(f g:Nat->Bool)(i:Nat)(aY:f i=true)(bF:g i=false)(h:∀j,g j=true->f j=true):∀n,i<n->((List.range n).filter g).length<((List.range n).filter f).length:=by
 have le:∀n,((List.range n).filter g).length<=((List.range n).filter f).length:=by
  intro n;induction n with
  |zero=>simp
  | succ n bJ=>
    rw[EA,vg,vg,fh,fh]
    have:([n].filter g).length<=([n].filter f).length:=by
     cases uV:g n with
     |false=>simp[uV]
     |true=>simp[uV,h n uV]
    omega
 intro n;induction n with
 |zero=>omega
 | succ n bJ=>
   intro b9
   rw[EA,vg,vg,fh,fh]
   by_cases e:i=n
   ·subst e
    have:=le i
    simp[aY,bF]
    omega
   have h1:=bJ (by omega)
   have:([n].filter g).length<=([n].filter f).length:=by
    cases uV:g n with
    |false=>simp[uV]
    |true=>simp[uV,h n uV]
   omega
def O6{bt:Nat->Nat}{dy:aa (aw Nat)}{all:aa ff}:∀{k:Nat} {os:aa Oper} {hs:aa ff} {ds:aa (aa Nat)},s6 c ops bt dy all E L k os hs ds->
 ∀ (i:Nat) h,hs[i]? =some h->∃o,os[i]? =some o∧(match h with
   | .val τ=> ∀L':aa aE,(∀(j:Nat) (e:aE),L[j]? =some e->qx (λq=>Region.waitsFor .any ops q (k+i)) j 0 all=true->L'[j]? =some e)->ko c ops (he bt dy all E (ds.getD i [])) L' o τ
   | .new cp=>abQ c.P o cp
   | .jJ q cp=> ∃(p:Nat) (pZ:dr),(ee L (all.take (k+i)))[q]? =some ⟨some p,pZ⟩∧∀L':aa aE,(∀(j:Nat) (e:aE),(ee L (all.take (k+i)))[j]? =some e->L'[j]? =some e)->My c (he bt dy all E (ds.getD i [])) L' o p cp
   | .pY q cp=>(ds.getD i []).contains q=true∧∃pZ:dr,all[q]? =some (.new pZ)∧∀(L':aa aE) (r:Nat),L'[r]? =some ⟨some (bt q),j2 q pZ (all.take (k+i))⟩->My c (he bt dy all E (ds.getD i [])) L' o (bt q) cp)
 |k,os,[],ds,_,i,h,ax=>by simp at ax
 |k,[],h::hs,ds,b2,_,_,_=>by cases h <;> simp[s6]at b2
 |k,o::os,h::hs,[],b2,_,_,_=>by cases h <;> simp[s6]at b2
 | k,o::os,bu::hs,d::ds,b2,i,h,ax=>by
   have hd:s6 c ops bt dy all E L (k+1) os hs ds:=by cases bu <;> exact b2.2
   cases i with
   | zero=>
     simp only[List.getElem?_cons_zero,fi]at ax
     subst ax
     refine⟨o,by simp,?_⟩
     cases bu <;> exact b2.1
   | succ i=>
     simp only[List.getElem?_cons_succ]at ax
     obtain⟨o',h1,ad⟩:=O6 hd i h ax
     refine⟨o',by simpa using h1,?_⟩
     rw[show k+(i+1)=k+1+i by omega]
     cases h <;> exact ad
def W3{bt:Nat->Nat}{dy:aa (aw Nat)}{hs:aa ff}{t:Nat}{τ:J}:∀{ds:aa Nat},look (he bt dy hs E ds) t=some τ->(∃j∈ds,dy[j]? =some (some t)∧∃h,hs[j]? =some h∧h.u9 (bt j)=some τ)∨look E t=some τ
 |[],h=>.inr h
 | j::r,h=>by
   have rest:look (he bt dy hs E r) t=some τ->(∃k∈j::r,dy[k]? =some (some t)∧∃h,hs[k]? =some h∧h.u9 (bt k)=some τ)∨look E t=some τ:=λh=>by
    rcases W3 h with⟨k,hk,h1⟩|h1
    ·exact .inl ⟨k,gd _ hk,h1⟩
    exact .inr h1
   simp only[he]at h;split at h
   ·rename_i s hk G5 wo;split at h
    ·rename_i σ n9;simp only[look]at h;by_cases e:Nat.beq s t=true
     ·rw[e]at h;simp only[cond_true,fi]at h;subst h;exact .inl ⟨j,by simp,by rw[G5,eP.1 e],hk,wo,n9⟩
     simp only[kX]at e;rw[e]at h;exact rest h
    exact rest h
   exact rest h
def v8(bt:Nat->Nat)(E:aa (Nat×J)):Nat->aa (aw Nat)->aa ff->aa (Nat×J)
 |i,some s::eH,.val τ::hs=>(s,τ)::v8 bt E (i+1) eH hs
 |i,some s::eH,.new _::hs=>(s,.eq (.pointer (some ⟨bt i,0,none⟩)))::v8 bt E (i+1) eH hs
 |i,_::eH,_::hs=>v8 bt E (i+1) eH hs
 |_,_,_=>E
def nY(bt:Nat->Nat)(all:aa ff)(L:aa aE):Nat->aa ff->aa aE
 |i,.new cp::hs=>⟨some (bt i),j2 i cp all⟩::nY bt all L (i+1) hs
 |i,_::hs=>nY bt all L (i+1) hs
 |_,[]=>L
def VM{bt:Nat->Nat}{t:Nat}{τ:J}:∀{dy:aa (aw Nat)} {hs:aa ff} (k:Nat),look (v8 bt E k dy hs) t=some τ->
 (∃j:Nat,dy[j]? =some (some t)∧∃h,hs[j]? =some h∧h.u9 (bt (k+j))=some τ)∨look E t=some τ
 |[],hs,k,h=>.inr (by cases hs <;> exact h)
 |s::eH,[],k,h=>.inr (by cases s <;> exact h)
 | s::eH,x::hs,k,h=>by
   have rest:look (v8 bt E (k+1) eH hs) t=some τ->(∃j:Nat,(s::eH)[j]? =some (some t)∧∃h,(x::hs)[j]? =some h∧h.u9 (bt (k+j))=some τ)∨look E t=some τ:=λh=>by
    rcases VM (k+1) h with⟨j,h1,ad⟩|h1
    ·refine .inl ⟨j+1,by simpa using h1,?_⟩;rw[show k+(j+1)=k+1+j by omega];simpa using ad
    exact .inr h1
   have one:∀(b0:Nat) (σ:J),s=some b0->x.u9 (bt k)=some σ->look ((b0,σ)::v8 bt E (k+1) eH hs) t=some τ->(∃j:Nat,(s::eH)[j]? =some (some t)∧∃h,(x::hs)[j]? =some h∧h.u9 (bt (k+j))=some τ)∨look E t=some τ:=λb0 σ fJ n9 h=>by
    simp only[look]at h;by_cases e:Nat.beq b0 t=true
    ·rw[e]at h;simp only[cond_true,fi]at h;subst h;exact .inl ⟨0,by simp[fJ,eP.1 e],x,by simp,by simpa using n9⟩
    simp only[kX]at e;rw[e]at h;exact rest h
   cases s with
   |none=>cases x <;> exact rest h
   | some b0=>
     cases x with
     |val σ=>exact one b0 σ I I h
     |new cp=>exact one b0 _ I I h
     |jJ i cp=>exact rest h
     |pY i cp=>exact rest h
def Vs{n:Nat}{bI:Array Bool}(inv:HeadInv .any ops n bI)(aI:n<=ops.size)(ml:∀i,i<n->bI.getD i true=true):
 bI=(List.range n).foldl (λl i=>l.setIfInBounds i true) (Array.replicate ops.size false):=by
 have key:∀m,m<=ops.size->((List.range m).foldl (λl i=>l.setIfInBounds i true) (Array.replicate ops.size false)).size=ops.size∧
  ∀j (d:Bool),j<ops.size->((List.range m).foldl (λl i=>l.setIfInBounds i true) (Array.replicate ops.size false)).getD j d=decide (j<m):=by
  intro m
  induction m with
  |zero=>intro _;exact⟨by simp,λj d aC=>by simp[aC]⟩
  | succ m bJ=>
    intro hm
    obtain⟨h1,ad⟩:=bJ (by omega)
    rw[EA,List.foldl_append]
    simp only[List.foldl_cons,List.foldl_nil]
    refine⟨by simpa using h1,λj d aC=>?_⟩
    by_cases e:m=j
    ·subst e
     simp[h1,aC]
    rw[getD_set_ne d e,ad j d aC]
    by_cases ay:j<m
    ·simp[ay];omega
    simp[ay];omega
 obtain⟨h1,ad⟩:=key n aI
 apply Array.ext
 ·rw[inv.size,h1]
 intro i aa8 ap2
 have ax:i<ops.size:=by rw[<-inv.size];exact aa8
 have ay:=ad i true ax
 have au:bI.getD i true=bI[i]:=by simp[aa8]
 have aW:((List.range n).foldl (λl i=>l.setIfInBounds i true) (Array.replicate ops.size false)).getD i true=((List.range n).foldl (λl i=>l.setIfInBounds i true) (Array.replicate ops.size false))[i]:=by
  simp[ap2]
 rw[<-aW,ay,<-au]
 by_cases aR:i<n
 ·rw[ml i aR];simp[aR]
 rw[inv.tail i (by omega) ax];simp[aR]
def B7(bt:Nat->Nat)(all:aa ff)(L:aa aE):∀(hs:aa ff) (i:Nat),nY bt all L i hs=nY bt all [] i hs++L
 |[],_=>rfl
 | .new cp::hs,i=>by simp only[nY];rw[B7 bt all L hs (i+1)];rfl
 | .val _::hs,i=>B7 bt all L hs (i+1)
 | .jJ _ _::hs,i=>B7 bt all L hs (i+1)
 | .pY _ _::hs,i=>B7 bt all L hs (i+1)
def O7{bt:Nat->Nat}{all:aa ff}{e:aE}:∀{hs:aa ff} {i:Nat},e∈nY bt all [] i hs->∃(j:Nat) (cp:dr),hs[j]? =some (.new cp)∧e=⟨some (bt (i+j)),j2 (i+j) cp all⟩
 |[],_,h=>by simp[nY]at h
 | x::hs,i,h=>by
   have rest:e∈nY bt all [] (i+1) hs->∃(j:Nat) (cp:dr),(x::hs)[j]? =some (.new cp)∧e=⟨some (bt (i+j)),j2 (i+j) cp all⟩:=λh=>by
    obtain⟨j,cp,h1,ad⟩:=O7 (hs:=hs) (i:=i+1) h;refine⟨j+1,cp,by simpa using h1,?_⟩;rw[show i+(j+1)=i+1+j by omega];exact ad
   cases x with
   | new cp=>
     rcases dO.1 h with h|h
     ·exact⟨0,cp,by simp,by simpa using h⟩
     exact rest h
   |val _=>exact rest h
   |jJ _ _=>exact rest h
   |pY _ _=>exact rest h
def U2{bt:Nat->Nat}{all:aa ff}:∀(hs:aa ff) (i:Nat),(∀(j k:Nat) (u v:dr),hs[j]? =some (.new u)->hs[k]? =some (.new v)->bt (i+j)=bt (i+k)->j=k)->(ks (nY bt all [] i hs)).Nodup
 |[],_,_=>by simp[nY,ks]
 | x::hs,i,h=>by
   have aD:(ks (nY bt all [] (i+1) hs)).Nodup:=U2 hs (i+1) λj k u v h1 ad ay=>by
    have:=h (j+1) (k+1) u v (by simpa using h1) (by simpa using ad) (by rw[show i+(j+1)=i+1+j by omega,show i+(k+1)=i+1+k by omega];exact ay);omega
   cases x with
   |val _=>exact aD
   |jJ _ _=>exact aD
   |pY _ _=>exact aD
   | new cp=>
     simp only[nY,ks]
     refine lQ.2 ⟨λhm=>?_,aD⟩
     obtain⟨e,he,hk⟩:=nq.1 hm
     obtain⟨j,u,h1,ad⟩:=O7 he
     rw[ad]at hk
     simp only[fi]at hk
     have:=h 0 (j+1) cp u (by simp) (by simpa using h1) (by rw[show i+(j+1)=i+1+j by omega];simpa using hk.symm)
     omega
def fB(bt:Nat->Nat)(all:aa ff)(b:Nat)(dG:aa Nat):aa aE:=dG.map λj=>⟨some (bt j),match all[j]? with |some (.new cp)=>j2 j cp (all.take b)|_=>.dead⟩
def FL(bt:Nat->Nat)(all:aa ff)(b:Nat):∀(dG:aa Nat),ks (fB bt all b dG)=dG.map bt
 |[]=>rfl
 | j::dG=>by
   have:=FL bt all b dG;simp only[fB,mb,ks]at this⊢;rw[this]
structure Dk(c:cj)(n:Nat)(dy:List (Option Nat))(hs:List ff)(E:List (Nat×J))(L:List aE)(bI:Array Bool)(bt:Nat->Nat)(dG:List Nat)(b:Nat)(a:Act)(W:World):Prop where
 st:bG c E (ee L (hs.take b)++fB bt hs b dG) a W
 done:∀(j:Nat) s h τ,j<n->bI.getD j false=true->dy[j]? =some (some s)->hs[j]? =some h->h.u9 (bt j)=some τ->∃v,a.tmps[s]? =some v∧τ.holds (ks (ee L (hs.take b)++fB bt hs b dG)++c.bP) W v
 news:∀(j:Nat),j∈dG↔(j<n∧bI.getD j false=true∧∃cp,hs[j]? =some (.new cp))
 stored:∀(j:Nat) h,hs[j]? =some h->h.o5=true->(bI.getD j false=true↔j<b)
 ble:b<=n
def agX{hs:aa ff}{b i:Nat}{h:ff}(hb:b<=i)(ax:hs[i]? =some h)(aI:∀(j:Nat) x,b<=j->j<i->hs[j]? =some x->x.o5=false):
 ∃r,hs.take i=hs.take b++r∧∀x∈r,x.o5=false:=by
 refine⟨(hs.drop b).take (i-b),?_,λx al=>?_⟩
 ·rw[<-I4];congr 1;omega
 obtain⟨j,aC⟩:=l8.1 al
 rw[jR]at aC
 split at aC
 ·rw[lp]at aC
  exact aI (b+j) x (by omega) (by omega) aC
 cases aC
def PJ(L:aa aE)(r s:aa ff):ee L (r++s)=ee (ee L r) s:=by
 induction r generalizing L with
 |nil=>rfl
 |cons x r bJ=>cases x <;> simp only[List.cons_append,ee] <;> exact bJ _
def Pg(j:Nat)(cp:dr)(r s:aa ff):j2 j cp (r++s)=j2 j (j2 j cp r) s:=by
 induction r generalizing cp with
 |nil=>rfl
 |cons x r bJ=>cases x <;> simp only[List.cons_append,j2] <;> exact bJ _
def zI{L R:aa aE}(h:L.Perm R):(ks L).Perm (ks R):=by
 induction h with
 |nil=>exact .nil
 |cons x _ bJ=>cases hk:x.key <;> simp only[ks,hk] <;> first|exact bJ|exact bJ.cons _
 | swap x y l=>
   cases al:x.key <;> cases hy:y.key <;> simp only[ks,al,hy]
   all_goals first|exact .refl _|exact .swap _ _ _
 |trans _ _ h1 ad=>exact h1.trans ad
def bG.perm{E L L' a W}(h:bG c E L a W)(p:L.Perm L'):bG c E L' a W:=
 h.sub (λe he=>p.mem_iff.2 he) ((zI p).nodup_iff.1 h.nodup)
def Fw{j:Nat}{cp:dr}:∀{r:aa ff},(∀q x,ff.pY q x∈r->q≠j)->j2 j cp r=cp
 |[],_=>rfl
 | .pY q x::r,h=>by
   have h1:=h q x (by simp);have e:Nat.beq q j=false:=by
    cases hb:Nat.beq q j with
    |false=>rfl
    |true=>exact absurd (eP.1 hb) h1
   simp only[j2,e,cond_false];exact Fw λq x hm=>h q x (by simp[hm])
 | .val _::r,h=>Fw (r:=r) λq x hm=>h q x (by simp[hm])
 | .new _::r,h=>Fw (r:=r) λq x hm=>h q x (by simp[hm])
 | .jJ _ _::r,h=>Fw (r:=r) λq x hm=>h q x (by simp[hm])
def Vc(f:Nat->Nat):∀(l:aa Nat),(l.map f).Nodup->l.Nodup
 |[],_=>by simp
 | x::r,h=>by
   simp only[mb]at h;obtain⟨h1,ad⟩:=lQ.1 h;exact lQ.2 ⟨λhm=>h1 (gY.2 ⟨x,hm,rfl⟩),Vc f r ad⟩
def ahW{bt p0:Nat->Nat}{all:aa ff}{b:Nat}{dG:aa Nat}(h:∀j∈dG,p0 j=bt j):fB p0 all b dG=fB bt all b dG:=by
 unfold fB;exact D6 λj aC=>by rw[h j aC]
def agj{n:Nat}{dy:aa (aw Nat)}{hs:aa ff}{lA:aa (aa Nat)}(dE:F8 ops n dy lA (hs.map ff.o5) c.n=true)(aM:CZ E (dy.filterMap id)=true)(hlen:hs.length=n)
 (b2:∀bt,s6 c ops bt dy hs E L 0 ops.toList hs lA) (bw:∀bt,ae c ops Q (ops.toList.drop n) (v8 bt E 0 dy hs) (nY bt hs (ee L hs) 0 hs)):
 ∀ m (bI:Array Bool) (bt:Nat->Nat) (dG:aa Nat) (b:Nat) (a:Act) (W:bf),((List.range n).filter λi=> !bI.getD i true).length<=m->HeadInv .any ops n bI->Dk c n dy hs E L bI bt dG b a W->
   wpAnyIn c.F 9 c.P .any ops Q (m+(ops.size-n)) bI a W:=by
 simp only[F8,gq,fM,oq]at dE
 obtain⟨⟨⟨⟨⟨⟨⟨⟨pf,aI⟩,b9⟩,ij⟩,aoa⟩,YP⟩,aob⟩,QU⟩,Aq⟩:=dE
 have pU:∀i,i<n->∃o,ops[i]? =some o∧dy[i]? =some o.dst∧∀e∈o.after,Region.binds .any e=true->e.on<i:=by
  intro i ax;have h1:=kH.1 aoa i (lq.2 ax);cases aU:ops[i]? with
  |none=>simp[aU]at h1
  | some o=>
    simp only[aU,Option.map_some,Option.getD_some,gq,oT]at h1
    refine⟨o,rfl,h1.1.symm,λe he hb=>?_⟩
    have:=To.1 h1.2 e he
    simp[hb]at this
    exact this
 have Lw:∀(i s:Nat),dy[i]? =some (some s)->s<c.n:=λi s h=>by
  have:s∈dy.filterMap id:=w4.2 ⟨some s,eo h,rfl⟩;have:=kH.1 b9 s this;simpa using this
 have Z2:∀(i j s:Nat),dy[i]? =some (some s)->dy[j]? =some (some s)->i=j:=by
  have key:∀(l:aa (aw Nat)),(l.filterMap id).Nodup->∀(i j s:Nat),l[i]? =some (some s)->l[j]? =some (some s)->i=j:=by
   intro l;induction l with
   |nil=>intro _ i j s h;simp at h
   | cons x r bJ=>
     intro ij i j s ax aC
     have aD:(r.filterMap id).Nodup:=by
      cases x with
      |none=>simpa using ij
      |some y=>simp only[Tw (f:=id) (a:=some y) (b:=y) I]at ij;exact(lQ.1 ij).2
     have x3:x=some s->s∉r.filterMap id:=λe=>by
      subst e;simp only[Tw (f:=id) (a:=some s) (b:=s) I]at ij;exact(lQ.1 ij).1
     cases i with
     | zero=>
       simp only[List.getElem?_cons_zero,fi]at ax
       cases j with
       |zero=>rfl
       | succ j=>
         simp only[List.getElem?_cons_succ]at aC
         exact absurd (w4.2 ⟨some s,eo aC,rfl⟩:s∈r.filterMap id) (x3 ax)
     | succ i=>
       simp only[List.getElem?_cons_succ]at ax
       cases j with
       | zero=>
         simp only[List.getElem?_cons_zero,fi]at aC
         exact absurd (w4.2 ⟨some s,eo ax,rfl⟩:s∈r.filterMap id) (x3 aC)
       | succ j=>
         simp only[List.getElem?_cons_succ]at aC
         rw[bJ aD i j s ax aC]
  exact key dy ij
 intro m
 induction m with
 | zero=>
   intro bI bt dG b a W hm inv mid
   have ml:∀i,i<n->bI.getD i true=true:=by
    intro i ax;cases h:bI.getD i true with
    |true=>rfl
    | false=>
      have:i∈(List.range n).filter λi=> !bI.getD i true:=sI.2 ⟨lq.2 ax,by rw[h];rfl⟩
      rw[DU.1 (N0.1 hm)]at this
      cases this
   have ao:=Vs inv aI ml
   rw[<-ao]at Aq
   have F9:(ops.toList.drop n).length=ops.size-n:=by simp
   rw[h7,<-F9]
   rw[<-F9]at Aq
   refine JF (ops.toList.drop n) n bI a W (λj=>by simp) Aq (bw bt a W ?_)
   have uk:∀j,j<n->bI.getD j false=true:=λj wq=>by
    have ay:=ml j wq;have aR:j<bI.size:=by rw[inv.size];omega
    simpa[aR]using ay
   have wq:∀(j:Nat) (h:ff),hs[j]? =some h->j<n:=λj h aC=>by have:=(fL.1 aC).1;omega
   have XE:∀x∈hs.drop b,x.o5=false:=λx al=>by
    obtain⟨j,aC⟩:=l8.1 al;rw[lp]at aC;cases iE:x.o5 with
    |false=>rfl
    | true=>
      have:=(mid.stored (b+j) x aC iE).1 (uk _ (wq _ _ aC))
      omega
   have Z3:ee L hs=ee L (hs.take b):=by
    conv=>lhs;rw[<-gb b hs]
    rw[PJ,J6 XE]
   have RR:∀(j:Nat) cp,j2 j cp hs=j2 j cp (hs.take b):=λj cp=>by
    conv=>lhs;rw[<-gb b hs]
    rw[Pg,JX XE]
   have QV:(dG.map bt).Nodup:=by
    have:=mid.st.nodup;rw[eg,FL]at this;exact(nd.1 this).2.1
   have aoc:∀(j k:Nat),j∈dG->k∈dG->bt j=bt k->j=k:=by
    have key:∀(l:aa Nat),(l.map bt).Nodup->∀j k:Nat,j∈l->k∈l->bt j=bt k->j=k:=by
     intro l;induction l with
     |nil=>intro _ j k h;cases h
     | cons x r ap3=>
       intro aI j k aC hk e
       simp only[mb]at aI
       obtain⟨h1,ad⟩:=lQ.1 aI
       rcases dO.1 aC with ay|aC
       ·rcases dO.1 hk with aR|hk
        ·rw[ay,aR]
        exact absurd (gY.2 ⟨k,hk,by rw[<-e,ay]⟩) h1
       rcases dO.1 hk with aR|hk
       ·exact absurd (gY.2 ⟨j,aC,by rw[e,aR]⟩) h1
       exact ap3 ad j k aC hk e
    exact key dG QV
   have RS:∀(j:Nat) cp,hs[j]? =some (.new cp)->j∈dG:=λj cp aC=>(mid.news j).2 ⟨wq j _ aC,uk j (wq j _ aC),cp,aC⟩
   have QW:∀e∈nY bt hs [] 0 hs,e∈fB bt hs b dG:=λe he=>by
    obtain⟨j,cp,h1,ad⟩:=O7 he;rw[h7]at ad;refine gY.2 ⟨j,RS j cp h1,?_⟩;simp only[h1];rw[ad,RR]
   have L5:bG c E (nY bt hs (ee L hs) 0 hs) a W:=by
    rw[B7,Z3];refine mid.st.sub (λe he=>?_) ?_
    ·rcases ca.1 he with he|he
     ·exact ca.2 (.inr (QW e he))
     exact ca.2 (.inl he)
    rw[eg];have e9:=mid.st.nodup;rw[eg,FL]at e9;obtain⟨h1,ad,ay⟩:=nd.1 e9;refine nd.2 ⟨U2 hs 0 λj k u v au aW cF=>?_,h1,λx al y hy e=>?_⟩
    ·simp only[h7]at cF;exact aoc j k (RS j u au) (RS k v aW) cF
    subst e;obtain⟨e,he,yj⟩:=nq.1 al;have:x∈ks (fB bt hs b dG):=nq.2 ⟨e,QW e he,yj⟩;rw[FL]at this;exact ay x hy x this I
   have mQ:∀k∈ks (nY bt hs (ee L hs) 0 hs)++c.bP,k∈ks (ee L (hs.take b)++fB bt hs b dG)++c.bP:=λk hk=>by
    rw[B7,eg,Z3]at hk;rw[eg];simp only[ca]at hk⊢;rcases hk with(hk|hk)|hk
    ·obtain⟨e,he,yj⟩:=nq.1 hk;exact .inl (.inr (nq.2 ⟨e,QW e he,yj⟩))
    ·exact .inl (.inl hk)
    exact .inr hk
   refine {L5 with env:=λt τ en=>?_}
   rcases VM 0 en with⟨j,h1,h,ad,ay⟩|h1
   ·rw[h7]at ay
    obtain⟨v,aR,aX⟩:=mid.done j t h τ (wq j h ad) (uk j (wq j h ad)) h1 ad ay
    exact⟨v,aR,τ.mono (.drop mQ) aX⟩
   exact L5.env t τ h1
 | succ m bJ=>
   intro bI bt dG b a W hm inv mid
   by_cases ml:∀i,i<n->bI.getD i true=true
   ·have bu:((List.range n).filter λi=> !bI.getD i true).length<=m:=by
     have:((List.range n).filter λi=> !bI.getD i true)=[]:=MW.2 λi ax=>by simp[ml i (lq.1 ax)]
     rw[this];simp
    have h1:=bJ bI bt dG b a W bu inv mid
    have more:∀f (bI:Array Bool) a W,wpAnyIn c.F 9 c.P .any ops Q f bI a W->wpAnyIn c.F 9 c.P .any ops Q (f+1) bI a W:=by
     intro f;induction f with
     |zero=>intro bI a W h;exact⟨λ_=>h.2,λi ax=>by rw[h.1]at ax;cases ax⟩
     |succ f RT=>intro bI a W h;exact⟨h.1,λi ax=>wpOpIn_mono (λhL pk cT=>RT _ hL pk cT) (h.2 i ax)⟩
    rw[show m+1+(ops.size-n)=(m+(ops.size-n))+1 by omega]
    exact more _ _ _ _ h1
   rw[show m+1+(ops.size-n)=(m+(ops.size-n))+1 by omega]
   have hex:∃i,i<n∧bI.getD i true=false:=by
    have h1: ¬∀i,i<n->bI.getD i true=true:=ml;false_or_by_contra;rename_i ad;exact h1 λi ax=>by
     cases h:bI.getD i true with
     |true=>rfl
     |false=>exact absurd ⟨i,ax,h⟩ ad
   have Qc:∀t∈Region.ready .any ops bI,t<n:=by
    intro t yk;rcases sN t n with h|h
    ·exact h
    obtain⟨i,ax,j6⟩:=hex;rcases QU with h1|h1
    ·obtain⟨_,o,aU,_⟩:=rP.1 yk;have:=(q4.1 aU).1;omega
    have Z4:n<ops.size:=by
     obtain⟨_,o,aU,_⟩:=rP.1 yk;have:=(q4.1 aU).1;omega
    exact absurd yk (tail_waits h1.1 h1.2 Z4 inv _ i I ax j6 t h)
   refine⟨λbu=>?_,λi ax=>?_⟩
   ·exfalso
    have aje:∀k,∀i,i<=k->i<n->bI.getD i true=false->∃i,i<n∧bI.getD i true=false∧∀j,j<i->bI.getD j true=true:=by
     intro k;induction k with
     |zero=>intro i nD ax hu;exact⟨i,ax,hu,λj aC=>by omega⟩
     | succ k RU=>
       intro i nD ax hu
       by_cases hq:∀j,j<i->bI.getD j true=true
       ·exact⟨i,ax,hu,hq⟩
       have:∃j,j<i∧bI.getD j true=false:=by
        false_or_by_contra;rename_i ad;exact hq λj aC=>by
         cases h:bI.getD j true with
         |true=>rfl
         |false=>exact absurd ⟨j,aC,h⟩ ad
       obtain⟨j,aC,ap4⟩:=this
       exact RU j (by omega) (by omega) ap4
    obtain⟨i0,AO,aaQ⟩:=hex
    obtain⟨i,ax,hu,Rr⟩:=aje i0 i0 (iu _) AO aaQ
    obtain⟨o,aU,_,KK⟩:=pU i ax
    have:i∈Region.ready .any ops bI:=rP.2 ⟨hu,o,aU,λe he hb=>by
     have h1:=Rr e.on (KK e he hb);have ad:e.on<bI.size:=by rw[inv.size];have:=KK e he hb;omega
     simpa[ad]using h1⟩
    rw[bu]at this
    cases this
   have fu:=Qc i ax
   obtain⟨o,aU,o6,KK⟩:=pU i fu
   obtain⟨j6,o',oB,uk⟩:=rP.1 ax
   have ap5:o'=o:=uc (oB.symm.trans aU)
   subst ap5
   obtain⟨h,eY⟩:∃h,hs[i]? =some h:=⟨hs[i]'(by omega),by simp⟩
   obtain⟨cc,eS,hH⟩:=O6 (b2 bt) i h eY
   have aod:cc=o':=by
    rw[w2]at eS;exact uc (eS.symm.trans aU)
   subst aod
   have o9:((List.range n).filter λj=> !(bI.setIfInBounds i true).getD j true).length<=m:=by
    have:((List.range n).filter λj=> !(bI.setIfInBounds i true).getD j true).length<((List.range n).filter λj=> !bI.getD j true).length:=by
     refine Qb (λj=> !bI.getD j true) (λj=> !(bI.setIfInBounds i true).getD j true) i (by simp only[j6];rfl) ?_ (λj aC=>?_) n fu
     ·have:i<bI.size:=by rw[inv.size];omega
      simp[this]
     by_cases e:i=j
     ·subst e;simp only[j6];rfl
     rw[getD_set_ne true e]at aC;exact aC
    omega
   have Ar:=inv.set ax fu
   have Ly:i<bI.size:=by rw[inv.size];omega
   have CJ:(bI.setIfInBounds i true).getD i false=true:=by simp[Ly]
   have pM:bI.getD i false=false:=getD_both j6
   have aoe:i∉dG:=λhm=>by have:=((mid.news i).1 hm).2.1;rw[pM]at this;cases this
   have Lz:∀j∈lA.getD i [],j<n∧bI.getD j false=true:=λj aC=>by
    have ay:=kH.1 (kH.1 YP i (lq.2 fu)) j aC;simp only[gq,fM]at ay;obtain⟨po,la,e,he,hb,tv⟩:=y2 ay.2;have:po=cc:=uc (la.symm.trans aU);subst this;have aR:=uk e he hb;rw[tv]at aR;exact⟨ay.1,aR⟩
   have cD:bG c (he bt dy hs E (lA.getD i [])) (ee L (hs.take b)++fB bt hs b dG) a W:=by
    refine {mid.st with env:=λt σ en=>?_};rcases W3 en with⟨j,aC,h1,x,ad,ay⟩|h1
    ·exact mid.done j t x σ (Lz j aC).1 (Lz j aC).2 h1 ad ay
    exact mid.st.env t σ h1
   have W4:h.o5=true->b<=i∧∃r,hs.take i=hs.take b++r∧∀x∈r,x.o5=false:=λZ5=>by
    have L6:b<=i:=by
     rcases sN i b with h1|h1
     ·have:=(mid.stored i h eY Z5).2 h1;rw[pM]at this;cases this
     exact h1
    refine⟨L6,agX L6 eY λj x Dg yl al=>?_⟩;cases iE:x.o5 with
    |false=>rfl
    | true=>
      have ay:=kH.1 aob i (lq.2 fu)
      have au:(hs.map ff.o5).getD i false=true:=by simp[eY,Z5]
      simp only[au,NB,sL]at ay
      have aR:=kH.1 ay j (lq.2 yl)
      have aW:(hs.map ff.o5).getD j false=true:=by simp[al,iE]
      simp only[aW,NB,sL]at aR
      obtain⟨po,la,e,he,hb,tv⟩:=y2 aR
      have:po=cc:=uc (la.symm.trans aU)
      subst this
      have aX:=uk e he hb
      rw[tv]at aX
      have:=(mid.stored j x al iE).1 aX
      omega
   unfold wpOpIn
   simp only[aU]
   cases h with
   | val τ=>
     simp only at hH
     have L7:=hH (ee L (hs.take b)++fB bt hs b dG) (λj e aC hu=>by
      have h1:(ee L (hs.take b))[j]? =some e:=by
       rw [Fy b 0 hu (λq hq ⟨va,cp',al⟩=>by
        have L8:=(mid.stored q _ al I).2 hq;cases hw:Region.waitsFor .any ops (0+q) (0+i)with
        |false=>rfl
        | true=>
          obtain⟨RV,LA,e',L9,AP,Z6⟩:=y2 hw
          rw[h7]at LA Z6
          have:=inv.closed q RV LA L8 e' L9 AP
          rw[Z6,pM]at this
          cases this)]
       exact aC
      rw[Bk (fL.1 h1).1];exact h1)
     obtain⟨h1,ad⟩:=L7 a W cD
     have YQ:∀v W',Fr [] W W'->τ.holds (ks (ee L (hs.take b)++fB bt hs b dG)++c.bP) W' v->Dk c n dy hs E L (bI.setIfInBounds i true) bt dG b (a.put cc.dst v) W':=by
      intro v W' f ba;have jg:=mid.st.world f;refine⟨?_,λj b0 x σ aC ao fJ al n9=>?_,λj=>?_,λj x al iE=>?_,mid.ble⟩
      ·cases hd:cc.dst with
       |none=>exact jg
       | some s=>
         rw[hd]at o6
         refine {(jg.put (d:=s) (Lw i s o6) ba)with env:=λt σ en=>?_}
         have cX:s≠t:=λe=>O5 aM t σ en (by rw[<-e];exact w4.2 ⟨some s,eo o6,rfl⟩)
         obtain⟨u,aX,bh⟩:=jg.env t σ en
         exact⟨u,by simp only[Act.put];rw[yY cX];exact aX,bh⟩
      ·by_cases e:i=j
       ·subst e;rw[o6]at fJ;rw[eY]at al;cases al;simp only[ff.u9,fi]at n9;subst n9;simp only[fi]at fJ;rw[fJ];exact⟨v,by rw[fJ]at o6;simp[Act.put,jg.size,Lw i b0 o6],ba⟩
       rw[getD_set_ne false e]at ao;obtain⟨u,aX,bh⟩:=mid.done j b0 x σ aC ao fJ al n9;refine⟨u,?_,σ.mono (.dk f) bh⟩;cases hd:cc.dst with
       |none=>exact aX
       | some s=>
         rw[hd]at o6
         have cX:s≠b0:=λaW=>e (Z2 i j s o6 (by rw[aW];exact fJ))
         simp only[Act.put];rw[yY cX];exact aX
      ·rw[mid.news j];by_cases e:i=j
       ·subst e;constructor
        ·rintro ⟨_,aX,_⟩;rw[pM]at aX;cases aX
        rintro ⟨_,_,cp,aX⟩;rw[eY]at aX;cases aX
       rw[getD_set_ne false e]
      have e:i≠j:=λe=>by subst e;rw[eY]at al;cases al;cases iE
      rw[getD_set_ne false e];exact mid.stored j x al iE
     split
     ·rename_i hw
      exact(h1 hw).wpIn λv W' ⟨f,ba⟩=>bJ _ bt dG b _ _ o9 Ar (YQ v W' f ba)
     rename_i hw
     have ap6:Region.wanted cc (yielded ops a.tmps)=false:=by simpa using hw
     exact⟨λ_ _=>trivial,bJ _ bt dG b _ _ o9 Ar (YQ undef W (.refl _ _) (ad ap6))⟩
   | new cp=>
     simp only at hH
     obtain⟨G6,l4,e3,jt⟩:=hH
     have alA:∀q x,ff.pY q x∈hs.take b->q≠i:=λq x hm e=>by
      subst e;obtain⟨j,aC⟩:=l8.1 hm;rw[jR]at aC;split at aC
      ·rename_i ap7;have wu:=(mid.stored j _ aC I).2 ap7;have wq:j<n:=by have:=(fL.1 aC).1;omega
       obtain⟨po,la,aa9⟩:=O6 (b2 bt) j _ aC;simp only at aa9;have ay:=kH.1 (kH.1 YP j (lq.2 wq)) q (by simpa using aa9.1);simp only[gq,fM]at ay;obtain⟨RV,LA,e,he,hb,tv⟩:=y2 ay.2;have:=inv.closed j RV LA wu e he hb;rw[tv,pM]at this;cases this
      cases aC
     have LB:j2 i cp (hs.take b)=cp:=Fw alA
     let p0:Nat->Nat:=λj=>if j=i then W.heap.size else bt j
     have ap8:∀j,j∈dG->p0 j=bt j:=λj aC=>bn (λe=>aoe (by rw[<-e];exact aC))
     have RW:p0 i=W.heap.size:=br I
     have uW:ee L (hs.take b)++fB p0 hs b (i::dG)=ee L (hs.take b)++(⟨some W.heap.size,cp⟩::fB bt hs b dG):=by
      have:fB p0 hs b (i::dG)=⟨some W.heap.size,cp⟩::fB p0 hs b dG:=by simp only[fB,mb,eY,RW,LB]
      rw[this,ahW ap8]
     have GA:Dk c n dy hs E L (bI.setIfInBounds i true) p0 (i::dG) b (a.put cc.dst (.pointer (some ⟨W.heap.size,0,none⟩))) (W.alloc l4):=by
      have jg:bG c E (ee L (hs.take b)++fB p0 hs b (i::dG)) a (W.alloc l4):=by
       rw[uW];exact(mid.st.alloc (e3 _ _)).perm q5.symm
      have gR:Ext (ks (ee L (hs.take b)++fB bt hs b dG)++c.bP) W (ks (ee L (hs.take b)++fB p0 hs b (i::dG))++c.bP) (W.alloc l4):=by
       refine⟨by simp,λk hk _=>KI W l4 k hk,λk hk b9=>?_⟩;rw[uW]at hk;simp only[eg,ks,ca,dO]at hk⊢;rcases hk with(h|h|h)|h
       ·exact .inl (.inl h)
       ·omega
       ·exact .inl (.inr h)
       exact .inr h
      refine⟨?_,λj b0 x σ aC ao fJ al n9=>?_,λj=>?_,λj x al iE=>?_,mid.ble⟩
      ·cases hd:cc.dst with
       |none=>exact jg
       | some s=>
         rw[hd]at o6
         refine {(jg.put (d:=s) (τ:=.any) (Lw i s o6) r1)with env:=λt σ en=>?_}
         have cX:s≠t:=λe=>O5 aM t σ en (by rw[<-e];exact w4.2 ⟨some s,eo o6,rfl⟩)
         obtain⟨u,aX,bh⟩:=jg.env t σ en
         exact⟨u,by simp only[Act.put];rw[yY cX];exact aX,bh⟩
      ·by_cases e:i=j
       ·subst e;rw[o6]at fJ;rw[eY]at al;cases al;simp only[ff.u9,fi]at n9;subst n9;simp only[fi]at fJ;rw[fJ];exact⟨.pointer (some ⟨W.heap.size,0,none⟩),by rw[fJ]at o6;simp[Act.put,jg.size,Lw i b0 o6],by rw[RW];rfl⟩
       rw[getD_set_ne false e]at ao;have ap9:p0 j=bt j:=bn (λe'=>e e'.symm);rw[ap9]at n9;obtain⟨u,aX,bh⟩:=mid.done j b0 x σ aC ao fJ al n9;refine⟨u,?_,σ.mono gR bh⟩;cases hd:cc.dst with
       |none=>exact aX
       | some s=>
         rw[hd]at o6
         have cX:s≠b0:=λaW=>e (Z2 i j s o6 (by rw[aW];exact fJ))
         simp only[Act.put];rw[yY cX];exact aX
      ·rw[dO,mid.news j];by_cases e:i=j
       ·subst e;exact⟨λ_=>⟨fu,CJ,cp,eY⟩,λ_=>.inl I⟩
       rw[getD_set_ne false e];exact⟨λh=>h.resolve_left (λe'=>e e'.symm),.inr⟩
      have e:i≠j:=λe=>by subst e;rw[eY]at al;cases al;cases iE
      rw[getD_set_ne false e];exact mid.stored j x al iE
     rw[br (by simp[Region.wanted,G6])]
     refine ae8 (jt a W) ?_
     exact bJ _ p0 (i::dG) b _ _ o9 Ar GA
   | jJ q cp=>
     simp only at hH
     obtain⟨L6,r,AQ,kO⟩:=W4 I
     have aba:ee L (hs.take i)=ee L (hs.take b):=by rw[AQ,PJ,J6 kO]
     rw[h7,aba]at hH
     obtain⟨p,pZ,hq,ym⟩:=hH
     have lf:(ee L (hs.take b)++fB bt hs b dG)[q]? =some ⟨some p,pZ⟩:=by
      rw[Bk (fL.1 hq).1];exact hq
     obtain⟨G6,C0,ym⟩:=ym (ee L (hs.take b)++fB bt hs b dG) (λj e aC=>by
      rw[Bk (fL.1 aC).1];exact aC)
     obtain⟨cs,dT,T,h1,ad,ay⟩:=ym a W cD
     have G5:=mid.st.store lf h1 ay
     have C1:hs.take (i+1)=hs.take i++[.jJ q cp]:=by rw[Ei,eY];rfl
     have tw:ee L (hs.take (i+1))=(ee L (hs.take b)).set q ⟨some p,cp⟩:=by
      rw[C1,Vr,aba];simp only[ee];exact agi hq
     have RX:fB bt hs (i+1) dG=fB bt hs b dG:=by
      unfold fB;refine D6 λj _=>?_;congr 1;split
      ·rw[C1,OK,AQ,Pg,JX kO];rfl
      rfl
     have G7:ee L (hs.take (i+1))++fB bt hs (i+1) dG=(ee L (hs.take b)++fB bt hs b dG).set q ⟨some p,cp⟩:=by
      rw[tw,RX,List.set_append_left _ _ (fL.1 hq).1]
     have sq:ks (ee L (hs.take (i+1))++fB bt hs (i+1) dG)=ks (ee L (hs.take b)++fB bt hs b dG):=by rw[G7];exact zU (cp:=cp) lf
     have j7:p∈ks (ee L (hs.take b)++fB bt hs b dG):=nq.2 ⟨_,eo lf,rfl⟩
     have gR:Ext (ks (ee L (hs.take b)++fB bt hs b dG)++c.bP) W (ks (ee L (hs.take b)++fB bt hs b dG)++c.bP) (W.setRow p dT):=
      ⟨by simp,λk _ a7=>setRow_other W p k dT (λe=>a7 (e▸ca.2 (.inl j7))),λ_ h _=>h⟩
     have GA:Dk c n dy hs E L (bI.setIfInBounds i true) bt dG (i+1) (a.put cc.dst undef) (W.setRow p dT):=by
      rw[C0];refine⟨by rw[G7];exact G5,λj b0 x σ aC ao fJ al n9=>?_,λj=>?_,λj x al iE=>?_,fu⟩
      ·rw[sq];by_cases e:i=j
       ·subst e;rw[eY]at al;cases al;cases n9
       rw[getD_set_ne false e]at ao;obtain⟨u,aX,bh⟩:=mid.done j b0 x σ aC ao fJ al n9;exact⟨u,aX,σ.mono gR bh⟩
      ·rw[mid.news j];by_cases e:i=j
       ·subst e;constructor
        ·rintro ⟨_,aX,_⟩;rw[pM]at aX;cases aX
        rintro ⟨_,_,cp,aX⟩;rw[eY]at aX;cases aX
       rw[getD_set_ne false e]
      by_cases e:i=j
      ·subst e;exact⟨λ_=>by omega,λ_=>CJ⟩
      rw[getD_set_ne false e,mid.stored j x al iE];constructor
      ·intro _;omega
      intro aC;rcases sN j b with aX|aX
      ·exact aX
      have:x∈r:=by
       have bh:(hs.take i)[j]? =some x:=by rw[jR,br (by omega)];exact al
       rw[AQ,DQ (by rw[fy];omega)]at bh;exact eo bh
      have:=kO x this;rw[iE]at this;cases this
     rw[br (by simp[Region.wanted,G6])]
     refine Vb ad ?_
     exact bJ _ bt dG (i+1) _ _ o9 Ar GA
   | pY q cp=>
     simp only at hH
     obtain⟨L6,r,AQ,kO⟩:=W4 I
     obtain⟨Z7,pZ,wv,ym⟩:=hH
     rw[h7]at ym
     have LB:∀(j:Nat) x,j2 j x (hs.take i)=j2 j x (hs.take b):=λj x=>by rw[AQ,Pg,JX kO]
     have aof:q∈dG:=(mid.news q).2 ⟨(Lz q (by simpa using Z7)).1,(Lz q (by simpa using Z7)).2,pZ,wv⟩
     obtain⟨k,hk⟩:=l8.1 aof
     have GB:(fB bt hs b dG)[k]? =some ⟨some (bt q),j2 q pZ (hs.take i)⟩:=by
      simp only[fB,Ef,hk,Option.map_some,wv,LB]
     have lf:(ee L (hs.take b)++fB bt hs b dG)[(ee L (hs.take b)).length+k]? =some ⟨some (bt q),j2 q pZ (hs.take i)⟩:=by
      rw[DQ (by omega),TA];exact GB
     obtain⟨G6,C0,ym⟩:=ym (ee L (hs.take b)++fB bt hs b dG) _ lf
     obtain⟨cs,dT,T,h1,ad,ay⟩:=ym a W cD
     have G5:=mid.st.store lf h1 ay
     have C1:hs.take (i+1)=hs.take i++[.pY q cp]:=by rw[Ei,eY];rfl
     have tw:ee L (hs.take (i+1))=ee L (hs.take b):=by
      rw[C1,Vr];simp only[ee];rw[AQ,PJ,J6 kO]
     have QV:dG.Nodup:=by
      have:=mid.st.nodup;rw[eg,FL]at this;exact Vc bt dG (nd.1 this).2.1
     have RX:fB bt hs (i+1) dG=(fB bt hs b dG).set k ⟨some (bt q),cp⟩:=by
      apply l9;intro j;rw[oP];by_cases e:k=j
      ·subst e;have mS:k<(fB bt hs b dG).length:=(fL.1 GB).1;rw[br I,br mS];simp only[fB,Ef,hk,Option.map_some,wv];rw[C1,OK];simp[j2]
      rw[bn e];simp only[fB,Ef];cases aC:dG[j]? with
      |none=>rfl
      | some x=>
        have RY:x≠q:=λaW=>by
         subst aW;obtain⟨bS,a2⟩:=fL.1 aC;obtain⟨c7,dH⟩:=fL.1 hk;exact e ((List.getElem_inj QV).1 (dH.trans a2.symm))
        simp only[Option.map_some]
        congr 2
        split
        ·rw[C1,OK,LB]
         have:Nat.beq q x=false:=by
          cases hb:Nat.beq q x with
          |false=>rfl
          |true=>exact absurd (eP.1 hb).symm RY
         simp[j2,this]
        rfl
     have G7:ee L (hs.take (i+1))++fB bt hs (i+1) dG=(ee L (hs.take b)++fB bt hs b dG).set ((ee L (hs.take b)).length+k) ⟨some (bt q),cp⟩:=by
      rw[tw,RX,List.set_append_right _ _ (by omega),TA]
     have sq:ks (ee L (hs.take (i+1))++fB bt hs (i+1) dG)=ks (ee L (hs.take b)++fB bt hs b dG):=by rw[G7];exact zU (cp:=cp) lf
     have j7:bt q∈ks (ee L (hs.take b)++fB bt hs b dG):=nq.2 ⟨_,eo lf,rfl⟩
     have gR:Ext (ks (ee L (hs.take b)++fB bt hs b dG)++c.bP) W (ks (ee L (hs.take b)++fB bt hs b dG)++c.bP) (W.setRow (bt q) dT):=
      ⟨by simp,λk _ a7=>setRow_other W (bt q) k dT (λe=>a7 (e▸ca.2 (.inl j7))),λ_ h _=>h⟩
     have GA:Dk c n dy hs E L (bI.setIfInBounds i true) bt dG (i+1) (a.put cc.dst undef) (W.setRow (bt q) dT):=by
      rw[C0];refine⟨by rw[G7];exact G5,λj b0 x σ aC ao fJ al n9=>?_,λj=>?_,λj x al iE=>?_,fu⟩
      ·rw[sq];by_cases e:i=j
       ·subst e;rw[eY]at al;cases al;cases n9
       rw[getD_set_ne false e]at ao;obtain⟨u,aX,bh⟩:=mid.done j b0 x σ aC ao fJ al n9;exact⟨u,aX,σ.mono gR bh⟩
      ·rw[mid.news j];by_cases e:i=j
       ·subst e;constructor
        ·rintro ⟨_,aX,_⟩;rw[pM]at aX;cases aX
        rintro ⟨_,_,cp,aX⟩;rw[eY]at aX;cases aX
       rw[getD_set_ne false e]
      by_cases e:i=j
      ·subst e;exact⟨λ_=>by omega,λ_=>CJ⟩
      rw[getD_set_ne false e,mid.stored j x al iE];constructor
      ·intro _;omega
      intro aC;rcases sN j b with aX|aX
      ·exact aX
      have:x∈r:=by
       have bh:(hs.take i)[j]? =some x:=by rw[jR,br (by omega)];exact al
       rw[AQ,DQ (by rw[fy];omega)]at bh;exact eo bh
      have:=kO x this;rw[iE]at this;cases this
     rw[br (by simp[Region.wanted,G6])]
     refine Vb ad ?_
     exact bJ _ bt dG (i+1) _ _ o9 Ar GA
def az.draw{jh:Nat}{l:aa Oper}(hm:c.P.follows .mixedOrders=true)(n:Nat)(dy:aa (aw Nat))(lA:aa (aa Nat))(hs:aa ff)(G4:aa Bool)(dE:F8 l.toArray n dy lA G4 c.n=true)(rD:hs.map ff.o5=G4)(aM:CZ E (dy.filterMap id)=true)
 (hlen:Nat.beq hs.length n=true) (b2:∀bt,s6 c l.toArray bt dy hs E L 0 l hs lA)
 (bw:∀bt:Nat->Nat,ae c l.toArray Q (l.drop n) (v8 bt E 0 dy hs) (nY bt hs (ee L hs) 0 hs)):az c Q (.region jh l.toArray true) E L:=λa W s=>by
 subst rD
 refine wpIn_region_any hm ?_
 have aI:n<=l.toArray.size:=by
  simp only[F8,gq,fM]at dE;exact dE.1.1.1.1.1.1.1.2
 have Gp:HeadInv .any l.toArray n (Array.replicate l.toArray.size false):=
  {size:=by simp
   closed:=λj po _ ao=>by rw[getD_replicate_false]at ao;cases ao
   tail:=λt _ bw=>by simp at bw;simp[bw]}
 have aog:Dk c n dy hs E L (Array.replicate l.toArray.size false) (λ_=>0) [] 0 a W.drew:=
  {st:=by simpa[ee,fB]using s.world (Fr.drew W)
   done:=λj s h τ _ ao=>by rw[getD_replicate_false]at ao;cases ao
   news:=λj=>by
    constructor
    ·intro h;cases h
    rintro ⟨_,h,_⟩;rw[getD_replicate_false]at h;cases h
   stored:=λj h _ _=>by
    rw[getD_replicate_false];constructor
    ·intro h;cases h
    intro h;omega
   ble:=q7 _}
 have h:=agj (ops:=l.toArray) (Q:=Q) dE aM (eP.1 hlen) (by simpa using b2) (by simpa using bw) n (Array.replicate l.toArray.size false) (λ_=>0) [] 0 a W.drew
  (pv (Bo _ _) (by simp)) Gp aog
 rw[show n+(l.toArray.size-n)=l.toArray.size by omega]at h
 exact h
end
class bK (P:Program) (t:bx) (α:Type) [ah α]:Prop where
 size:(P.info? t).map (·.size)=some (ah.size α)
 abb:∃d,P.underlying t=some d∧(match d with | .struct _| .array _ _=>true|_=>false)=ah.agg α
class c4 (P:Program) (t:bx) {α:outParam Type} [ah α] (x:outParam α):Prop where
 zero:∃i z,P.info? t=some i∧i.zero=some z∧∀A W,(J.of x).holds A W z
def bK.info{P t α}[ah α](h:bK P t α):∃i,P.info? t=some i∧i.size=ah.size α:=by
 have:=h.size;cases ax:P.info? t with
 |none=>simp[ax]at this
 |some i=>exact⟨i,rfl,by simpa[ax]using this⟩
def bK.isAgg{P t α}[ah α](h:bK P t α)(W:bf):(isAgg t).run P W=.ok (ah.agg α) W:=by
 obtain⟨d,hd,he⟩:=h.abb;unfold Go.isAgg;rw[dI,dL hd W];simp only[Result.andThen_ok];cases d <;> simp_all
def bK.sizeOf{P t α}[ah α](h:bK P t α)(W:bf):(Go.sizeOf t).run P W=.ok (ah.size α) W:=by
 obtain⟨i,ax,hs⟩:=h.info;simp[Go.sizeOf,typeInfo,ax,hs]
def kI(b off j:Nat):(⟨b,off,none⟩:Addr).add j=⟨b,off+j,none⟩:=by unfold Addr.add;split <;> simp_all
def zl{P:Program}{W:bf}{b off:Nat}{cur:Array bl}{T t:bx}{iT:Nat×Nat}{α:Type}[ah α]{A:aa Nat}{x:α}(ty:bK P t α)
 (hb:W.heap[b]? =some (.cells cur T iT)) (hs:off+ah.size α<=cur.size) (aD:ah.rep A W ((cur.toList.drop off).take (ah.size α)) x):
 ∃v,(loadVar t ⟨b,off,none⟩).run P W=.ok v W∧(J.of x).holds A W v:=by
 have ao:=ah.len aD
 have Ac:∀j v,((cur.toList.drop off).take (ah.size α))[j]? =some v->W.cell? ((⟨b,off,none⟩:Addr).add j)=some v:=by
  intro j v ba;rw[kI,E8 W b (off+j) cur T iT hb];rw[jR]at ba;split at ba
  ·rw[lp]at ba;simpa using ba
  cases ba
 cases a7:ah.agg α with
 | true=>
   have h1:=Ix (P:=P) W ⟨b,off,none⟩ _ Ac
   rw[ao]at h1
   refine⟨.agg ((cur.toList.drop off).take (ah.size α)).toArray,?_,?_,?_⟩
   ·simp[loadVar,dI,ty.isAgg,ty.sizeOf,a7,h1]
   ·simp[shaped,a7]
   simpa[Value.cells]using aD
 | false=>
   have h1:ah.size α=1:=ah.flat a7
   rw[h1]at ao
   obtain⟨v,ba⟩:=TF.1 ao
   have ad:=Ac 0 v (by rw[h1,ba];rfl)
   have ay:v.oneCell'=true:=ah.one aD v (by rw[h1,ba];simp)
   refine⟨v,?_,?_,?_⟩
   ·rw[kI,Nat.add_zero]at ad
    simp[loadVar,dI,ty.isAgg,a7,ad]
   ·simp[shaped,a7,ay]
   rw[cells_one ay]
   rw[h1,ba]at aD
   simpa using aD
def gO(cur:aa bl)(off:Nat)(ds:aa bl):aa bl:=cur.take off++ds++cur.drop (off+ds.length)
def agY{A W v}{α:Type}[ah α]{x:α}(h:(J.of x).holds A W v):v.cells.toList.length=ah.size α∧∀u∈v.cells.toList,u.oneCell'=true:=⟨ah.len h.2,ah.one h.2⟩
def JC{P:Program}{W:bf}{b off:Nat}{cur:Array bl}{T t:bx}{α:Type}[ah α]{A:aa Nat}{x:α}{v:bl}(ty:bK P t α)
 (hb:W.heap[b]? =some (.cells cur T (0,0))) (hs:off+ah.size α<=cur.size) (ba:(J.of x).holds A W v):
 (storeVar t ⟨b,off,none⟩ v).run P W=.ok () (W.setRow b (gO cur.toList off v.cells.toList).toArray):=by
 obtain⟨ao,h1⟩:=agY ba
 have ad:=Ej P b off T v.cells.toList 0 cur W hb (by rw[ao];omega) h1
 have dK:v.cells.size=ah.size α:=by simpa using ao
 simp only[Nat.add_zero]at ad
 simp only[storeVar,dI,ty.sizeOf,Result.andThen_ok,dK]
 simp only[ne_eq,not_true_eq_false,↓reduceIte,Sem.run_pure,dI,Result.andThen_ok]
 simpa[gO]using ad
structure aN(β γ:Type)[ah β][ah γ]where
 off:Nat
 get:β->γ
 set:β->γ->β
 gV:off+ah.size γ<=ah.size β
 jF:∀{A W cs b},ah.rep A W cs b->ah.rep A W ((cs.drop off).take (ah.size γ)) (get b)
 nS:∀{A W cs b ds g},ah.rep A W cs b->ah.rep A W ds g->ah.rep A W (cs.take off++ds++cs.drop (off+ah.size γ)) (set b g)
@[reducible] def aN.id (β:Type) [ah β]:aN β β where
  off:=0
  get b:=b
  set _ g:=g
  gV:=by simp
  jF h:=by
   have:=ah.len h;rw[vn,<-this,nf];exact h
  nS h bF:=by
   have h1:=ah.len h;rw[List.take_zero,List.nil_append,h7,<-h1,w9,ma];exact bF
def zs(cs:aa bl)(bz s1 cc s2:Nat)(h:cc+s2<=s1):(((cs.drop bz).take s1).drop cc).take s2=(cs.drop (bz+cc)).take s2:=by
 apply l9;intro i;simp only[jR,lp];split
 ·rw[br (by omega)];congr 1;omega
 rfl
def VN(cs ds:aa bl)(bz s1 cc s2:Nat)(h:cc+s2<=s1)(ak:bz+s1<=cs.length):
 cs.take bz++(((cs.drop bz).take s1).take cc++ds++((cs.drop bz).take s1).drop (cc+s2))++cs.drop (bz+s1)=cs.take (bz+cc)++ds++cs.drop (bz+cc+s2):=by
 have au:cs.take (bz+cc)=cs.take bz++((cs.drop bz).take s1).take cc:=by
  rw[rM,oR (by omega),I4]
 have aW:cs.drop (bz+cc+s2)=((cs.drop bz).take s1).drop (cc+s2)++cs.drop (bz+s1):=by
  apply l9;intro i;simp only[M7,lp,jR,ku,fy];split
  ·rw[br (by omega)];congr 1;omega
  congr 1;omega
 rw[au,aW]
 simp only[jn]
@[reducible] def aN.comp {α β γ:Type} [ah α] [ah β] [ah γ] (l:aN α β) (m:aN β γ):aN α γ where
  off:=l.off+m.off
  get b:=m.get (l.get b)
  set b g:=l.set b (m.set (l.get b) g)
  gV:=by have:=l.gV;have:=m.gV;omega
  jF h:=by
   have:=m.jF (l.jF h);rwa[zs _ _ _ _ _ m.gV]at this
  nS h bF:=by
   have h1:=l.nS h (m.nS (l.jF h) bF);have ad:=ah.len h;have ay:=l.gV;rwa[VN _ _ _ _ _ _ m.gV (by omega)]at h1
def cu{α:Type}[Inhabited α]{n:Nat}(v:Vector α n)(k:Nat):α:=v[k]?.getD default
def dS{α:Type}{n:Nat}(v:Vector α n)(k:Nat)(x:α):Vector α n:=v.setIfInBounds k x
instance{α:Type}[Inhabited α]{n:Nat}:Inhabited (Vector α n):=⟨Vector.replicate n default⟩
instance{α:Type}[ah α][Inhabited α]{n:Nat}:ah (Vector α n)where
 size:=n*ah.size α
 agg:=true
 rep A W cs v:=hf A W cs v.toList
 len h:=by rw[h.1];simp
 one h:=by
  intro u hu;obtain⟨j,aC⟩:=l8.1 hu;have b9:=(fL.1 aC).1;have h1:=h.1;by_cases hs:ah.size α=0
  ·rw[hs,Nat.mul_zero]at h1;omega
  have hp:0<ah.size α:=Eb hs;have ax:j/ah.size α<_:=(TM hp).2 (by rw[h1]at b9;exact b9);refine ah.one (h.2 _ ax) u (l8.2 ⟨j % ah.size α,?_⟩);rw[jR,br (BS _ hp),lp,rN,EB];exact aC
 flat h:=by cases h
 mono e h:=h.mono e
def afp{α:Type}[Inhabited α]{n:Nat}(v:Vector α n){k:Nat}(h:k<n):cu v k=v.toList[k]'(by simpa using h):=by simp[cu,h]
def Ph{α:Type}[ah α]{A W}{cs ds:aa bl}{xs:aa α}{x:α}{k:Nat}(h:hf A W cs xs)(hk:k<xs.length)(hd:ah.rep A W ds x):
 hf A W (cs.take (k*ah.size α)++ds++cs.drop (k*ah.size α+ah.size α)) (xs.set k x):=by
 have ao:=h.1
 have qM:=ah.len hd
 have hle:(k+1)*ah.size α<=xs.length*ah.size α:=hi _ hk
 rw[rO]at hle
 refine⟨by simp only[fh,fy,ku,vk];omega,λi ax=>?_⟩
 rw[vk]at ax
 by_cases e:k=i
 ·subst e
  have:((cs.take (k*ah.size α)++ds++cs.drop (k*ah.size α+ah.size α)).drop (k*ah.size α)).take (ah.size α)=ds:=by
   rw[jn,Tp (by simp only[fy];omega),DX (by simp only[fy];omega),List.nil_append,
    Bj (by omega),sF (by omega)]
  rw[this]
  simpa using hd
 have h1:=h.2 i ax
 have:((cs.take (k*ah.size α)++ds++cs.drop (k*ah.size α+ah.size α)).drop (i*ah.size α)).take (ah.size α)=(cs.drop (i*ah.size α)).take (ah.size α):=by
  apply l9;intro j;simp only[jR,lp];split
  ·rename_i aC;simp only[M7,fh,fy,jR,lp];rcases Nat.lt_or_gt_of_ne e with ad|ad
   ·have:(k+1)*ah.size α<=i*ah.size α:=hi _ ad;rw[rO]at this;rw[bn (by omega)];congr 1;omega
   have:(i+1)*ah.size α<=k*ah.size α:=hi _ ad;rw[rO]at this;rw[br (by omega),br (by omega),br (by omega)]
  rfl
 rw[this]
 simpa[List.getElem_set_ne e]using h1
@[reducible] def aN.idx {α:Type} [ah α] [Inhabited α] (n k:Nat) (hk:k<n):aN (Vector α n) α where
  off:=k*ah.size α
  get v:=cu v k
  set v x:=dS v k x
  gV:=by
   show k*ah.size α+ah.size α<=n*ah.size α;rw[<-rO];exact hi _ hk
  jF h:=by
   rename_i b;rw[afp b hk];exact h.2 k (by simpa using hk)
  nS h hd:=by
   rename_i b ds g;have:=Ph h (k:=k) (by simpa using hk) hd;show hf _ _ _ (dS b k g).toList;rw[show(dS b k g).toList=b.toList.set k g by simp[dS]];exact this
def idx(n:Nat)(i:Int):aw Nat:=if 0<=i∧i<n then some i.toNat else none
def cU{n:Nat}{i:Int}{k:Nat}(h:idx n i=some k):k<n∧i=k:=by
 unfold idx at h;split at h
 ·rename_i ax;simp only[fi]at h;omega
 cases h
section
variable{c:cj}{E:aa (Nat×J)}{L:aa aE}{ops:Array Oper}{Q:Exit->Act->bf->Prop}
variable{d:aw Tmp}{ty:bx}{pos:String}{af:Array Edge}{g:aw (Nat×Bool)}
def c8{x:bZ}{τ:J}(h:aP c E L x τ):bc c E L ⟨d,.move x,ty,pos,af,g⟩ τ:=.pure λa W s=>⟨_,rfl,h a W s⟩
def cV{x:bZ}{τ:J}(h:aP c E L x τ):bc c E L ⟨d,.assign x,ty,pos,af,g⟩ τ:=.pure λa W s=>⟨_,rfl,h a W s⟩
def CU{x y:bZ}{b e:Bool}{p:Prop}(al:aP c E L x (.of b))(hy:aP c E L y (.cond p (.of e)))(hp:b=false->p):
 bc c E L ⟨d,.pick x (.const (.bool true)) y,ty,pos,af,g⟩ (.of (b||e)):=.pure λa W s=>by
 have h1:=of_bool.1 (al a W s)
 cases b with
 |true=>exact⟨.bool true,by simp only[execOp,h1,asBool];rfl,of_bool.2 I⟩
 | false=>
   have ad:=of_bool.1 ((hy a W s).1 (hp I))
   exact⟨.bool e,by simp[execOp,asBool,h1,ad],of_bool.2 I⟩
def xN{x y:bZ}{b e:Bool}{p:Prop}(al:aP c E L x (.of b))(hy:aP c E L y (.cond p (.of e)))(hp:b=true->p):
 bc c E L ⟨d,.pick x y (.const (.bool false)),ty,pos,af,g⟩ (.of (b&&e)):=.pure λa W s=>by
 have h1:=of_bool.1 (al a W s)
 cases b with
 |false=>exact⟨.bool false,by simp only[execOp,h1,asBool];rfl,of_bool.2 I⟩
 | true=>
   have ad:=of_bool.1 ((hy a W s).1 (hp I))
   exact⟨.bool e,by simp[execOp,asBool,h1,ad],of_bool.2 I⟩
def qv{x:bZ}{b:Bool}{t:bx}(al:aP c E L x (.of b)):bc c E L ⟨d,.unOp .not t x,ty,pos,af,g⟩ (.of (!b)):=.pure λa W s=>
 ⟨.bool (!b),by simp[execOp,Op.unary,of_bool.1 (al a W s)],of_bool.2 I⟩
def gA{x:bZ}{t:bx}{i p o:Nat}{β γ:Type}[ah β][ah γ]{b:β}(l:aN β γ){r:γ}(dQ:bK c.P t γ)(al:aP c E L x (.eq (.pointer (some ⟨p,o,none⟩))))
 (av:L[i]? =some ⟨some p,.var b⟩) (aU:o=l.off) (aD:l.get b=r):bc c E L ⟨d,.load t x,ty,pos,af,g⟩ (.of r):=.pure λa W s=>by
 subst aU
 subst aD
 obtain⟨l4,e3,cs,T,rfl,gS⟩:=s.own _ (eo av)
 have h1:cs.toList.length=ah.size β:=ah.len gS
 obtain⟨v,ad,ay⟩:=zl (A:=ks L++c.bP) dQ e3 (by have:=l.gV;simp at h1;omega) (l.jF gS)
 refine⟨v,?_,ay⟩
 have aR:a.eval x=_:=al a W s
 simp[execOp,Instr.loadAt,Instr.sureAddr,aR,ad]
def jE{x:bZ}{t:bx}{γ:Type}[ah γ]{r:γ}(dQ:bK c.P t γ)(al:aP c E L x (.ptr r)):bc c E L ⟨d,.load t x,ty,pos,af,g⟩ (.of r):=.pure λa W s=>by
 obtain⟨b,off,cur,T,iT,aR,hb,b2,hs,aD⟩:=al a W s;obtain⟨v,ad,ay⟩:=zl dQ b2 hs aD;exact⟨v,by simp[execOp,Instr.loadAt,Instr.sureAddr,aR,ad],ay⟩
structure wx(P:Program)(s:TypeId)(f o:Nat):Prop where
 at_:∃fs fd i,P.underlying s=some (.struct fs)∧fs[f]? =some fd∧fd.offset=o∧P.info? fd.type=some i∧i.size≠0
def Vg{P:Program}{s:bx}{f o:Nat}(h:wx P s f o)(p off:Nat)(W:bf):
 (Instr.fieldAt s (.pointer (some ⟨p,off,none⟩)) f).run P W=.ok (.pointer (some ⟨p,off+o,none⟩)) W:=by
 obtain⟨fs,fd,i,h1,ad,ay,aR,aX⟩:=h.at_
 simp[Instr.fieldAt,dL h1,ad,Instr.sureAddr,fieldPlace,Go.sizeOf,typeInfo,aR,aX,kI,ay]
def cg{x:bZ}{s f o p off:Nat}(fd:wx c.P s f o)(al:aP c E L x (.eq (.pointer (some ⟨p,off,none⟩)))):
 bc c E L ⟨d,.fieldAddr s x f,ty,pos,af,g⟩ (.eq (.pointer (some ⟨p,off+o,none⟩))):=.pure λa W st=>by
 have aR:a.eval x=_:=al a W st
 exact⟨_,by simp[execOp,aR,Vg fd],rfl⟩
def vR{x:bZ}{s f o:Nat}{β γ:Type}[ah β][ah γ]{b:β}(l:aN β γ){r:γ}(fd:wx c.P s f o)(al:aP c E L x (.ptr b))(aU:l.off=o)(aD:l.get b=r):
 bc c E L ⟨d,.fieldAddr s x f,ty,pos,af,g⟩ (.ptr r):=.pure λa W st=>by
 subst aU
 subst aD
 obtain⟨q,off,cur,T,iT,aR,hb,b2,hs,gS⟩:=al a W st
 refine⟨.pointer (some ⟨q,off+l.off,none⟩),by simp[execOp,aR,Vg fd],q,off+l.off,cur,T,iT,rfl,hb,b2,by have:=l.gV;omega,?_⟩
 have:=l.jF gS
 rwa[zs _ _ _ _ _ l.gV]at this
class pq (P:Program) (t:bx) (n s:outParam Nat):Prop where
 at_:∃e i,P.underlying t=some (.array n e)∧P.info? e=some i∧i.size=s
def ae2{P:Program}{t n s:Nat}(h:pq P t n s)(p off:Nat)(k:Nat)(hk:k<n)(W:bf):
 (Instr.indexAt t (.pointer (some ⟨p,off,none⟩)) (.int .i64 (k:Int))).run P W=.ok (.pointer (some ⟨p,off+k*s,none⟩)) W:=by
 obtain⟨e,i,h1,ad,ay⟩:=h.at_
 simp[Instr.indexAt,asIntOf,dL h1,Instr.sureAddr,Go.sizeOf,typeInfo,ad,ay,hk,kI]
def lx{x y:bZ}{t n s p off:Nat}{i:Int}{k:Nat}(wN:pq c.P t n s)(al:aP c E L x (.eq (.pointer (some ⟨p,off,none⟩))))(hy:aP c E L y (.of i))(hk:k<n∧i=k):
 bc c E L ⟨d,.indexAddr t x y,ty,pos,af,g⟩ (.eq (.pointer (some ⟨p,off+k*s,none⟩))):=.pure λa W st=>by
 have aR:a.eval x=_:=al a W st
 have aX:=of_int.1 (hy a W st)
 obtain⟨bh,rfl⟩:=hk
 exact⟨_,by simp[execOp,aR,aX,ae2 wN p off k bh],rfl⟩
def ae.alloc{t:bx}{rest:aa Oper}{a1:Nat}{α:Type}[ah α]{z:α}(gL:c4 c.P t z)(aI:Nat.blt a1 c.n=true)
 (k:∀p,ae c ops Q rest ((a1,.eq (.pointer (some ⟨p,0,none⟩)))::E) (⟨some p,.var z⟩::L)):ae c ops Q (⟨some a1,.alloc t,ty,pos,af,none⟩::rest) E L:=λa W s=>by
 obtain⟨i,dR,h1,ad,ay⟩:=gL.zero
 refine iw I (R:=λv W'=>v=.pointer (some ⟨W.heap.size,0,none⟩)∧W'=W.alloc (.cells dR.cells t)) (.mK ?_ ⟨rfl,rfl⟩) λv W' ⟨ba,hw⟩=>?_
 ·simp[execOp,Instr.alloc,zeroValue,typeInfo,h1,ad,newVar,newRow]
 subst ba
 subst hw
 exact k _ _ _ ((s.alloc (cp:=.var z) ⟨dR.cells,t,rfl,(ay _ _).2⟩).put (by simpa using aI) I)
def ae.box{t:bx}{x:bZ}{rest:aa Oper}{a1:Nat}{α:Type}[ah α]{z:α}(al:aP c E L x (.of z))(aI:Nat.blt a1 c.n=true)
 (k:∀p,ae c ops Q rest ((a1,.eq (.pointer (some ⟨p,0,none⟩)))::E) (⟨some p,.var z⟩::L)):ae c ops Q (⟨some a1,.box t x,ty,pos,af,none⟩::rest) E L:=λa W s=>by
 refine iw I (R:=λv W'=>v=.pointer (some ⟨W.heap.size,0,none⟩)∧W'=W.alloc (.cells (a.eval x).cells t)) (.mK ?_ ⟨rfl,rfl⟩) λv W' ⟨ba,hw⟩=>?_
 ·simp[execOp,Instr.box,newVar,newRow]
 subst ba
 subst hw
 exact k _ _ _ ((s.alloc (cp:=.var z) ⟨_,t,rfl,(al a W s).2⟩).put (by simpa using aI) I)
def ae.store{x y:bZ}{t:bx}{rest:aa Oper}{i p o:Nat}{β γ:Type}[ah β][ah γ]{b b':β}{v:γ}(l:aN β γ)(dQ:bK c.P t γ)(al:aP c E L x (.eq (.pointer (some ⟨p,o,none⟩))))
 (hy:aP c E L y (.of v)) (av:L[i]? =some ⟨some p,.var b⟩) (aU:o=l.off) (hb:l.set b v=b')
 (k:ae c ops Q rest E (L.set i ⟨some p,.var b'⟩)):ae c ops Q (⟨none,.store t x y,ty,pos,af,none⟩::rest) E L:=λa W s=>by
 subst aU
 subst hb
 obtain⟨l4,e3,cs,T,rfl,gS⟩:=s.own _ (eo av)
 have h1:cs.toList.length=ah.size β:=ah.len gS
 have fu:=l.gV
 have ba:=hy a W s
 have ad:=JC (A:=ks L++c.bP) dQ e3 (off:=l.off) (by simp at h1;omega) ba
 have aR:a.eval x=_:=al a W s
 refine iw I (R:=λv W'=>W'=W.setRow p (gO cs.toList l.off (a.eval y).cells.toList).toArray) (.Cm ?_ I) λv W' hw=>?_
 ·simp[execOp,Instr.storeAt,Instr.sureAddr,aR,ad]
 subst hw
 refine k _ _ (s.store av e3 ?_)
 refine⟨_,T,rfl,?_⟩
 have:=l.nS gS ba.2
 simpa[gO,ah.len ba.2]using this
def ic(c:cj)(E:aa (Nat×J))(L:aa aE):aa bZ->aa J->Prop
 |[],[]=>True
 |x::xs,τ::τs=>aP c E L x τ∧ic c E L xs τs
 |_,_=>False
def ic.holds:∀{xs:aa bZ} {τs:aa J},ic c E L xs τs->∀a W,bG c E L a W->gG (ks L++c.bP) W τs (xs.map a.eval)
 |[],[],_,_,_,_=>.nil
 |x::xs,τ::τs,h,a,W,s=>.cons (h.1 a W s) (h.2.holds a W s)
 |[],_::_,h,_,_,_=>h.elim
 |_::_,[],h,_,_,_=>h.elim
structure bD(P:Program)(f:FuncId):Prop where
 at_:∃ fn,P.funcs[f]? =some fn∧fn.body.isNone=false∧ (fn.name== "runtime.NumGoroutine")=false
def bD.run{P:Program}{f:FuncId}(h:bD P f)(args:Array bl)(W:bf):(callFunc f args).run P W=.ok (.enter f args) W:=by
 obtain⟨fn,h1,ad,ay⟩:=h.at_;simp only[callFunc,dI,run_program,Result.andThen_ok,h1,ay,ad];rfl
def ib{f:FuncId}{xs:aa bZ}{ats:Array bx}{τs:aa J}{ρ:J}(cf:bD c.P f)(h:cm c.P f τs ρ)(al:ic c E L xs τs):
 bc c E L ⟨d,.call ⟨.value (.func f),xs.toArray,ats⟩,ty,pos,af,g⟩ ρ:=λa W s=>by
 refine .vE (f:=f) (args:=(xs.map a.eval).toArray) (W':=W) ?_ (h _ W _ s.FV (al.holds a W s))
 simp[execOp,resolve,Deferred.ofValue,Act.eval,invoke,cf.run]
def uh{P:Program}{W:bf}{t off:Nat}{cs:Array bl}{α:Type}[ah α]{A:aa Nat}{x:α}(ty:bK P t α)(hs:off+ah.size α<=cs.size)
 (aD:ah.rep A W ((cs.toList.drop off).take (ah.size α)) x):∃v,(part t cs off).run P W=.ok v W∧(J.of x).holds A W v:=by
 have ao:=ah.len aD
 cases a7:ah.agg α with
 | true=>
   refine⟨.agg (cs.extract off (off+ah.size α)),?_,?_,?_⟩
   ·simp[part,ty.isAgg,ty.sizeOf,a7]
   ·simp[shaped,a7]
   simpa[Value.cells,List.extract,Array.toList_extract]using aD
 | false=>
   have h1:ah.size α=1:=ah.flat a7
   have b9:off<cs.size:=by omega
   have ad:(cs.toList.drop off).take (ah.size α)=[cs[off]]:=by
    rw[h1];apply l9;intro j;rw[jR,lp];cases j with
    |zero=>simp[b9]
    |succ j=>simp
   rw[ad]at aD
   have ay:cs[off].oneCell'=true:=ah.one aD _ (by simp)
   refine⟨cs[off],?_,?_,?_⟩
   ·simp[part,ty.isAgg,a7,b9]
   ·simp[shaped,a7,ay]
   rw[cells_one ay];simpa using aD
structure SY(P:Program)(s f t o:Nat):Prop where
 at_:∃fs fd,P.underlying s=some (.struct fs)∧fs[f]? =some fd∧fd.offset=o∧fd.type=t
def ahG{x:bZ}{s f t o:Nat}{β γ:Type}[ah β][ah γ]{b:β}(l:aN β γ){r:γ}(abR:SY c.P s f t o)(dQ:bK c.P t γ)(a7:ah.agg β=true)(al:aP c E L x (.of b))(aU:l.off=o)(aD:l.get b=r):
 bc c E L ⟨d,.field s x f,ty,pos,af,g⟩ (.of r):=.pure λa W st=>by
 subst aU
 subst aD
 obtain⟨h1,ad⟩:=al a W st
 simp only[shaped,a7,mc]at h1
 obtain⟨cs,tx⟩:=h1
 obtain⟨fs,fd,ay,aR,aX,bh⟩:=abR.at_
 rw[tx]at ad
 simp only[Value.cells]at ad
 have ao:cs.toList.length=ah.size β:=ah.len ad
 obtain⟨v,c5,dW⟩:=uh (A:=ks L++c.bP) (P:=c.P) (W:=W) (cs:=cs) (off:=l.off) dQ (by have:=l.gV;simp at ao;omega) (l.jF ad)
 refine⟨v,?_,dW⟩
 simp[execOp,Instr.field,dL ay,aR,tx,asAgg,aX,bh,c5]
def Pz{x y:bZ}{t e n:Nat}{i:Int}{k:Nat}{α:Type}[ah α][Inhabited α]{v:Vector α n}(hu:c.P.underlying t=some (.array n e))(dQ:bK c.P e α)(al:aP c E L x (.of v))(hy:aP c E L y (.of i))(hk:k<n∧i=k):
 bc c E L ⟨d,.index t x y,ty,pos,af,g⟩ (.of (cu v k)):=.pure λa W st=>by
 obtain⟨h1,ad⟩:=al a W st
 obtain⟨cs,tx⟩:∃cs,a.eval x=.agg cs:=by simpa[shaped,ah.agg]using h1
 have aX:=of_int.1 (hy a W st)
 obtain⟨bh,rfl⟩:=hk
 rw[tx]at ad
 simp only[Value.cells]at ad
 have ao:cs.toList.length=n*ah.size α:=ah.len ad
 have fu:=(aN.idx (α:=α) n k bh).gV
 obtain⟨u,c5,dW⟩:=uh (A:=ks L++c.bP) (P:=c.P) (W:=W) (cs:=cs) (off:=k*ah.size α) dQ
  (by
   have:k*ah.size α+ah.size α<=n*ah.size α:=fu;simp at ao;omega) ((aN.idx (α:=α) n k bh).jF ad)
 refine⟨u,?_,dW⟩
 simp[execOp,Instr.index,asIntOf,dL hu,tx,aX,bh,dQ.sizeOf,c5]
def CF{x:bZ}{i:Nat}{τs:aa J}{τ:J}(al:aP c E L x (.bY τs))(ax:τs[i]? =some τ):bc c E L ⟨d,.extract x i,ty,pos,af,g⟩ τ:=.pure λa W st=>by
 obtain⟨vs,h1,ad⟩:=al a W st;have get:∀{τs:aa J} {vs:aa bl},gG (ks L++c.bP) W τs vs->∀(i:Nat) (τ:J),τs[i]? =some τ->∃v,vs[i]? =some v∧τ.holds (ks L++c.bP) W v:=by
  intro τs vs h;induction h with
  |nil=>intro i τ h;simp at h
  | cons h1 _ bJ=>
    intro i τ h
    cases i with
    |zero=>simp only[List.getElem?_cons_zero,fi]at h;subst h;exact⟨_,rfl,h1⟩
    |succ i=>simp only[List.getElem?_cons_succ]at h⊢;exact bJ i τ h
 obtain⟨v,ay,aR⟩:=get ad i τ ax;refine⟨v,?_,aR⟩;have aX:vs[i]? =some v:=by simpa using ay
 simp[execOp,Instr.extract,h1,aX]
end
def bo(x:Int):Int:=IntKind.i64.wrap x
def jr{x:Int}(h: -9223372036854775808<=x)(cT:x<=9223372036854775807):bo x=x:=by
 unfold bo;rw[IntKind.wrap_i64];omega
def Gz(a b:Int):aw Int:=if b=0 then none else some (bo (a.tdiv b))
def x2(a b:Int):aw Int:=if b=0 then none else some (a.tmod b)
def agk{a b r:Int}(h:Gz a b=some r):b≠0∧bo (a.tdiv b)=r:=by unfold Gz at h;split at h <;> simp_all
def agl{a b r:Int}(h:x2 a b=some r):b≠0∧a.tmod b=r:=by unfold x2 at h;split at h <;> simp_all
def wrap_u8(n:Int):IntKind.u8.wrap n=n % 256:=by simp[IntKind.wrap,IntKind.signed,IntKind.bits]
def wrap_u64(n:Int):IntKind.u64.wrap n=n % 18446744073709551616:=by simp[IntKind.wrap,IntKind.signed,IntKind.bits]
def ahX(P:Program)(W:bf)(k SZ:IntKind)(a b:Int)(h:0<=b):(Op.shift .shl k a SZ b).run P W=.ok (.int k (k.wrap (a*2^min b.toNat k.bits))) W:=by
 unfold Op.shift;rw[bn (by omega)];rfl
def ahY(P:Program)(W:bf)(k SZ:IntKind)(a b:Int)(h:0<=b):(Op.shift .shr k a SZ b).run P W=.ok (.int k (a.fdiv (2^min b.toNat k.bits))) W:=by
 unfold Op.shift;rw[bn (by omega)];rfl
section
variable{c:cj}{E:aa (Nat×J)}{L:aa aE}
variable{d:aw Tmp}{ty:bx}{pos:String}{af:Array Edge}{g:aw (Nat×Bool)}{x y:bZ}{t t2:bx}
def lr{a b:Int}(al:aP c E L x (.of a))(hy:aP c E L y (.of b)):bc c E L ⟨d,.binOp .add t x y t2,ty,pos,af,g⟩ (.of (bo (a+b))):=.pure λA W s=>
 ⟨.int .i64 (bo (a+b)),by simp[execOp,eqGuard,binOp,Op.intArith,of_int.1 (al A W s),of_int.1 (hy A W s),bo],of_int.2 I⟩
def uD{a b:Int}(al:aP c E L x (.of a))(hy:aP c E L y (.of b)):bc c E L ⟨d,.binOp .sub t x y t2,ty,pos,af,g⟩ (.of (bo (a-b))):=.pure λA W s=>
 ⟨.int .i64 (bo (a-b)),by simp[execOp,eqGuard,binOp,Op.intArith,of_int.1 (al A W s),of_int.1 (hy A W s),bo],of_int.2 I⟩
def alB{a b:Int}(al:aP c E L x (.of a))(hy:aP c E L y (.of b)):bc c E L ⟨d,.binOp .mul t x y t2,ty,pos,af,g⟩ (.of (bo (a*b))):=.pure λA W s=>
 ⟨.int .i64 (bo (a*b)),by simp[execOp,eqGuard,binOp,Op.intArith,of_int.1 (al A W s),of_int.1 (hy A W s),bo],of_int.2 I⟩
def alC{a:Int}(al:aP c E L x (.of a)):bc c E L ⟨d,.unOp .neg t x,ty,pos,af,g⟩ (.of (bo (0-a))):=.pure λA W s=>
 ⟨.int .i64 (bo (0-a)),by simp[execOp,Op.unary,Op.intArith,of_int.1 (al A W s),bo],of_int.2 I⟩
def alD{a b r:Int}(al:aP c E L x (.of a))(hy:aP c E L y (.of b))(h:b≠0∧bo (a.tdiv b)=r):bc c E L ⟨d,.binOp .quo t x y t2,ty,pos,af,g⟩ (.of r):=.pure λA W s=>
 ⟨.int .i64 r,by obtain⟨h1,rfl⟩:=h;simp[execOp,eqGuard,binOp,Op.intDiv,of_int.1 (al A W s),of_int.1 (hy A W s),bo,h1],of_int.2 I⟩
def alE{a b r:Int}(al:aP c E L x (.of a))(hy:aP c E L y (.of b))(h:b≠0∧a.tmod b=r):bc c E L ⟨d,.binOp .rem t x y t2,ty,pos,af,g⟩ (.of r):=.pure λA W s=>
 ⟨.int .i64 r,by obtain⟨h1,rfl⟩:=h;simp[execOp,eqGuard,binOp,Op.intDiv,of_int.1 (al A W s),of_int.1 (hy A W s),h1],of_int.2 I⟩
def o3{a b:Int}(al:aP c E L x (.of a))(hy:aP c E L y (.of b)):bc c E L ⟨d,.binOp .lss t x y t2,ty,pos,af,g⟩ (.of (decide (a<b))):=.pure λA W s=>
 ⟨.bool (decide (a<b)),by simp only[execOp,eqGuard,binOp,of_int.1 (al A W s),of_int.1 (hy A W s)];rfl,of_bool.2 I⟩
def alF{a b:Int}(al:aP c E L x (.of a))(hy:aP c E L y (.of b)):bc c E L ⟨d,.binOp .leq t x y t2,ty,pos,af,g⟩ (.of (decide (a<=b))):=.pure λA W s=>
 ⟨.bool (decide (a<=b)),by simp only[execOp,eqGuard,binOp,of_int.1 (al A W s),of_int.1 (hy A W s)];rfl,of_bool.2 I⟩
def F1{a b:Int}(al:aP c E L x (.of a))(hy:aP c E L y (.of b)):bc c E L ⟨d,.binOp .gtr t x y t2,ty,pos,af,g⟩ (.of (decide (a>b))):=.pure λA W s=>
 ⟨.bool (decide (a>b)),by simp only[execOp,eqGuard,binOp,of_int.1 (al A W s),of_int.1 (hy A W s)];rfl,of_bool.2 I⟩
def K1{a b:Int}(al:aP c E L x (.of a))(hy:aP c E L y (.of b)):bc c E L ⟨d,.binOp .geq t x y t2,ty,pos,af,g⟩ (.of (decide (a>=b))):=.pure λA W s=>
 ⟨.bool (decide (a>=b)),by simp only[execOp,eqGuard,binOp,of_int.1 (al A W s),of_int.1 (hy A W s)];rfl,of_bool.2 I⟩
def mh{a b:Int}(al:aP c E L x (.of a))(hy:aP c E L y (.of b)):bc c E L ⟨d,.binOp .eql t x y t2,ty,pos,af,g⟩ (.of (a==b)):=.pure λA W s=>
 ⟨.bool (a==b),by simp only[execOp,eqGuard,binOp,of_int.1 (al A W s),of_int.1 (hy A W s)];rfl,of_bool.2 I⟩
def Qt{a b:Int}(al:aP c E L x (.of a))(hy:aP c E L y (.of b)):bc c E L ⟨d,.binOp .neq t x y t2,ty,pos,af,g⟩ (.of (a !=b)):=.pure λA W s=>
 ⟨.bool (a !=b),by simp only[execOp,eqGuard,binOp,of_int.1 (al A W s),of_int.1 (hy A W s)];rfl,of_bool.2 I⟩
def QE{a b:Bool}(hu:c.P.underlying t=some .bool)(al:aP c E L x (.of a))(hy:aP c E L y (.of b)):bc c E L ⟨d,.binOp .eql t x y t2,ty,pos,af,g⟩ (.of (a==b)):=.pure λA W s=>
 ⟨.bool (a==b),by
   simp only[execOp,eqGuard,binOp,of_bool.1 (al A W s),of_bool.1 (hy A W s),Op.equal,Op.maxDepth];simp[run_equalIn_bool' W 9999 t a b hu],of_bool.2 I⟩
def Yk{a b:Int}{ats:Array bx}(al:aP c E L x (.of a))(hy:aP c E L y (.of b)):bc c E L ⟨d,.call ⟨.builtin .min,#[x,y],ats⟩,ty,pos,af,g⟩ (.of (min a b)):=.pure λA W s=>
 ⟨.int .i64 (min a b),by
   simp[execOp,resolve,invoke,builtin,Builtin.min_,Builtin.min2,of_int.1 (al A W s),of_int.1 (hy A W s)];split <;> omega,of_int.2 I⟩
def Yj{a b:Int}{ats:Array bx}(al:aP c E L x (.of a))(hy:aP c E L y (.of b)):bc c E L ⟨d,.call ⟨.builtin .max,#[x,y],ats⟩,ty,pos,af,g⟩ (.of (max a b)):=.pure λA W s=>
 ⟨.int .i64 (max a b),by
   simp[execOp,resolve,invoke,builtin,Builtin.max_,Builtin.max2,of_int.1 (al A W s),of_int.1 (hy A W s)];split <;> omega,of_int.2 I⟩
def alG(a:BitVec 8):(a.toNat:Int)<256:=by have:=a.isLt;omega
def W2{a:BitVec 8}{src dst:bx}{e:TypeDesc}(hs:c.P.underlying src=some e)(hd:c.P.underlying dst=some (.int .u64))(al:aP c E L x (.of a)):bc c E L ⟨d,.convert src dst x,ty,pos,af,g⟩ (.of (a.setWidth 64)):=.pure λA W s=>
 ⟨.int .u64 (a.setWidth 64).toNat,by
   have h:IntKind.u64.wrap (a.toNat:Int)=((a.setWidth 64).toNat:Int):=by rw[wrap_u64,TH];have:=a.isLt;omega
   simp only[execOp,convert,dI,dL hs,dL hd,vT.1 (al A W s),Conv.intToInt,Result.andThen_ok,h];rfl,js.2 I⟩
def alH{a:BitVec 8}{src dst:bx}{e:TypeDesc}(hs:c.P.underlying src=some e)(hd:c.P.underlying dst=some (.int .i64))(al:aP c E L x (.of a)):bc c E L ⟨d,.convert src dst x,ty,pos,af,g⟩ (.of (a.toNat:Int)):=.pure λA W s=>
 ⟨.int .i64 a.toNat,by
   have h:IntKind.i64.wrap (a.toNat:Int)=(a.toNat:Int):=jr (by omega) (by have:=alG a;omega);simp only[execOp,convert,dI,dL hs,dL hd,vT.1 (al A W s),Conv.intToInt,Result.andThen_ok,h];rfl,of_int.2 I⟩
def Qd(a:BitVec 64):(a.toNat:Int)<18446744073709551616:=by have:=a.isLt;omega
def ofInt_u64(a:BitVec 64):BitVec.ofInt 64 (a.toNat:Int)=a:=by simp
def ahZ{a b:BitVec 64}(al:aP c E L x (.of a))(hy:aP c E L y (.of b)):bc c E L ⟨d,.binOp .and t x y t2,ty,pos,af,g⟩ (.of (a&&&b)):=.pure λA W s=>
 ⟨.int .u64 (a&&&b).toNat,by
   simp only[execOp,eqGuard,binOp,js.1 (al A W s),js.1 (hy A W s)];have h:IntKind.u64.wrap ((a&&&b).toNat:Int)=((a&&&b).toNat:Int):=by rw[wrap_u64];have:=Qd (a&&&b);omega
   rw[<-h];conv=>rhs;rw[<-ofInt_u64 a,<-ofInt_u64 b]
   rfl,js.2 I⟩
def P0{a b:BitVec 64}(al:aP c E L x (.of a))(hy:aP c E L y (.of b)):bc c E L ⟨d,.binOp .or t x y t2,ty,pos,af,g⟩ (.of (a|||b)):=.pure λA W s=>
 ⟨.int .u64 (a|||b).toNat,by
   simp only[execOp,eqGuard,binOp,js.1 (al A W s),js.1 (hy A W s)];have h:IntKind.u64.wrap ((a|||b).toNat:Int)=((a|||b).toNat:Int):=by rw[wrap_u64];have:=Qd (a|||b);omega
   rw[<-h];conv=>rhs;rw[<-ofInt_u64 a,<-ofInt_u64 b]
   rfl,js.2 I⟩
def ah0{a b:BitVec 64}(al:aP c E L x (.of a))(hy:aP c E L y (.of b)):bc c E L ⟨d,.binOp .xor t x y t2,ty,pos,af,g⟩ (.of (a ^^^ b)):=.pure λA W s=>
 ⟨.int .u64 (a ^^^ b).toNat,by
   simp only[execOp,eqGuard,binOp,js.1 (al A W s),js.1 (hy A W s)];have h:IntKind.u64.wrap ((a ^^^ b).toNat:Int)=((a ^^^ b).toNat:Int):=by rw[wrap_u64];have:=Qd (a ^^^ b);omega
   rw[<-h];conv=>rhs;rw[<-ofInt_u64 a,<-ofInt_u64 b]
   rfl,js.2 I⟩
def ah1(a:BitVec 64)(n:Nat):IntKind.u64.wrap ((a.toNat:Int)*2^min n 64)=((a <<< n).toNat:Int):=by
 rw[wrap_u64,BitVec.toNat_shiftLeft,Nat.shiftLeft_eq];rcases sN n 64 with h|h
 ·rw[oR (by omega)];simp
 rw[Nk h];have e:(a.toNat*2^n) % 2^64=0:=by
  rw[show n=64+(n-64) by omega,Nat.pow_add];exact Nat.mod_eq_zero_of_dvd ⟨a.toNat*2^(n-64),by rw[<-Nat.mul_assoc,rN a.toNat,Nat.mul_assoc]⟩
 rw[e];have aW:(2:Int)^64=18446744073709551616:=by decide
 rw[aW];omega
def ah2(a:BitVec 64)(n:Nat):(a.toNat:Int).fdiv (2^min n 64)=((a >>> n).toNat:Int):=by
 rw[Tv,Tu];have e:∀m:Nat,(a.toNat:Int).fdiv (2^m)=((a.toNat/2^m:Nat):Int):=by
  intro m;rw[show((2:Int)^m)=((2^m:Nat):Int) by simp];rw[Int.fdiv_eq_ediv_of_nonneg _ (T8 _)];exact(Int.natCast_ediv _ _).symm
 rw[e];rcases sN n 64 with h|h
 ·rw[oR (by omega)]
 rw[Nk h];have h1:a.toNat/2^64=0:=No a.isLt;have ad:a.toNat/2^n=0:=No (rL a.isLt (Nat.pow_le_pow_right (by omega) h));rw[h1,ad]
def Py{a:BitVec 64}{b:BitVec 64}(al:aP c E L x (.of a))(hy:aP c E L y (.of b)):bc c E L ⟨d,.binOp .shl t x y t2,ty,pos,af,g⟩ (.of (a <<< b.toNat)):=.pure λA W s=>
 ⟨.int .u64 (a <<< b.toNat).toNat,by
   simp only[execOp,eqGuard,binOp,js.1 (al A W s),js.1 (hy A W s)];have h:=ahX c.P W .u64 .u64 a.toNat b.toNat (by omega);simp only[Int.toNat_natCast,IntKind.bits,ah1]at h;exact ec (λr:Result bl=>r.andThen λv w=>.ok (Next.value v) w) h,js.2 I⟩
def ah3{a:BitVec 64}{b:BitVec 64}(al:aP c E L x (.of a))(hy:aP c E L y (.of b)):bc c E L ⟨d,.binOp .shr t x y t2,ty,pos,af,g⟩ (.of (a >>> b.toNat)):=.pure λA W s=>
 ⟨.int .u64 (a >>> b.toNat).toNat,by
   simp only[execOp,eqGuard,binOp,js.1 (al A W s),js.1 (hy A W s)];have h:=ahY c.P W .u64 .u64 a.toNat b.toNat (by omega);simp only[Int.toNat_natCast,IntKind.bits,ah2]at h;exact ec (λr:Result bl=>r.andThen λv w=>.ok (Next.value v) w) h,js.2 I⟩
def ah4{a b:BitVec 64}(al:aP c E L x (.of a))(hy:aP c E L y (.of b)):bc c E L ⟨d,.binOp .lss t x y t2,ty,pos,af,g⟩ (.of (decide (a<b))):=.pure λA W s=>
 ⟨.bool (decide (a<b)),by
   simp only[execOp,eqGuard,binOp,js.1 (al A W s),js.1 (hy A W s)];have h:decide ((a.toNat:Int)<(b.toNat:Int))=decide (a<b):=by simp[NA,BitVec.le_def]
   rw[<-h];rfl,of_bool.2 I⟩
def ah5{a b:BitVec 64}(al:aP c E L x (.of a))(hy:aP c E L y (.of b)):bc c E L ⟨d,.binOp .geq t x y t2,ty,pos,af,g⟩ (.of (decide (a>=b))):=.pure λA W s=>
 ⟨.bool (decide (a>=b)),by
   simp only[execOp,eqGuard,binOp,js.1 (al A W s),js.1 (hy A W s)];have h:decide ((a.toNat:Int)>=(b.toNat:Int))=decide (a>=b):=by simp[NA,BitVec.le_def]
   rw[<-h];rfl,of_bool.2 I⟩
def ah6{a b:BitVec 64}(al:aP c E L x (.of a))(hy:aP c E L y (.of b)):bc c E L ⟨d,.binOp .eql t x y t2,ty,pos,af,g⟩ (.of (a==b)):=.pure λA W s=>
 ⟨.bool (a==b),by
   simp only[execOp,eqGuard,binOp,js.1 (al A W s),js.1 (hy A W s)];have h:((a.toNat:Int)==(b.toNat:Int))=(a==b):=by
    rw[oo];simp[bne];exact⟨λh=>y0 (by omega),λh=>by rw[h]⟩
   rw[<-h];rfl,of_bool.2 I⟩
def ah7{a b:BitVec 64}(al:aP c E L x (.of a))(hy:aP c E L y (.of b)):bc c E L ⟨d,.binOp .neq t x y t2,ty,pos,af,g⟩ (.of (a !=b)):=.pure λA W s=>
 ⟨.bool (a !=b),by
   simp only[execOp,eqGuard,binOp,js.1 (al A W s),js.1 (hy A W s)];have h:((a.toNat:Int) !=(b.toNat:Int))=(a !=b):=by
    rw[oo];simp[bne];exact⟨λh=>λe=>h (by rw[e]),λh=>by intro e;exact h (y0 (by omega))⟩
   rw[<-h];rfl,of_bool.2 I⟩
def PZ{a:Int}{src dst:bx}{e:TypeDesc}(hs:c.P.underlying src=some e)(hd:c.P.underlying dst=some (.int .u64))(al:aP c E L x (.of a)):bc c E L ⟨d,.convert src dst x,ty,pos,af,g⟩ (.of (BitVec.ofInt 64 a)):=.pure λA W s=>
 ⟨.int .u64 (BitVec.ofInt 64 a).toNat,by
   have h:IntKind.u64.wrap a=((BitVec.ofInt 64 a).toNat:Int):=by rw[wrap_u64,BitVec.toNat_ofInt];omega
   simp[execOp,convert,dL hs,dL hd,of_int.1 (al A W s),Conv.intToInt,h],js.2 I⟩
def ahx{a:BitVec 64}{src dst:bx}{e:TypeDesc}(hs:c.P.underlying src=some e)(hd:c.P.underlying dst=some (.int .u8))(al:aP c E L x (.of a)):bc c E L ⟨d,.convert src dst x,ty,pos,af,g⟩ (.of (a.setWidth 8)):=.pure λA W s=>
 ⟨.int .u8 (a.setWidth 8).toNat,by
   have h:IntKind.u8.wrap (a.toNat:Int)=((a.setWidth 8).toNat:Int):=by rw[wrap_u8,TH];have:=a.isLt;omega
   simp only[execOp,convert,dI,dL hs,dL hd,js.1 (al A W s),Conv.intToInt,Result.andThen_ok,h];rfl,vT.2 I⟩
def ajf{a:BitVec 64}{src dst:bx}{e:TypeDesc}(hs:c.P.underlying src=some e)(hd:c.P.underlying dst=some (.int .i64))(al:aP c E L x (.of a)):bc c E L ⟨d,.convert src dst x,ty,pos,af,g⟩ (.of (bo a.toNat)):=.pure λA W s=>
 ⟨.int .i64 (bo a.toNat),by
   simp only[execOp,convert,dI,dL hs,dL hd,js.1 (al A W s),Conv.intToInt,Result.andThen_ok];rfl,of_int.2 I⟩
end
def zV(tmps:Array bl):ResultVar->Sem bl
 | .tmp t=>pure (tmps.getD t undef)
 | .cell a t=>do loadVar t (<-asAddr (tmps.getD a undef))
def zw(fn:Func)(tmps:Array bl):results fn tmps=(do
 let vs <-fn.results.mapM (zV tmps)
 pure (if h:vs.size=1 then vs[0]else .tuple vs)):=by
 unfold results
 congr 1
section
variable{c:cj}{E:aa (Nat×J)}{L:aa aE}{ops:Array Oper}{Q:Exit->Act->bf->Prop}
def qa(c:cj)(E:aa (Nat×J))(L:aa aE)(r:ResultVar)(τ:J):Prop:=
 ∀a W,bG c E L a W->∃v,(zV a.tmps r).run c.P W=.ok v W∧τ.holds c.bP W v
def Lq{t:Nat}{τ:J}(h:look E t=some τ):qa c E L (.tmp t) τ:=λa W s=>by
 obtain⟨v,h1,ad⟩:=s.env t τ h;exact⟨v,by simp[zV,h1],Vq ad⟩
def Z8{t:Nat}{ty:bx}{i p:Nat}{α:Type}[ah α]{x:α}(dQ:bK c.P ty α)(h:look E t=some (.eq (.pointer (some ⟨p,0,none⟩))))(av:L[i]? =some ⟨some p,.var x⟩):qa c E L (.cell t ty) (.of x):=λa W s=>by
 obtain⟨v,h1,ad⟩:=s.env t _ h;subst ad;obtain⟨l4,e3,cs,T,rfl,gS⟩:=s.own _ (eo av);have ao:cs.toList.length=ah.size α:=ah.len gS;have dK:cs.size=ah.size α:=by simpa using ao
 obtain⟨v,ay,aR⟩:=zl (A:=ks L++c.bP) (off:=0) dQ e3 (by omega) (by rw[vn,<-ao,nf];exact gS);exact⟨v,by simp[zV,h1,asAddr,ay],Vq aR⟩
def uL(c:cj)(ρ:J):Ending->bf->Prop:=λe W'=> ∃v,e=.returned v∧Fr c.X c.jO W'∧ρ.holds c.bP W' v
def ar.Z9{fn:Func}{r:ResultVar}{τ:J}(aD:fn.results= #[r])(h:qa c E L r τ)(dZ:c.ds=[]:=by rfl):ar c (bodyPost c.P fn (uL c τ)) .ret E L:=λa W s=>by
 obtain⟨v,h1,ad⟩:=h a W s;exact⟨s.zE dZ,v,by simp[zw,aD,h1],v,rfl,s.dk,ad⟩
def ar.aoh{fn:Func}{r fg:ResultVar}{τ oC:J}(aD:fn.results= #[r,fg])(h:qa c E L r τ)(ad:qa c E L fg oC)(dZ:c.ds=[]:=by rfl):ar c (bodyPost c.P fn (uL c (.bY [τ,oC]))) .ret E L:=λa W s=>by
 obtain⟨v,ay,aR⟩:=h a W s;obtain⟨v2,aX,bh⟩:=ad a W s;exact⟨s.zE dZ,.tuple #[v,v2],by simp[zw,aD,ay,aX],_,rfl,s.dk,_,rfl,.cons aR (.cons bh .nil)⟩
def ar.ZA{fn:Func}{r fg kV:ResultVar}{τ oC G8:J}(aD:fn.results= #[r,fg,kV])(h:qa c E L r τ)(ad:qa c E L fg oC)(ay:qa c E L kV G8)(dZ:c.ds=[]:=by rfl):ar c (bodyPost c.P fn (uL c (.bY [τ,oC,G8]))) .ret E L:=λa W s=>by
 obtain⟨v,aR,aX⟩:=h a W s;obtain⟨v2,bh,c5⟩:=ad a W s;obtain⟨v3,dW,fp⟩:=ay a W s;exact⟨s.zE dZ,.tuple #[v,v2,v3],by simp[zw,aD,aR,bh,dW],_,rfl,s.dk,_,rfl,.cons aX (.cons c5 (.cons fp .nil))⟩
def cm.of{P:Program}{f:FuncId}{fn:Func}{code:Code}{n:Nat}{τs:aa J}{ρ:J}(aY:P.funcs[f]? =some fn)(hb:fn.body=some code)(aI:fn.ntmps=n)(hlen:Nat.ble τs.length n=true)
 (h:∀W A,az ⟨P,n,W,[],A,none,[]⟩ (bodyPost P fn (uL ⟨P,n,W,[],A,none,[]⟩ ρ)) code (params 0 τs) []):cm P f τs ρ:=cm.enter aY hb aI hlen h
end
structure mT(P:Program)(t:TypeId)(α:Type)[ah α][DecidableEq α](k:Nat):Prop where
 run:∀d,k<=d->∀A W u v (x y:α),(J.of x).holds A W u->(J.of y).holds A W v->(Op.equalIn d t u v).run P W=.ok (decide (x=y)) W
def W5{P t K}(h:P.underlying t=some (.int K)):mT P t Int 1 where
 run d hd A W u v x y al hy:=by
  obtain⟨d,rfl⟩:∃e,d=e+1:=⟨d-1,by omega⟩;rw[of_int.1 al,of_int.1 hy,run_equalIn_int W d t .i64 K x y h];congr 1
def ah8{P t K}(h:P.underlying t=some (.int K)):mT P t (BitVec 64) 1 where
 run d hd A W u v x y al hy:=by
  obtain⟨d,rfl⟩:∃e,d=e+1:=⟨d-1,by omega⟩;rw[js.1 al,js.1 hy,run_equalIn_int W d t .u64 K _ _ h];congr 1;rw[oo];simp only[oT,fM];exact⟨λh=>y0 (by omega),λh=>by rw[h]⟩
def agZ{P t}(h:P.underlying t=some .bool):mT P t Bool 1 where
 run d hd A W u v x y al hy:=by
  obtain⟨d,rfl⟩:∃e,d=e+1:=⟨d-1,by omega⟩;rw[of_bool.1 al,of_bool.1 hy,run_equalIn_bool' W d t x y h];congr 1
def Ou{P:Program}{W:bf}(f:Nat->Sem Bool)(p:Nat->Bool):∀(l:aa Nat),(∀i∈l,(f i).run P W=.ok (p i) W)->
 (forIn (m:=Sem) l ((none,()):aw Bool×Unit) (λi _=>do
  let __do_lift <-f i
  if (!__do_lift)=true then pure (ForInStep.done (some false,()))else
   pure (ForInStep.yield (none,())))).run P W=.ok (if l.all p then(none,())else(some false,())) W
 |[],_=>by simp
 | i::r,h=>by
   have h1:=h i (by simp);have ad:=Ou (P:=P) (W:=W) f p r (λj aC=>h j (by simp[aC]));cases hp:p i with
   |false=>simp[IP,h1,hp]
   | true=>
     rw[IP]
     simp only[dI,h1,hp,Result.andThen_ok,NB,rK,ot,Sem.run_pure]
     rw[ad]
     simp[hp]
def W6{P t e n k}{α:Type}[ah α][Inhabited α][DecidableEq α](h:P.underlying t=some (.array n e))(ez:bK P e α)(he:mT P e α k):mT P t (Vector α n) (k+1)where
 run d hd A W u v x y al hy:=by
  obtain⟨d,rfl⟩:∃e,d=e+1:=⟨d-1,by omega⟩;obtain⟨h1,ad⟩:=al;obtain⟨ay,aR⟩:=hy;obtain⟨xs,rfl⟩:∃cs,u=.agg cs:=by simpa[shaped,ah.agg]using h1
  obtain⟨ys,rfl⟩:∃cs,v=.agg cs:=by simpa[shaped,ah.agg]using ay
  simp only[Value.cells]at ad aR;have wy:xs.toList.length=n*ah.size α:=ah.len ad;have G9:ys.toList.length=n*ah.size α:=ah.len aR;have Ad:∀i∈List.range' 0 n,((do
   let a <-part e xs (i*ah.size α)
   let b <-part e ys (i*ah.size α)
   Op.equalIn d e a b):Sem Bool).run P W=.ok (decide (cu x i=cu y i)) W:=by
   intro i ax
   have hv:i<n:=by simpa using ax
   have fu:i*ah.size α+ah.size α<=n*ah.size α:=(aN.idx (α:=α) n i hv).gV
   obtain⟨a,a7,wz⟩:=uh (A:=A) (P:=P) (W:=W) (cs:=xs) (off:=i*ah.size α) ez (by simp at wy;omega) ((aN.idx (α:=α) n i hv).jF ad)
   obtain⟨b,hb,Ha⟩:=uh (A:=A) (P:=P) (W:=W) (cs:=ys) (off:=i*ah.size α) ez (by simp at G9;omega) ((aN.idx (α:=α) n i hv).jF aR)
   simp only[dI,a7,hb,Result.andThen_ok]
   exact he.run d (by omega) A W a b _ _ wz Ha
  have aY:=Ou (P:=P) (W:=W) _ _ _ Ad;have ml:(List.range' 0 n).all (λi=>decide (cu x i=cu y i))=decide (x=y):=by
   rw[oo,kH,fM];constructor
   ·intro h;apply Vector.ext;intro i ax;have:=h i (by simpa using ax);simpa[cu,ax]using this
   rintro rfl i _;simp
  rw[ml]at aY;simp only[Op.equalIn,dI,dL h,Result.andThen_ok,ez.sizeOf,ML];simp only[Std.Legacy.Range.size,Nat.sub_zero,Nat.add_one_sub_one,NZ]at aY⊢;simp only[bind_assoc]at aY;rw[aY];by_cases Hb:x=y
  ·simp[Hb]
  simp[Hb]
section
variable{c:cj}{E:aa (Nat×J)}{L:aa aE}{ops:Array Oper}{Q:Exit->Act->bf->Prop}
variable{d:aw Tmp}{ty:bx}{pos:String}{af:Array Edge}{g:aw (Nat×Bool)}{x y:bZ}{t t2:bx}
def Yh{α:Type}[ah α][DecidableEq α]{k:Nat}{a b:α}(vb:mT c.P t α k)(hk:Nat.ble k 10000=true)(bF:c.P.eqGuardType c.P.depth t=false)(a7:ah.agg α=true)(al:aP c E L x (.of a))(hy:aP c E L y (.of b)):
 bc c E L ⟨d,.binOp .eql t x y t2,ty,pos,af,g⟩ (.of (decide (a=b))):=.pure λA W s=>by
 have h1:=al A W s
 have ad:=hy A W s
 obtain⟨xs,iE⟩:∃cs,A.eval x=.agg cs:=by simpa[shaped,a7]using h1.1
 obtain⟨ys,yn⟩:∃cs,A.eval y=.agg cs:=by simpa[shaped,a7]using ad.1
 have ay:=vb.run 10000 (oO hk) _ W _ _ a b h1 ad
 rw[iE,yn]at ay
 refine⟨.bool (decide (a=b)),?_,of_bool.2 I⟩
 simp only[execOp,iE,yn,dI,Ns W .eql t x y xs ys bF,Result.andThen_ok,run_eql_struct,ay,Sem.run_pure]
def alI{α:Type}[ah α][DecidableEq α]{k:Nat}{a b:α}(vb:mT c.P t α k)(hk:Nat.ble k 10000=true)(bF:c.P.eqGuardType c.P.depth t=false)(a7:ah.agg α=true)(al:aP c E L x (.of a))(hy:aP c E L y (.of b)):
 bc c E L ⟨d,.binOp .neq t x y t2,ty,pos,af,g⟩ (.of (!decide (a=b))):=.pure λA W s=>by
 have h1:=al A W s
 have ad:=hy A W s
 obtain⟨xs,iE⟩:∃cs,A.eval x=.agg cs:=by simpa[shaped,a7]using h1.1
 obtain⟨ys,yn⟩:∃cs,A.eval y=.agg cs:=by simpa[shaped,a7]using ad.1
 have ay:=vb.run 10000 (oO hk) _ W _ _ a b h1 ad
 rw[iE,yn]at ay
 refine⟨.bool (!decide (a=b)),?_,of_bool.2 I⟩
 simp only[execOp,iE,yn,dI,Ns W .neq t x y xs ys bF,Result.andThen_ok,run_neq_struct,ay,Sem.run_pure]
end
def Km{P:Program}{W:bf}{d:Nat}{xs ys:Array bl}:(Op.eqFields d xs ys []).run P W=.ok true W:=rfl
def rV{P:Program}{A:aa Nat}{W:bf}{d:Nat}{xs ys:Array bl}{β γ:Type}[ah β][ah γ][DecidableEq γ](l:aN β γ){S0 S1:β}{fd:Field}{fs:aa Field}{k:Nat}{r:Bool}(ez:bK P fd.type γ)(aU:fd.offset=l.off)(aI:(fd.name== "_")=false)
 (vb:mT P fd.type γ k) (hd:k<=d) (al:ah.rep A W xs.toList S0) (hy:ah.rep A W ys.toList S1) (aD:(Op.eqFields d xs ys fs).run P W=.ok r W):
 (Op.eqFields d xs ys (fd::fs)).run P W=.ok (decide (l.get S0=l.get S1)&&r) W:=by
 have wy:xs.toList.length=ah.size β:=ah.len al
 have G9:ys.toList.length=ah.size β:=ah.len hy
 have fu:=l.gV
 obtain⟨a,a7,wz⟩:=uh (A:=A) (P:=P) (W:=W) (cs:=xs) (off:=l.off) ez (by simp at wy;omega) (l.jF al)
 obtain⟨b,hb,Ha⟩:=uh (A:=A) (P:=P) (W:=W) (cs:=ys) (off:=l.off) ez (by simp at G9;omega) (l.jF hy)
 have qN:fd.name≠ "_" :=fun e=>by rw [e] at aI;simp at aI
 simp only[Op.eqFields,br qN,dI,aU,a7,hb,Result.andThen_ok,vb.run d hd A W a b _ _ wz Ha]
 by_cases h:l.get S0=l.get S1
 ·simp[h,aD]
 simp[h]
def JY{P:Program}{t:bx}{β:Type}[ah β][DecidableEq β]{k:Nat}{fs:Array Field}(a7:ah.agg β=true)(hu:P.underlying t=some (.struct fs))(hp:P.stoodInHeld t=false)
 (h:∀d,k<=d->∀A W (xs ys:Array bl) (x y:β),ah.rep A W xs.toList x->ah.rep A W ys.toList y->(Op.eqFields d xs ys fs.toList).run P W=.ok (decide (x=y)) W):mT P t β (k+1)where
 run d hd A W u v x y al hy:=by
  obtain⟨d,rfl⟩:∃e,d=e+1:=⟨d-1,by omega⟩;obtain⟨xs,rfl⟩:∃cs,u=.agg cs:=by simpa[shaped,a7]using al.1
  obtain⟨ys,rfl⟩:∃cs,v=.agg cs:=by simpa[shaped,a7]using hy.1
  have aY:P.fieldsOf t=fs:=by simp[Program.fieldsOf,hu]
  rw[run_equalIn_struct W d t xs ys (by rw[aY];exact hu) hp,aY];exact h d (by omega) A W xs ys x y (by simpa[Value.cells]using al.2) (by simpa[Value.cells]using hy.2)
def U3{P:Program}{W:bf}(fs:Array Field)(h:fs.all (λf=>(P.info? f.type).isSome)=true):
 (fs.mapM (m:=Sem) λf=>do pure (f.offset,<-Go.sizeOf f.type)).run P W=.ok (fs.map λf=>(f.offset,P.cellsOf f.type)) W:=by
 obtain⟨l⟩:=fs
 have key:∀(l:aa Field),l.all (λf=>(P.info? f.type).isSome)=true->(l.mapM (m:=Sem) λf=>do pure (f.offset,<-Go.sizeOf f.type)).run P W=.ok (l.map λf=>(f.offset,P.cellsOf f.type)) W:=by
  intro l;induction l with
  |nil=>intro _;rfl
  | cons f r bJ=>
    intro h
    simp only[List.all_cons,gq]at h
    obtain⟨i,ax⟩:=MR.1 h.1
    rw[List.mapM_cons]
    simp only[dI,Go.sizeOf,typeInfo,run_program,Result.andThen_ok,ax,Sem.run_pure]
    have:=bJ h.2
    simp only[dI,Go.sizeOf,typeInfo]at this
    rw[this]
    simp[Program.cellsOf,ax]
 have cT:l.all (λf=>(P.info? f.type).isSome)=true:=by simpa using h
 rw[List.mapM_toArray]
 simp only[Sem.run_map,key l cT,Result.andThen_ok]
 simp
def afq(ds:aa bl)(off:Nat):∀(j:Nat) (cs:Array bl),off+j+ds.length<=cs.size->
 (ds.zipIdx j).foldl (λcs (c,j)=>cs.setIfInBounds (off+j) c) cs=(cs.toList.take (off+j)++ds++cs.toList.drop (off+j+ds.length)).toArray:=by
 induction ds with
 |nil=>intro j cs _;simp
 | cons v r bJ=>
   intro j cs h
   simp only[List.length_cons]at h
   rw[List.zipIdx_cons,List.foldl_cons,bJ (j+1) _ (by simp;omega)]
   simp only[Array.toList_setIfInBounds]
   have:=list_seg_step cs.toList (off+j) v r (by simp;omega)
   rw[show off+(j+1)=off+j+1 by omega]
   simp only[List.length_cons]
   rw[this]
def Kd{place:Nat->aw (Nat×Nat)}{cs:Array bl}{i off sz:Nat}{v:bl}{rest:aa (Nat×bl)}(hp:place i=some (off,sz))(ba:v.cells.size=sz)(hle:off+sz<=cs.size):
 Instr.fill place cs ((i,v)::rest)=Instr.fill place (gO cs.toList off v.cells.toList).toArray rest:=by
 simp only[Instr.fill,hp]
 rw[bn (by simp[ba];omega)]
 have:=afq v.cells.toList off 0 cs (by simp[ba];omega)
 simp only[Nat.add_zero]at this
 congr 1
 rw[<-Array.foldl_toList]
 have cy:(v.cells.zipIdx).toList=v.cells.toList.zipIdx:=by simp
 rw[cy,this]
 simp[gO]
section
variable{c:cj}{E:aa (Nat×J)}{L:aa aE}{ops:Array Oper}{Q:Exit->Act->bf->Prop}
variable{d:aw Tmp}{ty:bx}{pos:String}{af:Array Edge}{g:aw (Nat×Bool)}{x y:bZ}{t t2:bx}
inductive s7(c:cj)(E:List (Nat×J))(L:List aE)(place:Nat->Option (Nat×Nat)){β:Type}[ah β]:β->List (Nat×Operand)->β->Prop
 |nil {b}:s7 c E L place b [] b
 |cons {b c7 b':β} {γ:Type} [ah γ] {v:γ} {i:Nat} {x:Operand} {r:List (Nat×Operand)} (l:aN β γ):place i=some (l.off,ah.size γ)->aP c E L x (.of v)->l.set b v=c7->s7 c E L place c7 r b'->s7 c E L place b ((i,x)::r) b'
def s7.run{place:Nat->aw (Nat×Nat)}{β:Type}[ah β]{b b':β}{bt:aa (Nat×bZ)}(h:s7 c E L place b bt b'):∀a W,bG c E L a W->∀cs:Array bl,ah.rep (ks L++c.bP) W cs.toList b->
 ∃dT,Instr.fill place cs (bt.map λ(i,x)=>(i,a.eval x))=some dT∧ah.rep (ks L++c.bP) W dT.toList b':=by
 induction h with
 |nil=>intro a W s cs aD;exact⟨cs,rfl,aD⟩
 | @cons b c7 b' γ _ v i x r l h1 ad ay _ bJ=>
   intro a W s cs aD
   subst ay
   have ba:=ad a W s
   have dK:(a.eval x).cells.size=ah.size γ:=by have:=ah.len ba.2;simpa using this
   have ao:cs.toList.length=ah.size β:=ah.len aD
   have fu:=l.gV
   rw[mb,Kd h1 dK (by simp at ao;omega)]
   refine bJ a W s _ ?_
   have:=l.nS aD ba.2
   simpa[gO,ah.len ba.2]using this
class fw (P:Program) (t:bx) (pl:outParam (Array (Nat×Nat))):Prop where
 at_:∃fs,P.underlying t=some (.struct fs)∧fs.all (λf=>(P.info? f.type).isSome)=true∧(fs.map λf=>(f.offset,P.cellsOf f.type))=pl
def kc{β:Type}[ah β]{z b:β}{bt:aa (Nat×bZ)}{pl:Array (Nat×Nat)}(a7:ah.agg β=true)(HR:fw c.P t pl)(gL:c4 c.P t z)
 (aY:s7 c E L (pl[·]?) z bt b):bc c E L ⟨d,.build t bt.toArray,ty,pos,af,g⟩ (.of b):=.pure λa W s=>by
 obtain⟨fs,hu,hs,rfl⟩:=HR.at_
 obtain⟨i,dR,h1,ad,ay⟩:=gL.zero
 obtain⟨dT,aR,aX⟩:=aY.run a W s dR.cells (ay _ _).2
 refine⟨.agg dT,?_,by simp[shaped,a7],by simpa[Value.cells]using aX⟩
 have hm:(bt.toArray.map λ(x:Nat×bZ)=>(x.1,a.eval x.2)).toList=bt.map λ(i,x)=>(i,a.eval x):=by simp
 simp only[execOp,Instr.build,dI,zeroValue,typeInfo,run_program,Result.andThen_ok,h1,ad,Sem.run_pure,dL hu,U3 fs hs]
 rw[hm,aR]
 rfl
def agP{β:Type}[ah β]{z b:β}{bt:aa (Nat×bZ)}{n e sz:Nat}(a7:ah.agg β=true)(hu:c.P.underlying t=some (.array n e))(hs:(c.P.info? e).map (·.size)=some sz)(gL:c4 c.P t z)
 (aY:s7 c E L (λi=>some (i*sz,sz)) z bt b):bc c E L ⟨d,.build t bt.toArray,ty,pos,af,g⟩ (.of b):=.pure λa W s=>by
 obtain⟨i,dR,h1,ad,ay⟩:=gL.zero
 obtain⟨gD,dX,dK⟩:∃gD,c.P.info? e=some gD∧gD.size=sz:=by
  cases ax:c.P.info? e with
  |none=>simp[ax]at hs
  |some gD=>exact⟨gD,rfl,by simpa[ax]using hs⟩
 obtain⟨dT,aR,aX⟩:=aY.run a W s dR.cells (ay _ _).2
 refine⟨.agg dT,?_,by simp[shaped,a7],by simpa[Value.cells]using aX⟩
 have hm:(bt.toArray.map λ(x:Nat×bZ)=>(x.1,a.eval x.2)).toList=bt.map λ(i,x)=>(i,a.eval x):=by simp
 simp only[execOp,Instr.build,dI,zeroValue,typeInfo,run_program,Result.andThen_ok,h1,ad,Sem.run_pure,dL hu,Go.sizeOf,dX,dK]
 rw[hm,aR]
 rfl
end
def qZ{α:Type}[ah α](A:aa Nat)(W:bf)(v:bl)(xs:aa α):Prop:=
 (v=.slice none 0 0∧xs=[])∨
 ∃ b off cap cur T iT,v=.slice (some ⟨b,off,none⟩) xs.length cap∧b∉A∧W.heap[b]? =some (.cells cur T iT)∧xs.length<=cap∧xs.length<=maxLen∧off+xs.length*ah.size α<=cur.size∧
   hf A W ((cur.toList.drop off).take (xs.length*ah.size α)) xs
def qZ.mono{α:Type}[ah α]{A W cE W' v}{xs:aa α}(e:Ext A W cE W')(h:qZ A W v xs):qZ cE W' v xs:=by
 rcases h with h|⟨b,off,cap,cur,T,iT,h1,ad,ay,aR,aX,bh,c5⟩
 ·exact .inl h
 have b9:b<W.heap.size:=(q4.1 ay).1;exact .inr ⟨b,off,cap,cur,T,iT,h1,λhm=>ad (e.new b hm b9),by rw[e.block b b9 ad];exact ay,aR,aX,bh,c5.mono e⟩
instance{α:Type}[ah α]:ah (aa α)where
 size:=1
 agg:=false
 rep A W cs xs:=∃v,cs=[v]∧qZ A W v xs
 len h:=by obtain⟨v,rfl,_⟩:=h;rfl
 one h:=by
  obtain⟨v,rfl,h⟩:=h;intro u hu;rw[gX.1 hu];rcases h with⟨rfl,_⟩|⟨b,off,cap,cur,T,iT,rfl,_⟩ <;> rfl
 flat _:=rfl
 mono e h:=let⟨v,h1,ad⟩:=h; ⟨v,h1,ad.mono e⟩
def qZ.one{α:Type}[ah α]{A W v}{xs:aa α}(h:qZ A W v xs):v.oneCell'=true:=by
 rcases h with⟨rfl,_⟩|⟨b,off,cap,cur,T,iT,rfl,_⟩ <;> rfl
def pB{α:Type}[ah α]{A W v}{xs:aa α}:(J.of xs).holds A W v↔qZ A W v xs:=by
 constructor
 ·rintro ⟨h1,u,ad,ay⟩;have:v=u:=ov h1 ad;rw[this];exact ay
 intro h;exact⟨h.one,v,by rw[cells_one h.one],h⟩
def aB{α:Type}[Inhabited α](xs:aa α)(k:Nat):α:=xs[k]?.getD default
def fQ{α:Type}[Inhabited α](xs:aa α){k:Nat}(h:k<xs.length):aB xs k=xs[k]:=by simp[aB,h]
def s5{α:Type}(xs:aa α)(lo ax:Int):aw (aa α):=if 0<=lo∧lo<=ax∧ax<=xs.length then some ((xs.drop lo.toNat).take (ax.toNat-lo.toNat))else none
def afr{α:Type}{xs r:aa α}{lo ax:Int}(h:s5 xs lo ax=some r):∃a b:Nat,lo=a∧ax=b∧a<=b∧b<=xs.length∧r=(xs.drop a).take (b-a):=by
 unfold s5 at h;split at h
 ·rename_i ak;simp only[fi]at h;exact⟨lo.toNat,ax.toNat,by omega,by omega,by omega,by omega,h.symm⟩
 cases h
def eh{α:Type}(bytes:Nat)(xs ys:aa α):aw (aa α):=if (xs.length+ys.length)*bytes<=140737488355328∧xs.length+ys.length<=maxLen then some (xs++ys)else none
def VO{α:Type}{bytes:Nat}{xs ys r:aa α}(h:eh bytes xs ys=some r):(xs.length+ys.length)*bytes<=140737488355328∧xs.length+ys.length<=maxLen∧r=xs++ys:=by
 unfold eh at h;split at h
 ·rename_i ak;simp only[fi]at h;exact⟨ak.1,ak.2,h.symm⟩
 cases h
section
variable{c:cj}{E:aa (Nat×J)}{L:aa aE}{ops:Array Oper}{Q:Exit->Act->bf->Prop}
variable{d:aw Tmp}{ty:bx}{pos:String}{af:Array Edge}{g:aw (Nat×Bool)}{x y:bZ}{t t2:bx}
def look_nil{α:Type}[ah α]:aP c E L (.const (.slice none 0 0)) (.of ([]:aa α)):=λ_ _ _=>pB.2 (.inl ⟨rfl,rfl⟩)
def qZ.len{α:Type}[ah α]{A W v}{xs:aa α}(h:qZ A W v xs):∃a cap,v=.slice a xs.length cap:=by
 rcases h with⟨rfl,rfl⟩|⟨b,off,cap,cur,T,iT,rfl,_⟩
 ·exact⟨none,0,rfl⟩
 exact⟨_,_,rfl⟩
def xP{α:Type}[ah α]{xs:aa α}{e:bx}(hu:c.P.underlying t=some (.slice e))(al:aP c E L x (.of xs)):bc c E L ⟨d,.call ⟨.builtin .len,#[x],#[t]⟩,ty,pos,af,g⟩ (.of (xs.length:Int)):=.pure λa W s=>by
 obtain⟨b,cap,h1⟩:=(pB.1 (al a W s)).len;exact⟨.int .i64 xs.length,by simp[execOp,resolve,invoke,builtin,Builtin.len_,h1,dL hu,goInt],of_int.2 I⟩
def mM{α:Type}[ah α][Inhabited α]{xs:aa α}{e:bx}{i:Int}{k:Nat}(hu:c.P.underlying t=some (.slice e))(ez:bK c.P e α)(al:aP c E L x (.of xs))(hy:aP c E L y (.of i))(hk:k<xs.length∧i=k):
 bc c E L ⟨d,.indexAddr t x y,ty,pos,af,g⟩ (.ptr (aB xs k)):=.pure λa W s=>by
 obtain⟨bh,rfl⟩:=hk
 have aX:=of_int.1 (hy a W s)
 rcases pB.1 (al a W s)with⟨_,rfl⟩|⟨b,off,cap,cur,T,iT,h1,ad,ay,aR,c5,dW,fp⟩
 ·simp at bh
 obtain⟨gD,dX,dK⟩:=ez.info
 have hle:(k+1)*ah.size α<=xs.length*ah.size α:=hi _ bh
 rw[rO]at hle
 refine⟨.pointer (some ⟨b,off+k*ah.size α,none⟩),?_,b,off+k*ah.size α,cur,T,iT,rfl,ad,ay,by omega,?_⟩
 ·simp[execOp,Instr.indexAt,asIntOf,dL hu,h1,aX,bh,Go.sizeOf,typeInfo,dX,dK,kI]
 have:=fp.2 k bh
 rw[zs _ _ _ _ _ hle]at this
 rw[fQ xs bh]
 exact this
def rS{P:Program}{W:bf}{v:bl}{k:IntKind}{n m:Nat}{code:BoundsCode}(h:n<=m)(ba:v=.int k n):(Instr.sliceBound v m code).run P W=.ok n W:=by
 subst ba;have bu:(n:Int)<=(m:Int):=by omega
 simp[Instr.sliceBound,asIntOf,h]
def ah9{α:Type}[ah α]{A W}{xs:aa α}{b off cap:Nat}{cur:Array bl}{T:bx}{iT:Nat×Nat}{lo ax:Nat}(ad:b∉A)(ay:W.heap[b]? =some (.cells cur T iT))(aR:xs.length<=cap)(c5:xs.length<=maxLen)
 (dW:off+xs.length*ah.size α<=cur.size) (fp:hf A W ((cur.toList.drop off).take (xs.length*ah.size α)) xs) (h:lo<=ax) (cT:ax<=xs.length):
 qZ A W (.slice (some (if cap=lo then⟨b,off,none⟩else⟨b,off+lo*ah.size α,none⟩)) (ax-lo) (cap-lo)) ((xs.drop lo).take (ax-lo)):=by
 have ao:((xs.drop lo).take (ax-lo)).length=ax-lo:=by simp;omega
 have hm:ax*ah.size α<=xs.length*ah.size α:=hi _ cT
 have tq:lo*ah.size α<=ax*ah.size α:=hi _ h
 have hd:(ax-lo)*ah.size α=ax*ah.size α-lo*ah.size α:=Nat.sub_mul _ _ _
 by_cases e:cap=lo
 ·subst e
  have bu:ax=cap:=by omega
  subst bu
  refine .inr ⟨b,off,ax-ax,cur,T,iT,by simp,ad,ay,by simp,by simp,by simp;omega,?_⟩
  simp only[Nat.sub_self,List.take_zero,List.length_nil,zg]
  exact⟨by simp,λi ax=>by simp at ax⟩
 rw[bn e]
 refine .inr ⟨b,off+lo*ah.size α,cap-lo,cur,T,iT,by rw[ao],ad,ay,by omega,by omega,by rw[ao];omega,?_⟩
 rw[ao]
 refine⟨by simp only[ao,fy,ku];simp;omega,λi hv=>?_⟩
 rw[ao]at hv
 have nE:=fp.2 (lo+i) (by omega)
 have hle:(lo+i+1)*ah.size α<=xs.length*ah.size α:=hi _ (by omega)
 have LC:(i+1)*ah.size α<=(ax-lo)*ah.size α:=hi _ (by omega)
 rw[rO]at hle LC
 rw[zs _ _ _ _ _ hle]at nE
 rw[zs _ _ _ _ _ LC]
 have:((xs.drop lo).take (ax-lo))[i]'(by rw[ao];exact hv)=xs[lo+i]:=by simp
 rw[this]
 rw[show off+lo*ah.size α+i*ah.size α=off+(lo+i)*ah.size α by rw[nh];omega]
 exact nE
inductive yC(c:cj)(E:List (Nat×J))(L:List aE):Option Operand->Int->Int->Prop
 |none {n}:yC c E L .none n n
 |some {x i n}:aP c E L x (.of (i:Int))->yC c E L (.some x) i n
def FJ{α:Type}[ah α]{xs r:aa α}{e:bx}{lo ax:aw bZ}{i j:Int}(hu:c.P.underlying t=some (.slice e))(ez:bK c.P e α)(al:aP c E L x (.of xs))(jv:yC c E L lo i 0)(eY:yC c E L ax j xs.length)
 (h:s5 xs i j=some r):bc c E L ⟨d,.slice t x lo ax none,ty,pos,af,g⟩ (.of r):=.pure λa W s=>by
 obtain⟨m,n,rfl,rfl,wj,aI,rfl⟩:=afr h
 obtain⟨gD,dX,dK⟩:=ez.info
 rcases pB.1 (al a W s)with⟨h1,rfl⟩|⟨b,off,cap,cur,T,iT,h1,ad,ay,aR,c5,dW,fp⟩
 ·have uX:n=0:=by simpa using aI
  have hZ:m=0:=by omega
  subst uX
  subst hZ
  refine⟨.slice none 0 0,?_,pB.2 (.inl ⟨rfl,by simp⟩)⟩
  have av:(match lo.map a.eval with |some v=>Instr.sliceBound v 0 .sliceB|none=>pure 0:Sem Nat).run c.P W=.ok 0 W:=by
   cases jv with
   |none=>rfl
   |some ao=>exact rS (iu _) (of_int.1 (ao a W s))
  have hH:(match ax.map a.eval,(none:aw bl) with | some v,some _=>Instr.sliceBound v 0 .slice3B | some v,none=>Instr.sliceBound v 0 .sliceAcap | none,none=>pure 0 | none,some _=>stuck "Slice: max without high" :Sem Nat).run c.P W= .ok 0 W:=by
   cases eY with
   |none=>rfl
   |some ao=>exact rS (iu _) (of_int.1 (ao a W s))
  cases jv <;> cases eY
  all_goals
   simp only[execOp,Instr.sliceAt,Instr.slice,Instr.sliceBounds,h1,dI,dL hu,Result.andThen_ok,Option.map_none,Option.map_some,Option.isSome_none,rK,ot,mc,Sem.run_pure]at av hH⊢
   try simp only[av,hH,Result.andThen_ok,Go.sizeOf,typeInfo,dI,run_program,dX,Sem.run_pure]
   try simp[dX]
 refine⟨.slice (some (if cap=m then⟨b,off,none⟩else⟨b,off+m*ah.size α,none⟩)) (n-m) (cap-m),?_,pB.2 (ah9 ad ay aR c5 dW fp wj aI)⟩
 have av:∀v,v=Value.int .i64 m->(Instr.sliceBound v n .sliceB).run c.P W=.ok m W:=λv ba=>rS wj ba
 have hH:∀v,v=Value.int .i64 n->(Instr.sliceBound v cap .sliceAcap).run c.P W=.ok n W:=λv ba=>rS (by omega) ba
 have x4:(if cap=m then(some ⟨b,off,none⟩:aw Addr)else(some (Addr.add ⟨b,off,none⟩ (m*ah.size α))))=some (if cap=m then⟨b,off,none⟩else⟨b,off+m*ah.size α,none⟩):=by
  split <;> simp[kI]
 generalize fu:(n:Int)=abS at eY
 generalize Hc:(m:Int)=abT at jv
 generalize wA:(xs.length:Int)=abU at eY
 generalize abc:(0:Int)=abV at jv
 cases jv with
 | none=>
   have hZ:m=0:=by omega
   cases eY with
   | none=>
     have mU:n=xs.length:=by omega
     subst mU
     subst hZ
     simp[execOp,Instr.sliceAt,Instr.slice,Instr.sliceBounds,h1,dL hu,Go.sizeOf,typeInfo,dX,dK,kI]
   | some ao=>
     have aX:=of_int.1 (ao a W s)
     rw[<-fu]at aX
     have bh:=hH _ aX
     subst hZ
     simp[execOp,Instr.sliceAt,Instr.slice,Instr.sliceBounds,h1,dL hu,Go.sizeOf,typeInfo,dX,dK,kI,bh]
 | some ao=>
   have aX:=of_int.1 (ao a W s)
   rw[<-Hc]at aX
   have bh:=av _ aX
   cases eY with
   | none=>
     have mU:n=xs.length:=by omega
     subst mU
     simp only[execOp,Instr.sliceAt,Instr.slice,Instr.sliceBounds,h1,dI,dL hu,Result.andThen_ok,Option.map_none,Option.map_some,Option.isSome_none,rK,ot,mc,Sem.run_pure,bh,Go.sizeOf,typeInfo,run_program,dX,dK]
     rw[<-x4]
   | some kN=>
     have abd:=of_int.1 (kN a W s)
     rw[<-fu]at abd
     have aqa:=hH _ abd
     simp only[execOp,Instr.sliceAt,Instr.slice,Instr.sliceBounds,h1,dI,dL hu,Result.andThen_ok,Option.map_none,Option.map_some,Option.isSome_none,rK,ot,mc,Sem.run_pure,bh,aqa,Go.sizeOf,typeInfo,run_program,dX,dK]
     rw[<-x4]
end
def aO:aw Nat->Nat->Nat->bl
 |some p,n,cap=>.slice (some ⟨p,0,none⟩) n cap
 |none,_,_=>.slice none 0 0
def afs{L:aa aE}{i:Nat}{cp:dr}:∀k∈ks (L.set i ⟨none,cp⟩),∃j e,j≠i∧L[j]? =some e∧e.key=some k:=by
 intro k hk;obtain⟨e,he,yj⟩:=nq.1 hk;obtain⟨j,aC⟩:=l8.1 he;rw[oP]at aC;split at aC
 ·split at aC
  ·simp only[fi]at aC;subst aC;cases yj
  cases aC
 rename_i cX;exact⟨j,e,λh=>cX h.symm,aC,yj⟩
def BX{L:aa aE}{i:Nat}{cp:dr}:ks (L.set i ⟨none,cp⟩) |>.Sublist (ks L):=by
 induction L generalizing i with
 |nil=>simp[ks]
 | cons x r bJ=>
   cases i with
   | zero=>
     cases hk:x.key with
     |none=>simp[ks,hk]
     |some p=>simp[ks,hk]
   | succ i=>
     cases hk:x.key with
     |none=>simpa[ks,hk]using bJ
     |some p=>simpa[ks,hk]using bJ
def bG.kill{c E L a W}(h:bG c E L a W)(i:Nat):bG c E (L.set i ⟨none,.dead⟩) a W:=by
 have mQ:=BX (L:=L) (i:=i) (cp:=.dead);have hk:∀k∈ks (L.set i ⟨none,.dead⟩),k∈ks L:=λk hk=>mQ.subset hk;have gR:Ext (ks L++c.bP) W (ks (L.set i ⟨none,.dead⟩)++c.bP) W:=.drop λk hm=>by
  rcases ca.1 hm with hm|hm
  ·exact ca.2 (.inl (hk k hm))
  exact ca.2 (.inr hm)
 exact
 {defers:=h.defers
  size:=h.size
  env:=λt τ ao=>let⟨v,h1,ad⟩:=h.env t τ ao; ⟨v,h1,τ.mono gR ad⟩
  dk:=h.dk
  own:=λe he=>by
   obtain⟨j,aC⟩:=l8.1 he;rw[oP]at aC;split at aC
   ·split at aC
    ·simp only[fi]at aC;subst aC;trivial
    cases aC
   have h1:=h.own e (eo aC);unfold aE.ok at *;split at h1
   ·obtain⟨o',aU,b2⟩:=h1;exact⟨o',aU,dr.mono _ gR b2⟩
   exact h1
  nodup:=h.nodup.sublist mQ
  lt:=λk hm=>h.lt k (hk k hm)
  fR:=λk hm=>h.fR k (hk k hm)
  er:=λk hm=>⟨(h.er k hm).1,λad=>(h.er k hm).2 (hk k ad)⟩}
def bG.FD{c E L a W}(h:bG c E L a W){i p:Nat}{cp:dr}(ax:L[i]? =some ⟨some p,cp⟩):p∉ks (L.set i ⟨none,.dead⟩)++c.bP:=by
 intro hm;rcases ca.1 hm with hm|hm
 ·obtain⟨j,e,cX,aC,yj⟩:=afs p hm;exact cX (Qa h.nodup aC ax yj I)
 exact(h.er p hm).2 (nq.2 ⟨_,eo ax,rfl⟩)
def OL{α:Type}[ah α]{A W}{cs:Array bl}{xs:aa α}{cap:Nat}(h:cs.size=cap*ah.size α)(aI:xs.length<=cap)(aD:hf A W (cs.toList.take (xs.length*ah.size α)) xs):
 0+xs.length*ah.size α<=cs.size∧hf A W ((cs.toList.drop 0).take (xs.length*ah.size α)) xs:=by
 refine⟨?_,by simpa using aD⟩
 rw[h,h7];exact hi _ aI
section
variable{c:cj}{E:aa (Nat×J)}{L:aa aE}{ops:Array Oper}{Q:Exit->Act->bf->Prop}
variable{d:aw Tmp}{ty:bx}{pos:String}{af:Array Edge}{g:aw (Nat×Bool)}{x y:bZ}{t t2:bx}
def bG.freeze{a:Act}{W:bf}{α:Type}[ah α]{i s cap T:Nat}{key:aw Nat}{xs:aa α}(h:bG c E L a W)(ao:look E s=some (.eq (aO key xs.length cap)))(av:L[i]? =some ⟨key,.row T xs cap⟩):
 bG c ((s,.of xs)::E) (L.set i ⟨none,.dead⟩) a W:=by
 have hk:=h.kill i
 refine {hk with env:=λt τ en=>?_}
 simp only[look]at en
 by_cases e:Nat.beq s t=true
 ·rw [e]at en
  simp only[cond_true,fi]at en
  subst en
  have:=eP.1 e
  subst this
  obtain⟨v,h1,ad⟩:=h.env s _ ao
  refine⟨v,h1,pB.2 ?_⟩
  have mu:v=aO key xs.length cap:=ad
  subst mu
  have aU:=h.own _ (eo av)
  cases key with
  |none=>exact .inl ⟨rfl,aU.1⟩
  | some p=>
    obtain⟨o,e3,cs,rfl,dK,aI,AJ,aD⟩:=aU
    obtain⟨ay,aR⟩:=OL dK aI aD
    refine .inr ⟨p,0,cap,cs,T,(0,0),rfl,h.FD av,e3,aI,by omega,ay,?_⟩
    have mQ:=BX (L:=L) (i:=i) (cp:=.dead)
    exact aR.mono (.drop λk hm=>by
     rcases ca.1 hm with hm|hm
     ·exact ca.2 (.inl (mQ.subset hm))
     exact ca.2 (.inr hm))
 simp only[kX]at e
 rw[e]at en
 exact hk.env t τ en
def az.freeze{code:Code}{α:Type}[ah α]{key:aw Nat}{xs:aa α}{cap T:Nat}(i s:Nat)(ao:look E s=some (.eq (aO key xs.length cap)))(av:L[i]? =some ⟨key,.row T xs cap⟩)
 (k:az c Q code ((s,.of xs)::E) (L.set i ⟨none,.dead⟩)):az c Q code E L:=λa W st=>k a W (st.freeze ao av)
def bG.ajg{a:Act}{W:bf}{α:Type}[ah α](T:bx)(h:bG c E L a W):bG c E (⟨none,.row T ([]:aa α) 0⟩::L) a W:=
 {h with
  own:=λe he=>by
   rcases dO.1 he with rfl|he
   ·exact⟨rfl,rfl⟩
   exact h.own e he}
def ae.own{l:aa Oper}{α:Type}[ah α](T:bx)(k:ae c ops Q l E (⟨none,.row T ([]:aa α) 0⟩::L)):ae c ops Q l E L:=λa W st=>k a W (st.ajg T)
def k2:aP c E L (.const (.slice none 0 0)) (.eq (aO none 0 0)):=λ_ _ _=>rfl
def oZ{key:aw Nat}{n cap:Nat}{e i T:Nat}{α:Type}[ah α]{xs:aa α}(hu:c.P.underlying t=some (.slice e))(al:aP c E L x (.eq (aO key n cap)))(aI:n=xs.length)(av:L[i]? =some ⟨key,.row T xs cap⟩):bc c E L ⟨d,.call ⟨.builtin .len,#[x],#[t]⟩,ty,pos,af,g⟩ (.of (n:Int)):=.pure λa W s=>by
 subst aI;have h1:a.eval x=_:=al a W s;have aU:=s.own _ (eo av);cases key with
 | none=>
   have:xs=[]:=aU.1
   subst this
   exact⟨.int .i64 0,by simp[execOp,resolve,invoke,builtin,Builtin.len_,h1,aO,dL hu,goInt],of_int.2 I⟩
 |some p=>exact⟨.int .i64 xs.length,by simp[execOp,resolve,invoke,builtin,Builtin.len_,h1,aO,dL hu,goInt],of_int.2 I⟩
def hf.one{α:Type}[ah α]{A W}{cs:aa bl}{xs:aa α}(h:hf A W cs xs):∀u∈cs,u.oneCell'=true:=by
 intro u hu;obtain⟨j,aC⟩:=l8.1 hu;have b9:=(fL.1 aC).1;have h1:=h.1;by_cases hs:ah.size α=0
 ·rw[hs,Nat.mul_zero]at h1;omega
 have hp:0<ah.size α:=Eb hs;have ax:j/ah.size α<_:=(TM hp).2 (by rw[h1]at b9;exact b9);refine ah.one (h.2 _ ax) u (l8.2 ⟨j % ah.size α,?_⟩);rw[jR,br (BS _ hp),lp,rN,EB];exact aC
def xj{α:Type}[ah α]{A W}{cs ds:aa bl}{xs ys:aa α}(h:hf A W cs xs)(cT:hf A W ds ys):hf A W (cs++ds) (xs++ys):=by
 refine⟨by rw[fh,h.1,cT.1,fh,nh],λi ax=>?_⟩;rw[fh]at ax;by_cases b9:i<xs.length
 ·have h1:=h.2 i b9;have hle:(i+1)*ah.size α<=xs.length*ah.size α:=hi _ b9;rw[rO]at hle;have kF:=h.1;rw[Tp (by omega),Bj (by simp;omega)];rw[List.getElem_append_left b9];exact h1
 have h1:=cT.2 (i-xs.length) (by omega);have e:i*ah.size α=cs.length+(i-xs.length)*ah.size α:=by
  rw[h.1,<-nh];congr 1;omega
 rw[e,Nj,DX (by omega),List.nil_append,show cs.length+(i-xs.length)*ah.size α-cs.length=(i-xs.length)*ah.size α by omega];rw[List.getElem_append_right (by omega)];exact h1
def qZ.cells{α:Type}[ah α]{A W v}{ys:aa α}(h:qZ A W v ys):
 (v=.slice none 0 0∧ys=[])∨∃(b off cap:Nat) (news:aa bl),v=.slice (some ⟨b,off,none⟩) ys.length cap∧news.length=ys.length*ah.size α∧(∀(j:Nat) (u:bl),news[j]? =some u->W.cell? ((⟨b,off,none⟩:Addr).add j)=some u)∧
  (∀u∈news,u.oneCell'=true)∧hf A W news ys:=by
 rcases h with h|⟨b,off,cap,cur,T,iT,h1,ad,ay,aR,aX,bh,c5⟩
 ·exact .inl h
 refine .inr ⟨b,off,cap,_,h1,c5.1,λj u hu=>?_,λu hu=>?_,c5⟩
 ·rw[jR]at hu
  split at hu
  ·rw[kI,E8 W b (off+j) cur T iT ay]
   rw[lp]at hu
   simpa using hu
  cases hu
 exact c5.one u hu
def bG.grow{a:Act}{W:bf}(h:bG c E L a W){i:Nat}{hC:aE}(ax:L[i]? =some hC){o:Obj}{cp:dr}(ak:cp.holds (ks L++c.bP) W o):
 bG c E (L.set i ⟨some W.heap.size,cp⟩) a (W.alloc o):=by
 have h1:=h.alloc ak
 refine h1.sub (λe he=>?_) ?_
 ·obtain⟨j,aC⟩:=l8.1 he
  rw[oP]at aC
  split at aC
  ·split at aC
   ·simp only[fi]at aC;subst aC;simp
   cases aC
  exact gd _ (eo aC)
 have si:W.heap.size∉ks L:=λhm=>I6 _ (h.lt _ hm)
 have key:∀(L:aa aE) (i:Nat) (q:Nat),q∉ks L->(ks L).Nodup->(ks (L.set i ⟨some q,cp⟩)).Nodup∧∀k∈ks (L.set i ⟨some q,cp⟩),k=q∨k∈ks L:=by
  intro L;induction L with
  |nil=>intro i q _ aI;exact⟨by simpa using aI,by simp[ks]⟩
  | cons x r bJ=>
    intro i q hq aI
    cases al:x.key with
    | none=>
      have lf:q∉ks r:=by simpa[ks,al]using hq
      have qN:(ks r).Nodup:=by simpa[ks,al]using aI
      cases i with
      |zero=>exact⟨by simp only[List.set_cons_zero,ks];exact lQ.2 ⟨lf,qN⟩,λk hk=>by
       simp only[List.set_cons_zero,ks,dO]at hk;rcases hk with rfl|hk
       ·exact .inl I
       exact .inr (by simpa[ks,al]using hk)⟩
      | succ i=>
        obtain⟨h1,ad⟩:=bJ i q lf qN
        exact⟨by simpa[ks,al]using h1,λk hk=>by have:=ad k (by simpa[ks,al]using hk);simpa[ks,al]using this⟩
    | some p=>
      simp only[ks,al,dO,zr]at hq
      simp only[ks,al]at aI
      obtain⟨hp,qN⟩:=lQ.1 aI
      cases i with
      |zero=>exact⟨by simp only[List.set_cons_zero,ks];exact lQ.2 ⟨hq.2,qN⟩,λk hk=>by
       simp only[List.set_cons_zero,ks,dO]at hk;rcases hk with rfl|hk
       ·exact .inl I
       exact .inr (by simp[ks,al,hk])⟩
      | succ i=>
        obtain⟨h1,ad⟩:=bJ i q hq.2 qN
        refine⟨?_,λk hk=>?_⟩
        ·simp only[List.set_cons_succ,ks,al]
         refine lQ.2 ⟨λhm=>?_,h1⟩
         rcases ad p hm with e|Dl
         ·exact hq.1 e.symm
         exact hp Dl
        simp only[List.set_cons_succ,ks,al,dO]at hk
        rcases hk with rfl|hk
        ·exact .inr (by simp[ks,al])
        rcases ad k hk with e|Dl
        ·exact .inl e
        exact .inr (by simp[ks,al,Dl])
 exact(key L i _ si h.nodup).1
def PK{α:Type}[ah α]{A W}{cs ds:aa bl}{xs:aa α}{T cap:Nat}(h:hf A W cs xs)(cy:ds.length=(cap-xs.length)*ah.size α)(aI:xs.length<=cap)(hm:cap<=maxLen){arr:Array bl}(a7:arr.toList=cs++ds):
 (dr.row T xs cap).holds A W (.cells arr T (0,0)):=by
 refine⟨arr,rfl,?_,aI,hm,?_⟩
 ·have:arr.size=(cs++ds).length:=by rw[<-a7];simp
  rw[this,fh,h.1,cy,<-nh];congr 1;omega
 rw[a7,<-h.1,IX];exact h
def ae.app{α:Type}[ah α]{rest:aa Oper}{a1 i e bytes cap:Nat}{key:aw Nat}{xs ys r:aa α}{z:α}(hu:c.P.underlying t=some (.slice e))(ez:bK c.P e α)(gL:c4 c.P e z)
 (AR:(c.P.info? e).map (·.bytes)=some bytes) (hs:aP c E L x (.eq (aO key xs.length cap))) (av:L[i]? =some ⟨key,.row e xs cap⟩) (hy:aP c E L y (.of ys)) (h:eh bytes xs ys=some r) (aI:Nat.blt a1 c.n=true)
 (k:∀tg cap',ae c ops Q rest ((a1,.eq (aO tg r.length cap'))::E) (L.set i ⟨tg,.row e r cap'⟩)):
 ae c ops Q (⟨some a1,.call ⟨.builtin .append,#[x,y],#[t,t]⟩,ty,pos,af,none⟩::rest) E L:=λa W s=>by
 obtain⟨tp,ry,rfl⟩:=VO h
 obtain⟨gD,dR,dX,cy,uY⟩:=gL.zero
 have pN:gD.size=ah.size α:=by
  obtain⟨i2,h1,ad⟩:=ez.info;rw[dX]at h1;cases h1;exact ad
 have Qe:gD.bytes=bytes:=by simpa[dX]using AR
 have AS:dR.cells.size=ah.size α:=by have:=ah.len (uY [] W).2;simpa using this
 subst Qe
 have h1:a.eval x=_:=hs a W s
 have aU:=s.own _ (eo av)
 have jx:a1<c.n:=by simpa using aI
 have sy:=(pB.1 (hy a W s)).cells
 have tq:maxLen=9223372036854775807:=rfl
 have main:∃tg cap' W',(Builtin.append_ #[t,t] ty #[a.eval x,a.eval y]).run c.P W=.ok (aO tg (xs++ys).length cap') W'∧bG c E (L.set i ⟨tg,.row e (xs++ys) cap'⟩) a W':=by
  cases key with
  | none=>
    obtain⟨Ma,p1⟩:xs=[]∧cap=0:=aU
    subst Ma
    subst p1
    have CJ:L.set i ⟨none,.row e ([]:aa α) 0⟩=L:=by
     obtain⟨b9,he⟩:=fL.1 av;rw[<-he];exact TK b9
    rcases sy with⟨ba,rfl⟩|⟨b,off,cp,news,ba,uZ,Lc,Dm,gS⟩
    ·refine⟨none,0,W,?_,by simpa[CJ]using s⟩
     simp[h1,ba,aO,Builtin.append_,dL hu,Go.sizeOf,typeInfo,dX,Builtin.lenOf,Builtin.firstCells]
    by_cases hm:ys.length=0
    ·have:ys=[]:=DP hm
     subst this
     refine⟨none,0,W,?_,by simpa[CJ]using s⟩
     simp[h1,ba,aO,Builtin.append_,dL hu,Go.sizeOf,typeInfo,dX,Builtin.lenOf,Builtin.firstCells,loadCells,loadCellsFrom]
    simp only[List.length_nil,h7]at tp ry
    have aD:=run_append_nil (P:=c.P) W t ty e gD dR hu dX cy ⟨b,off,none⟩ ys.length cp news (by rw[pN];exact uZ) Lc (by omega) (by omega) (by omega)
    refine⟨some W.heap.size,grownCap W ys.length 0 e,_,by rw[h1,ba];simpa[aO]using aD,?_⟩
    have wB:=grownCap_ge W ys.length 0 e
    have hle:=grownCap_le_maxLen W ys.length 0 e ry
    have:=(s.world (Fr.drew W)).grow av (o:=.cells (news.toArray++Builtin.zeroCells dR.cells (grownCap W ys.length 0 e-ys.length)) e) (cp:=.row e ([]++ys) (grownCap W ys.length 0 e))
     (PK (T:=e) (gS.mono (Ext.dk (Fr.drew W))) (ds:=(Builtin.zeroCells dR.cells (grownCap W ys.length 0 e-ys.length)).toList) (by rw[Array.length_toList,size_zeroCells,AS]) wB hle (by simp))
    simpa using this
  | some p=>
    obtain⟨l4,e3,cs,rfl,dK,abe,AJ,Mb⟩:=aU
    have h0:a.eval x=.slice (some ⟨p,0,none⟩) xs.length cap:=h1
    rcases sy with⟨ba,rfl⟩|⟨b,off,cp,news,ba,uZ,Lc,Dm,gS⟩
    ·refine⟨some p,cap,W,?_,?_⟩
     ·simp[h0,ba,aO,Builtin.append_,dL hu,Go.sizeOf,typeInfo,dX,Builtin.lenOf,Builtin.firstCells,storeCells,abe]
     have:L.set i ⟨some p,.row e (xs++[]) cap⟩=L:=by
      obtain⟨b9,he⟩:=fL.1 av;rw[ma,<-he];exact TK b9
     rw[this];exact s
    by_cases CE:xs.length+ys.length<=cap
    ·have LD:xs.length*gD.size+news.length<=cs.size:=by rw[pN,uZ,dK,<-nh];exact hi _ CE
     have aD:=run_append_room (P:=c.P) W t ty e gD hu dX p xs.length cap cs e3 ⟨b,off,none⟩ ys.length cp news (by rw[pN];exact uZ) Lc Dm CE LD
     refine⟨some p,cap,_,by rw[h0,ba];simpa[aO]using aD,?_⟩
     refine s.store av e3 ⟨_,rfl,?_,by simpa using CE,AJ,?_⟩
     ·simp only[Eh,fh,fy,ku,Array.length_toList];omega
     have ao:(cs.toList.take (xs.length*gD.size)).length=xs.length*ah.size α:=by rw[pN];exact Mb.1
     have C2:=xj Mb gS
     rw[pN]
     have hlen:(xs++ys).length*ah.size α=(cs.toList.take (xs.length*ah.size α)++news).length:=by rw[C2.1]
     have HS:((cs.toList.take (xs.length*ah.size α)++news++cs.toList.drop (xs.length*ah.size α+news.length)).toArray).toList.take ((xs++ys).length*ah.size α)=cs.toList.take (xs.length*ah.size α)++news:=by
      rw[hlen];exact IX
     rw[jn]at HS
     rw[HS]
     exact C2
    have holds:∀(j:Nat) u,(cs.toList.take (xs.length*ah.size α))[j]? =some u->W.cell? ((⟨p,0,none⟩:Addr).add j)=some u:=by
     intro j u oD;rw[jR]at oD;split at oD
     ·rw[kI,h7,E8 W p j cs e (0,0) e3];simpa using oD
     cases oD
    have aD:=run_append_grow (P:=c.P) W t ty e gD dR hu dX cy ⟨p,0,none⟩ xs.length cap _ (by rw[pN];exact Mb.1) holds ⟨b,off,none⟩ ys.length cp news (by rw[pN];exact uZ) Lc (by omega) (by omega) (growslice_fits (by omega) tp)
    have wB:=grownCap_ge W (xs.length+ys.length) cap e
    have hle:=grownCap_le_maxLen W (xs.length+ys.length) cap e ry
    refine⟨some W.heap.size,grownCap W (xs.length+ys.length) cap e,_,by rw[h0,ba];simpa[aO]using aD,?_⟩
    have C2:=(xj Mb gS).mono (Ext.dk (Fr.drew W))
    have:=(s.world (Fr.drew W)).grow av (o:=.cells ((cs.toList.take (xs.length*ah.size α)).toArray++news.toArray++Builtin.zeroCells dR.cells (grownCap W (xs.length+ys.length) cap e-(xs.length+ys.length))) e)
     (cp:=.row e (xs++ys) (grownCap W (xs.length+ys.length) cap e))
     (PK (T:=e) C2 (ds:=(Builtin.zeroCells dR.cells (grownCap W (xs.length+ys.length) cap e-(xs.length+ys.length))).toList) (by rw[Array.length_toList,size_zeroCells,AS,fh]) (by rw[fh];exact wB) hle (by simp))
    simpa using this
 obtain⟨tg,cap',W',jt,cD⟩:=main
 refine iw I (R:=λv h5=>v=aO tg (xs++ys).length cap'∧h5=W') (.mK ?_ ⟨rfl,rfl⟩) λv h5 ⟨ba,hw⟩=>?_
 ·simp only[execOp,resolve,invoke,builtin,dI,Sem.run_pure,Result.andThen_ok]
  have au:(#[x,y]:Array bZ).map a.eval= #[a.eval x,a.eval y]:=by simp
  rw[au,jt]
  rfl
 subst ba
 subst hw
 exact k tg cap' _ _ (cD.put jx I)
inductive o0(c:cj)(E:List (Nat×J))(L:List aE){α:Type}[ah α]:List α->List (Nat×Operand)->List α->Prop
 |nil {b}:o0 c E L b [] b
 |cons {b b':List α} {v:α} {i:Nat} {x:Operand} {r:List (Nat×Operand)}:i<b.length->aP c E L x (.of v)->o0 c E L (b.set i v) r b'->o0 c E L b ((i,x)::r) b'
def o0.run{α:Type}[ah α]{b b':aa α}{bt:aa (Nat×bZ)}(h:o0 c E L b bt b'):∀a W,bG c E L a W->∀cs:Array bl,hf (ks L++c.bP) W cs.toList b->
 ∃dT,Instr.fill (λi=>some (i*ah.size α,ah.size α)) cs (bt.map λ(i,x)=>(i,a.eval x))=some dT∧hf (ks L++c.bP) W dT.toList b'∧b'.length=b.length:=by
 induction h with
 |nil=>intro a W s cs aD;exact⟨cs,rfl,aD,rfl⟩
 | @cons b b' v i x r ax ad _ bJ=>
   intro a W s cs aD
   have ba:=ad a W s
   have dK:(a.eval x).cells.size=ah.size α:=by have:=ah.len ba.2;simpa using this
   have ao:=aD.1
   have hle:(i+1)*ah.size α<=b.length*ah.size α:=hi _ ax
   rw[rO]at hle
   rw[mb,Kd I dK (by simp at ao;omega)]
   obtain⟨dT,ay,aR,aX⟩:=bJ a W s (gO cs.toList (i*ah.size α) (a.eval x).cells.toList).toArray (by
    have:=Ph aD ax ba.2;simpa[gO,ah.len ba.2]using this)
   exact⟨dT,ay,aR,by rw[aX,vk]⟩
def Fz{α:Type}[ah α]{A W}{z:α}{dR:bl}(h:(J.of z).holds A W dR)(n:Nat)(hs:ah.size α≠0):hf A W ((Array.range (n*ah.size α)).map (dR.cells[· % dR.cells.size]!)).toList (List.replicate n z):=by
 have ao:dR.cells.size=ah.size α:=by have:=ah.len h.2;simpa using this
 have hp:0<ah.size α:=Eb hs;refine⟨by simp,λi ax=>?_⟩;have hv:i<n:=by simpa using ax
 have hle:(i+1)*ah.size α<=n*ah.size α:=hi _ hv;rw[rO]at hle;have:((((Array.range (n*ah.size α)).map (dR.cells[· % dR.cells.size]!)).toList.drop (i*ah.size α)).take (ah.size α))=dR.cells.toList:=by
  apply l9;intro j;rw[jR];split
  ·rename_i aC;rw[lp];have b9:i*ah.size α+j<n*ah.size α:=by omega
   have As:(i*ah.size α+j) % ah.size α=j:=by rw[rN,Nat.mul_add_mod];exact Np aC
   simp only[w2,Array.getElem?_map,Array.getElem?_range,b9,mc,Option.map_some,ao,As];rw[getElem!_pos dR.cells j (by omega)];simp[ao,aC]
  rename_i aC;symm;simp only[w2];exact TC (by omega)
 rw[this];simpa using h.2
def F4{α:Type}[ah α]{e n:Nat}{z:α}{r:aa α}{bt:aa (Nat×bZ)}(hu:c.P.underlying t=some (.slice e))(ez:bK c.P e α)(gL:c4 c.P e z)(hs:Nat.beq (ah.size α) 0=false)(aI:Nat.ble (n*ah.size α) 16777216=true)
 (aY:o0 c E L (List.replicate n z) bt r):bc c E L ⟨d,.buildSlice t n bt.toArray,ty,pos,af,g⟩ (.of r):=λa W s=>by
 obtain⟨gD,dR,dX,cy,uY⟩:=gL.zero
 have pN:gD.size=ah.size α:=by
  obtain⟨i2,h1,ad⟩:=ez.info;rw[dX]at h1;cases h1;exact ad
 have fJ:ah.size α≠0:=λh=>by rw[h]at hs;cases hs
 have tz:=Fz (uY (ks L++c.bP) W) n fJ
 obtain⟨dT,ay,aR,aX⟩:=aY.run a W s _ tz
 have hlen:r.length=n:=by rw[aX];simp
 have hm:(bt.toArray.map λ(x:Nat×bZ)=>(x.1,a.eval x.2)).toList=bt.map λ(i,x)=>(i,a.eval x):=by simp
 have aoi:=oO aI
 refine .mK (v:=.slice (some ⟨W.heap.size,0,none⟩) n n) (W':=W.alloc (.cells dT e)) ?_ ⟨Fr.alloc W _,pB.2 ?_⟩
 ·simp only[execOp,Instr.buildSlice,dI,dL hu,Result.andThen_ok,Go.sizeOf,typeInfo,run_program,dX,Sem.run_pure,pN]
  rw[bn (by omega)]
  try simp only[Sem.run_pure,Result.andThen_ok,dI]
  by_cases bu:n*ah.size α=0
  ·have uX:n=0:=by
    rcases Nat.mul_eq_zero.1 bu with h|h
    ·exact h
    exact absurd h fJ
   subst uX
   simp only[zg,mc,Sem.run_pure,Result.andThen_ok]
   try simp only[zg]at ay
   have hC:((Array.range 0).map (λx=>(#[]:Array bl)[x % (#[]:Array bl).size]!))=((Array.range 0).map (dR.cells[· % dR.cells.size]!)):=by simp
   simp only[pure_bind]
   rw[hC,hm,ay]
   simp[newRow]
  simp only[bu,ot,dI,zeroValue,typeInfo,run_program,Result.andThen_ok,dX,cy,Sem.run_pure]
  rw[hm,ay]
  simp[newRow]
 have gR:Ext (ks L++c.bP) W (ks L++c.bP) (W.alloc (.cells dT e)):=Ext.dk (Fr.alloc W _)
 refine .inr ⟨W.heap.size,0,n,dT,e,(0,0),by rw[hlen],λC3=>I6 _ (s.FV _ C3),XD W _,by omega,?_,?_,?_⟩
 ·have:r.length*1<=n*ah.size α:=by rw[hlen];exact Is _ (by omega)
  have:maxLen=9223372036854775807:=rfl
  omega
 ·have:=aR.1;simp at this;omega
 have bh:=aR.1
 rw[vn,<-bh,nf]
 exact aR.mono gR
end
def zJ{cs:aa bl}{o s:Nat}{u:bl}(h:u∈cs.drop o):u∈(cs.drop o).take s∨u∈cs.drop (o+s):=by
 rw[<-gb s (cs.drop o)]at h;rcases ca.1 h with h|h
 ·exact .inl h
 rw[EN]at h;exact .inr h
def PL{cs:aa bl}{n o:Nat}{u:bl}{p:Prop}(ao:cs.length=n)(aU:o=n)(h:u∈cs.drop o):p:=by
 rw[DX (by omega)]at h;cases h
def ajh{cs ds:aa bl}{o s n:Nat}(ao:cs.length=n)(hd:ds.length=s)(h:o+s<=n):(cs.take o++ds++cs.drop (o+s)).length=n:=by
 simp only[fh,fy,ku];omega
def W7{cs ds:aa bl}{o s n:Nat}(ao:cs.length=n)(hd:ds.length=s)(h:o+s<=n):((cs.take o++ds++cs.drop (o+s)).drop o).take s=ds:=by
 have h1:(cs.take o).length=o:=by simp;omega
 rw[jn,Nj,h1,DX (by omega),List.nil_append,Nat.sub_self,vn,Bj (by omega),sF (by omega)]
def Pj{cs ds:aa bl}{o s n cc s2:Nat}(ao:cs.length=n)(hd:ds.length=s)(h:o+s<=n)(cX:cc+s2<=o∨o+s<=cc):((cs.take o++ds++cs.drop (o+s)).drop cc).take s2=(cs.drop cc).take s2:=by
 apply l9;intro i;simp only[jR,lp];split
 ·rename_i ax;simp only[M7,fh,fy,jR,lp];have h1:min o cs.length=o:=by omega
  rw[h1,hd];rcases cX with ad|ad
  ·rw[br (by omega),br (by omega),br (by omega)]
  rw[bn (by omega)];congr 1;omega
 rfl
structure yo(P:Type)where
 size:Nat
 rep:List Nat->World->List Value->Nat->P->Prop
 one:∀{A W cs o x n},rep A W cs o x->cs.length=n->o+size=n->∀u∈cs.drop o,u.oneCell'=true
 mono:∀{A W cE W' cs o x},Ext A W cE W'->rep A W cs o x->rep cE W' cs o x
 sc:∀{A W cs o x n ds p s},rep A W cs o x->cs.length=n->ds.length=s->p+s<=n->p+s<=o->rep A W (cs.take p++ds++cs.drop (p+s)) o x
@[reducible] def fZ (B:Type) [ah B]:yo B where
  size:=ah.size B
  rep A W cs o x:=ah.rep A W ((cs.drop o).take (ah.size B)) x
  one h ao aU u hu:=by
   rcases zJ (s:=ah.size B) hu with h1|bu
   ·exact ah.one h u h1
   exact PL ao aU bu
  mono e h:=ah.mono e h
  sc h ao hd aI hp:=by rw[Pj ao hd aI (.inr hp)];exact h
@[reducible] def cL (B:Type) [ah B] {P:Type} (S:yo P):yo (B×P)where
  size:=ah.size B+S.size
  rep A W cs o x:=ah.rep A W ((cs.drop o).take (ah.size B)) x.1∧S.rep A W cs (o+ah.size B) x.2
  one h ao aU u hu:=by
   rcases zJ (s:=ah.size B) hu with h1|bu
   ·exact ah.one h.1 u h1
   exact S.one h.2 ao (by omega) u bu
  mono e h:=⟨ah.mono e h.1,S.mono e h.2⟩
  sc h ao hd aI hp:=⟨by rw[Pj ao hd aI (.inr hp)];exact h.1,S.sc h.2 ao hd aI (by omega)⟩
@[reducible] def ah.str {T P:Type} (S:yo P) (to:T->P) (N:Nat) (jx:S.size=N:=by rfl):ah T where
  size:=N
  agg:=true
  rep A W cs x:=cs.length=N∧S.rep A W cs 0 (to x)
  len h:=h.1
  one h:=λu hu=>S.one h.2 h.1 (by omega) u (by simpa using hu)
  flat h:=by cases h
  mono e h:=⟨h.1,S.mono e h.2⟩
structure Hd{P:Type}(S:yo P)(G:Type)[ah G]where
 off:Nat
 get:P->G
 set:P->G->P
 gV:off+ah.size G<=S.size
 jF:∀{A W cs o b},S.rep A W cs o b->ah.rep A W ((cs.drop (o+off)).take (ah.size G)) (get b)
 nS:∀{A W cs n o b ds g},cs.length=n->o+S.size<=n->S.rep A W cs o b->ah.rep A W ds g->S.rep A W (cs.take (o+off)++ds++cs.drop (o+off+ah.size G)) o (set b g)
def gm{B:Type}[ah B]:Hd (fZ B) B where
 off:=0
 get b:=b
 set _ g:=g
 gV:=by show 0+ah.size B<=ah.size B;omega
 jF h:=h
 nS ao aU _ bF:=by
  have h:=W7 ao (ah.len bF) aU;show ah.rep _ _ ((List.drop _ _).take _) _;rw[Nat.add_zero,h];exact bF
def cR{B:Type}[ah B]{P:Type}{S:yo P}:Hd (cL B S) B where
 off:=0
 get b:=b.1
 set b g:=(g,b.2)
 gV:=by show 0+ah.size B<=ah.size B+S.size;omega
 jF h:=h.1
 nS {A W cs n o b ds g} ao aU h bF:=by
  have aU:o+(ah.size B+S.size)<=n:=aU;refine⟨?_,S.sc h.2 ao (ah.len bF) (by omega) (by omega)⟩;rw[Nat.add_zero,W7 ao (ah.len bF) (by omega)];exact bF
def bm{B:Type}[ah B]{P:Type}{S:yo P}{G:Type}[ah G](l:Hd S G):Hd (cL B S) G where
 off:=ah.size B+l.off
 get b:=l.get b.2
 set b g:=(b.1,l.set b.2 g)
 gV:=by have:=l.gV;show ah.size B+l.off+ah.size G<=ah.size B+S.size;omega
 jF h:=by rw[<-I5];exact l.jF h.2
 nS {A W cs n o b ds g} ao aU h bF:=by
  have aU:o+(ah.size B+S.size)<=n:=aU;have ax:=l.gV;have ad:=l.nS ao (by omega) h.2 bF;rw[I5 o]at ad;exact⟨by rw[Pj ao (ah.len bF) (by omega) (.inl (by omega))];exact h.1,ad⟩
@[reducible] def aN.str {T P G:Type} [ah G] {S:yo P} {to:T->P} {N:Nat} (l:Hd S G) (off:Nat) (get:T->G) (set:T->G->T) (jx:S.size=N:=by rfl) (aU:l.off=off:=by rfl) (h1:∀b,l.get (to b)=get b:=by intro b;rfl) (ad:∀b g,l.set (to b) g=to (set b g):=by intro b g;rfl): @aN T G (ah.str S to N jx) _:=
  @aN.mk T G (ah.str S to N jx) _ off get set (by have:=l.gV;show off+ah.size G<=N;omega)
   (λ{A W cs b} h=>by have:=l.jF h.2;rw[h7,aU,h1]at this;exact this)
   (λ{A W cs b ds g} h bF=>by
    have ay:=l.nS h.1 (by omega) h.2 bF;rw[h7,aU,ad]at ay;have aR:=l.gV;exact⟨ajh h.1 (ah.len bF) (by omega),ay⟩)
class aT (α:Type) [ah α] [Inhabited α]where
 cells:aa bl
 ok:∀A W,ah.rep A W cells (default:α)
instance:aT Bool:=⟨[.bool false],λ_ _=>rfl⟩
instance:aT Int:=⟨[.int .i64 0],λ_ _=>rfl⟩
instance:aT (BitVec 64):=⟨[.int .u64 0],λ_ _=>rfl⟩
instance:aT (BitVec 32):=⟨[.int .u32 0],λ_ _=>rfl⟩
instance:aT (BitVec 16):=⟨[.int .u16 0],λ_ _=>rfl⟩
instance:aT (BitVec 8):=⟨[.int .u8 0],λ_ _=>rfl⟩
instance:aT ByteArray:=⟨[.string ByteArray.empty],λ_ _=>rfl⟩
instance{α:Type}[ah α]:aT (aa α):=⟨[.slice none 0 0],λ_ _=>⟨_,rfl,.inl ⟨rfl,rfl⟩⟩⟩
def Wf{α:Type}[ah α]{A W}{Bc:aa bl}{z:α}(h:ah.rep A W Bc z):∀n,hf A W (List.replicate n Bc).flatten (List.replicate n z)
 |0=>⟨by simp,λi ax=>by simp at ax⟩
 | n+1=>by
   have h1:=Wf h n;have ad:hf A W Bc [z]:=⟨by simp[ah.len h],λi ax=>by
    have:i=0:=by simpa using ax
    subst this;rw[zg,vn,<-ah.len h,nf];exact h⟩
   have:=xj ad h1;simpa[List.replicate_succ]using this
instance{α:Type}[ah α][Inhabited α][aT α]{n:Nat}:aT (Vector α n):=⟨(List.replicate n (aT.cells α)).flatten,λA W=>by
 have:=Wf (aT.ok (α:=α) A W) n;show hf A W _ (Vector.replicate n default).toList;simpa using this⟩
def LF(α:Type)[ah α][Inhabited α][aT α]:bl:=if ah.agg α=true then .agg (aT.cells α).toArray else(aT.cells α).headD undef
theorem c4.of{P:Program}{t:bx}{α:Type}[ah α][Inhabited α][aT α](h:(P.info? t).bind (·.zero)=some (LF α)):c4 P t (default:α)where
 zero:=by
  cases ax:P.info? t with
  |none=>simp[ax]at h
  | some i=>
    refine⟨i,LF α,rfl,by simpa[ax]using h,λA W=>?_⟩
    have ok:=aT.ok (α:=α) A W
    unfold LF
    cases a7:ah.agg α with
    |true=>simp only[mc];exact⟨by simp[shaped,a7],by simpa[Value.cells]using ok⟩
    | false=>
      have h1:=ah.len ok
      rw[ah.flat a7]at h1
      obtain⟨v,ba⟩:=TF.1 h1
      have ay:v.oneCell'=true:=ah.one ok v (by rw[ba];simp)
      simp only[rK,ot,ba,List.headD_cons]
      exact⟨by simp[shaped,a7,ay],by rw[cells_one ay];rw[ba]at ok;exact ok⟩
theorem bK.of{P:Program}{t:bx}{α:Type}[ah α]{d:TypeDesc}(a7:(match d with | .struct _| .array _ _=>true|_=>false)=ah.agg α)(hu:P.underlying t=some d)(hs:(P.info? t).map (·.size)=some (ah.size α)):bK P t α:=⟨hs,d,hu,a7⟩
def wx.of{P:Program}{s f o:Nat}{fs:Array Field}{fd:Field}{γ:Type}[ah γ](hu:P.underlying s=some (.struct fs))(aY:fs[f]? =some fd)(aU:fd.offset=o)(dQ:bK P fd.type γ)(hs:Nat.beq (ah.size γ) 0=false):wx P s f o:=by
 obtain⟨i,h1,ad⟩:=dQ.info;exact⟨fs,fd,i,hu,aY,aU,h1,λh=>by rw[<-ad,h]at hs;cases hs⟩
theorem pq.of{P:Program}{t n e s:Nat}{γ:Type}[ah γ](hu:P.underlying t=some (.array n e))(dQ:bK P e γ)(hs:ah.size γ=s):pq P t n s:=by
 obtain⟨i,h1,ad⟩:=dQ.info;exact⟨e,i,hu,h1,by rw[ad,hs]⟩
def bind_some{α β:Type}{m:aw α}{f:α->aw β}{r:β}(h:m.bind f=some r):∃y,m=some y∧f y=some r:=TB.1 h
def e1{α:Type}{b:Bool}{p q:aw α}{r:α}(hb:b=true)(h:cond b p q=some r):p=some r:=by rw[hb]at h;exact h
def e2{α:Type}{b:Bool}{p q:aw α}{r:α}(hb:b=false)(h:cond b p q=some r):q=some r:=by rw[hb]at h;exact h
def cZ{α:Type}{a b:α}(h:some a=some b):a=b:=uc h
def cb{α:Type}[Inhabited α](b want:Bool)(m:aw α):aw α:=if b=want then m else some default
def fz{α:Type}[Inhabited α]{b want:Bool}{m:aw α}{y:α}(h:cb b want m=some y)(hb:b=want):m=some y:=by unfold cb at h;rw[br hb]at h;exact h
def c9:Nat:=2^80
def bG.r2{c E L a W}(h:bG c E L a W)(n:Nat):bG c E (L.drop n) a W:=
 h.sub (fun e he=>Bs he) (by
   have:(ks (L.drop n)).Sublist (ks L):=by
    induction L generalizing n with
    |nil=>simp
    | cons x r bJ=>
      cases n with
      |zero=>simp
      | succ n=>
        have aD:∀n,(ks (r.drop n)).Sublist (ks r):=by
         intro n;have key:∀(r:aa aE) n,(ks (r.drop n)).Sublist (ks r):=by
          intro r;induction r with
          |nil=>intro n;simp
          | cons y r abf=>
            intro n
            cases n with
            |zero=>simp
            | succ n=>
              simp only[TX]
              cases hk:y.key with
              |none=>simpa[ks,hk]using abf n
              |some p=>simp only[ks,hk];exact(abf n).cons _
         exact key r n
        simp only[TX]
        cases hk:x.key with
        |none=>simpa[ks,hk]using aD n
        |some p=>simp only[ks,hk];exact(aD n).cons _
   exact h.nodup.sublist this)
section
variable{c:cj}{E:aa (Nat×J)}{L:aa aE}{ops:Array Oper}{Q:Exit->Act->bf->Prop}
def ei(Q:Exit->Act->bf->Prop):Exit->Act->bf->Prop:=Q
def az.cb{γ:Type}{x:bZ}{b:Bool}{y z:Code}(E':γ->aa (Nat×J))(L':γ->aa aE)(ao:aP c E L x (.of b))(oJ:∀g,ar c Q .normal (E' g) (L' g))
 (bw:(∀g,ar c (ei Q) .normal (E' g) (L' g))->b=true->az c (ei Q) y E L) (aY:(∀g,ar c (ei Q) .normal (E' g) (L' g))->b=false->az c (ei Q) z E L):az c Q (.cond x y z) E L:=
 az.cond ao (bw oJ) (aY oJ)
def ar.meet{x:Exit}{E':aa (Nat×J)}{L':aa aE}(n:Nat)(av:L.drop n=L')(h:eN E E')(k:ar c Q x E' L'):ar c Q x E L:=λa W s=>k a W (by rw[<-av];exact(s.r2 n).less h.look)
def fl{σ ε γ δ:Type}(c:cj)(E:σ->γ->aa (Nat×J))(L:σ->γ->aa aE)(xs:ε->Exit)(eu:ε->δ->aa (Nat×J))(Lx:ε->δ->aa aE):σ⊕ε->Exit->Act->bf->Prop
 | .inl s,x,a,W=>x=.normal∧∃g,bG c (E s g) (L s g) a W
 | .inr e,x,a,W=>x≠ .normal∧x=xs e∧∃g,bG c (eu e g) (Lx e g) a W
def ar.Xv{σ ε γ δ:Type}{E':σ->γ->aa (Nat×J)}{L':σ->γ->aa aE}{xs:ε->Exit}{eu:ε->δ->aa (Nat×J)}{Lx:ε->δ->aa aE}{s:σ}(g:γ)(n:Nat)
 (av:L.drop n=L' s g) (h:eN E (E' s g)):ar c (fl c E' L' xs eu Lx (.inl s)) .normal E L:=λa W st=>⟨rfl,g,by rw[<-av];exact(st.r2 n).less h.look⟩
def ar.Xw{σ ε γ δ:Type}{E':σ->γ->aa (Nat×J)}{L':σ->γ->aa aE}{xs:ε->Exit}{eu:ε->δ->aa (Nat×J)}{Lx:ε->δ->aa aE}{e:ε}{x:Exit}(g:δ)(n:Nat)
 (al:x=xs e) (aI:x≠ .normal) (av:L.drop n=Lx e g) (h:eN E (eu e g)):ar c (fl c E' L' xs eu Lx (.inr e)) x E L:=λa W st=>⟨aI,al,g,by rw[<-av];exact(st.r2 n).less h.look⟩
def az.K2{σ ε γ δ:Type}{body:Code}{N:Nat}{b:σ->aw (σ⊕ε)}{s0:σ}{e:ε}(ao:di N b s0=some e)
 (E':σ->γ->aa (Nat×J)) (L':σ->γ->aa aE) (xs:ε->Exit) (eu:ε->δ->aa (Nat×J)) (Lx:ε->δ->aa aE) (g0:γ) (av:L=L' s0 g0) (aM:eN E (E' s0 g0))
 (s8:∀s r,b s=some r->∀g,az c (fl c E' L' xs eu Lx r) body (E' s g) (L' s g))
 (pE:∀g,ar c Q (xs e) (eu e g) (Lx e g)):az c Q (.loop body) E L:=λa W st=>by
 subst av
 exact agh b (λs a W=> ∃g,bG c (E' s g) (L' s g) a W) (λe x a W=>x=xs e∧∃g,bG c (eu e g) (Lx e g) a W)
  (λs r hs a W ⟨g,pn⟩=>wpIn_mono (s8 s r hs g a W pn) (λx a W h=>by
   cases r with
   |inl b0=>exact h
   |inr e'=>exact⟨h.1,h.2⟩)) Q e (λx a W ⟨al,g,hs⟩=>by subst al;exact pE g a W hs) ao ⟨g0,st.less aM.look⟩
end
def bc.tL{c E L o}{α:Type}[ah α]{a b:α}(h:bc c E L o (.of a))(e:a=b):bc c E L o (.of b):=by subst e;exact h
def J.tl{α β:Type}[ah α][ah β](P:Program)(F:α->aw β):J where
 holds A W v:=∃f fst cap,v=.func (.func f) fst cap∧bD P f∧∀cE W',Ext A W cE W'->(∀k∈cE,k<W'.heap.size)->∀x r oe,F x=some r->(J.of x).holds cE W' oe->
  Calls P f (fst++ #[oe]++cap) W' λe tA=> ∃v,e=.returned v∧Fr [] W' tA∧(J.of r).holds cE tA v
 mono e h:=let⟨f,fst,cap,h1,ad,ay⟩:=h; ⟨f,fst,cap,h1,ad,λcE W' e'=>ay cE W' (e.trans e')⟩
def J.AE{α β γ:Type}[ah α][ah β][ah γ](P:Program)(F:α->β->aw γ):J where
 holds A W v:=∃f fst cap,v=.func (.func f) fst cap∧bD P f∧∀cE W',Ext A W cE W'->(∀k∈cE,k<W'.heap.size)->∀x y r oe tM,F x y=some r->(J.of x).holds cE W' oe->(J.of y).holds cE W' tM->
  Calls P f (fst++ #[oe,tM]++cap) W' λe tA=> ∃v,e=.returned v∧Fr [] W' tA∧(J.of r).holds cE tA v
 mono e h:=let⟨f,fst,cap,h1,ad,ay⟩:=h; ⟨f,fst,cap,h1,ad,λcE W' e'=>ay cE W' (e.trans e')⟩
section
variable{c:cj}{E:aa (Nat×J)}{L:aa aE}{d:aw Tmp}{ty:bx}{pos:String}{af:Array Edge}{g:aw (Nat×Bool)}
def Wa{α β:Type}[ah α][ah β]{F:α->aw β}{f:FuncId}(cf:bD c.P f)(h:∀x r,F x=some r->cm c.P f [.of x] (.of r)):aP c E L (.func f) (.tl c.P F):=λa W s=>
 ⟨f,#[],#[],rfl,cf,λcE W' _ ev x r oe lO al=>by simpa using h x r lO cE W' [oe] ev (.cons al .nil)⟩
def Wd{α β γ:Type}[ah α][ah β][ah γ]{F:α->β->aw γ}{f:FuncId}(cf:bD c.P f)(h:∀x y r,F x y=some r->cm c.P f [.of x,.of y] (.of r)):aP c E L (.func f) (.AE c.P F):=λa W s=>
 ⟨f,#[],#[],rfl,cf,λcE W' _ ev x y r oe tM lO al hy=>by simpa using h x y r lO cE W' [oe,tM] ev (.cons al (.cons hy .nil))⟩
def zB{α β:Type}[ah α][ah β]{F:α->aw β}{ll x:bZ}{ats:Array bx}{HT:α}{r:β}(aY:aP c E L ll (.tl c.P F))(al:aP c E L x (.of HT))(h:F HT=some r):
 bc c E L ⟨d,.call ⟨.value ll,#[x],ats⟩,ty,pos,af,g⟩ (.of r):=λa W s=>by
 obtain⟨f,fst,cap,h1,cf,ad⟩:=aY a W s
 refine .vE (f:=f) (args:=fst++ #[a.eval x]++cap) (W':=W) ?_ (ad _ W (Ext.refl _ _) s.FV _ _ _ h (al a W s))
 simp[execOp,resolve,Deferred.ofValue,h1,invoke,cf.run]
def Kc{α β γ:Type}[ah α][ah β][ah γ]{F:α->β->aw γ}{ll x y:bZ}{ats:Array bx}{HT:α}{abW:β}{r:γ}(aY:aP c E L ll (.AE c.P F))(al:aP c E L x (.of HT))(hy:aP c E L y (.of abW))(h:F HT abW=some r):
 bc c E L ⟨d,.call ⟨.value ll,#[x,y],ats⟩,ty,pos,af,g⟩ (.of r):=λa W s=>by
 obtain⟨f,fst,cap,h1,cf,ad⟩:=aY a W s
 refine .vE (f:=f) (args:=fst++ #[a.eval x,a.eval y]++cap) (W':=W) ?_ (ad _ W (Ext.refl _ _) s.FV _ _ _ _ _ h (al a W s) (hy a W s))
 simp[execOp,resolve,Deferred.ofValue,h1,invoke,cf.run]
end
end Gv
namespace Gv
open Go Go.ChangeShapes Go.WideShapes Go.RowKit
structure Arg(P:Program)(t:TypeId)(α:Type)[ah α]:Prop where
 cells:P.cellsOf t=ah.size α
 read:∀{H:Type} {enc:TypeId×Value->H} {W:World} {n:Nat} {cs:List Value} {x:DataW H×List MemPlace},DataW.trod enc P W 0 (λ_=>true) true n t cs=some x->∃a:α,ah.rep [] W cs a
 form:∀{W:World} {b:Nat} {v:Value},Value.okWide P W .any b t v->shaped (ah.agg α) v
variable{P:Program}{t e:bx}
def agm(hu:P.underlying t=some .bool){H:Type}{enc:bx×bl->H}{W:bf}{n:Nat}{cs:aa bl}{x:DataW H×aa MemPlace}(h:DataW.trod enc P W 0 (λ_=>true) true n t cs=some x):
 ∃b:Bool,cs=[.bool b]:=by
 cases n with
 |zero=>simp[DataW.trod]at h
 | succ n=>
   unfold DataW.trod at h
   rw[hu]at h
   split at h <;> first|exact⟨_,rfl⟩|(simp at h)
   all_goals simp_all
def Arg.bool(hu:P.underlying t=some .bool)(ak:P.cellsOf t=1):Arg P t Bool where
 cells:=ak
 read {H enc W n cs x} h:=by
  obtain⟨b,rfl⟩:=agm hu h;exact⟨b,rfl⟩
 form {W b v} h:=by
  unfold Value.okWide Cell.okWide at h;simp only[hu]at h;unfold Cell.ok at h;rw[hu]at h;cases v <;> first|rfl|simp at h
def FE{k:IntKind}(hu:P.underlying t=some (.int k)){H:Type}{enc:bx×bl->H}{W:bf}{n:Nat}{cs:aa bl}{x:DataW H×aa MemPlace}(h:DataW.trod enc P W 0 (λ_=>true) true n t cs=some x):
 ∃z:Int,cs=[.int k z]∧k.min<=z∧z<=k.max:=by
 cases n with
 |zero=>simp[DataW.trod]at h
 | succ n=>
   unfold DataW.trod at h
   rw[hu]at h
   split at h <;> simp_all [Lit.wf]
def FF{k:IntKind}(hu:P.underlying t=some (.int k)){W:bf}{b:Nat}{v:bl}(h:Value.okWide P W .any b t v):v.oneCell'=true:=by
 unfold Value.okWide Cell.okWide at h;simp only[hu]at h;unfold Cell.ok at h;rw[hu]at h;cases v <;> first|rfl|simp at h
def Arg.int(hu:P.underlying t=some (.int .i64))(ak:P.cellsOf t=1):Arg P t Int where
 cells:=ak
 read h:=by obtain⟨z,rfl,_⟩:=FE hu h;exact⟨z,rfl⟩
 form h:=FF hu h
def Arg.u64(hu:P.underlying t=some (.int .u64))(ak:P.cellsOf t=1):Arg P t (BitVec 64)where
 cells:=ak
 read h:=by
  obtain⟨z,rfl,h1,ad⟩:=FE hu h;simp[IntKind.min,IntKind.max,IntKind.signed,IntKind.bits]at h1 ad;exact⟨BitVec.ofInt 64 z,by show [_]=[_];simp;omega⟩
 form h:=FF hu h
def Arg.u32(hu:P.underlying t=some (.int .u32))(ak:P.cellsOf t=1):Arg P t (BitVec 32)where
 cells:=ak
 read h:=by
  obtain⟨z,rfl,h1,ad⟩:=FE hu h;simp[IntKind.min,IntKind.max,IntKind.signed,IntKind.bits]at h1 ad;exact⟨BitVec.ofInt 32 z,by show [_]=[_];simp;omega⟩
 form h:=FF hu h
def Arg.u16(hu:P.underlying t=some (.int .u16))(ak:P.cellsOf t=1):Arg P t (BitVec 16)where
 cells:=ak
 read h:=by
  obtain⟨z,rfl,h1,ad⟩:=FE hu h;simp[IntKind.min,IntKind.max,IntKind.signed,IntKind.bits]at h1 ad;exact⟨BitVec.ofInt 16 z,by show [_]=[_];simp;omega⟩
 form h:=FF hu h
def Arg.u8(hu:P.underlying t=some (.int .u8))(ak:P.cellsOf t=1):Arg P t (BitVec 8)where
 cells:=ak
 read h:=by
  obtain⟨z,rfl,h1,ad⟩:=FE hu h;simp[IntKind.min,IntKind.max,IntKind.signed,IntKind.bits]at h1 ad;exact⟨BitVec.ofInt 8 z,by show [_]=[_];simp;omega⟩
 form h:=FF hu h
def ag0(hs:(∃fs,P.underlying t=some (.struct fs))∨(∃n e,P.underlying t=some (.array n e))){W:bf}{b:Nat}{v:bl}(h:Value.okWide P W .any b t v):shaped true v:=by
 unfold Value.okWide at h;rcases hs with⟨fs,hu⟩|⟨n,e,hu⟩ <;> rw[hu]at h <;> exact⟨h.choose,h.choose_spec.1⟩
def Arg.arr{α:Type}[ah α][Inhabited α]{n:Nat}(hu:P.underlying t=some (.array n e))(he:Arg P e α)(ak:P.cellsOf t=n*ah.size α):Arg P t (Vector α n)where
 cells:=ak
 read {H enc W m cs x} h:=by
  obtain⟨xs,q,_,_,ao,hlen,aY⟩:=DataW.trod_array hu h;have aD:∀i,i<n->∃a:α,ah.rep [] W ((cs.drop (i*ah.size α)).take (ah.size α)) a:=by
   intro i ax;have h1:=aY i ax;rw[qf (by omega)]at h1;rw[<-he.cells];exact he.read h1
  refine⟨Vector.ofFn λi=>(aD i.1 i.2).choose,by rw[ao,ak];simp,λi ax=>?_⟩;have hv:i<n:=by simpa using ax
  have:=(aD i hv).choose_spec;simpa using this
 form h:=ag0 (.inr ⟨_,_,hu⟩) h
def VP{H:Type}{enc:bx×bl->H}{W W':bf}(ao:laidOutB P=true){sp:Nat->Bool}:∀{cM:aa bx} {vs:aa bl} {ds:aa (DataW H)} {bt:aa MemPlace},
 (∀t∈cM,P.readableRec t=true∧t<P.types.size)->DataW.TrodAll enc P W 0 (λ_=>true) true cM vs ds bt->(∀p∈bt,W.sameAt W' p)->(∀p∈bt,sp p.block=true)->DataW.TrodAll enc P W' 0 sp true cM vs ds bt
 | [],_,_,_,_,h,_,_=>by
   obtain⟨rfl,rfl,rfl⟩:=trodAll_nil h;exact rfl
 | _::_,_,_,_,bw,h,hs,hp=>by
   obtain⟨v,RZ,d,R0,p,q,rfl,rfl,rfl,h1,ad⟩:=trodAll_cons h;have bu:=bw _ (ln ..);exact⟨p,q,WideElems.Trod_stays ao bu.1 bu.2 h1 (λx al=>hs x (by simp[al])) (λx al=>hp x (by simp[al])),
    VP ao (λt yk=>bw t (gd _ yk)) ad (λx al=>hs x (by simp[al])) (λx al=>hp x (by simp[al])),rfl⟩
def Fr.below{W W':bf}(h:Fr [] W W'):Below W.heap.size W W':=⟨h.os,h.tape,h.output,h.size,λk hk=>h.block k hk (by simp)⟩
def ag1{H:Type}{enc:bx×bl->H}{f:Func}{s:ChangeSpec}{W W':bf}{args:Array bl}{ds gs:aa (DataW H)}{before:aa MemPlace}{jl:bx}
 (ao:laidOutB P=true) (hp:∀t∈f.params.toList,P.readableRec t=true∧t<P.types.size) (aD:f.resultTypes= #[jl]) (hb:P.underlying jl=some .bool) (ba:s.vars=[])
 (hs:s.fn H ds= {results:=[.lit (.bool true)],args:=ds})
 (DG:DataW.Whole enc P f.params.toList s.vars false W args.toList ds gs before) (lO:Fr [] W W'):
 s.post enc P f false true false false W args (.bool true) W':=by
 have aqb:=DG
 obtain⟨p,q,ev,S2,rfl,cy,aI⟩:=aqb
 rw[ba]at S2
 obtain⟨rfl,rfl⟩:=trodVars_none S2
 have b9:∀x∈p,x.block<W.heap.size:=λx al=>DG.lt x (by simpa using al)
 have He:=lO.below
 have alJ:∀x∈p,W.sameAt W' x:=λx al=>He.same (b9 x al)
 have aoj:∀(b:Nat) (sp:Nat->Bool) (hd:Bool),DataW.TrodAll enc P W' b sp hd f.resultTypes.toList ((Value.bool true).resultList f.resultTypes.size) [.lit (.bool true)] []:=by
  intro b sp hd;rw[aD];exact⟨[],[],shut_bool hb true,rfl,rfl⟩
 refine⟨ds,[],p++[],[],p,[],DG,?_,?_,?_,World.keptBut_mono (λx al=>?_) (He.frame λ_=>False),λh=>by cases h⟩
 ·rw[ma,hs];exact aoj _ _ _
 ·rw[ma,hs];exact VP ao hp ev alJ (λx al=>by simpa using b9 x al)
 ·rw[ma,hs,ba];rfl
 exact al.elim
end Gv
namespace Gv
open Go Go.ChangeShapes Go.WideShapes Go.RowKit
def ag2{P:Program}{fits:bx->Bool}{d:Nat}{e:bx}{count off n:Nat}(h:rowAt P fits d e count off n=true):off<=count*P.cellsOf e:=by
 cases d with
 |zero=>cases h
 | succ d=>
   unfold rowAt at h
   simp only at h
   split at h
   ·cases h
   rename_i hs
   have hp:0<P.cellsOf e:=Eb hs
   have ass:=EB off (P.cellsOf e)
   rw[oq]at h
   rcases h with h|h
   ·simp only[gq,oT,fM]at h
    have:P.cellsOf e*(off/P.cellsOf e)<=P.cellsOf e*count:=Is _ (by omega)
    rw[rN count];omega
   simp only[gq,fM]at h
   have hm:=BS off hp
   have:P.cellsOf e*(off/P.cellsOf e+1)<=P.cellsOf e*count:=Is _ (by omega)
   rw[Nat.mul_add]at this
   rw[rN count];omega
def VQ{P:Program}:∀{d:Nat} {e:bx} {count off:Nat} {u:bx} {n:Nat},liesAt P d e count off u n=true->off<=count*P.cellsOf e
 |0,_,_,_,_,_,h=>by cases h
 | d+1,e,count,off,u,n,h=>by
   unfold liesAt at h;rw[oq]at h;rcases h with h|h
   ·exact ag2 h
   split at h
   ·exact VQ h
   cases h
structure wa(P:Program)(t:TypeId)(α:Type)[ah α]:Prop where
 top:∀{H:Type} {enc:TypeId×Value->H} {W:World} {n b:Nat} {v:Value} {x:DataW H×List MemPlace},DataW.trod enc P W 0 (λ_=>true) true n t v.cells.toList=some x->Value.okWide P W .any b t v->∃a:α,(J.of a).holds [] W v
variable{P:Program}{t e:bx}
def wa.of{α:Type}[ah α](h:Arg P t α):wa P t α where
 top h1 ad:=let⟨a,ay⟩:=h.read h1; ⟨a,h.form ad,ay⟩
def ag3{α:Type}[ah α](hu:P.underlying t=some (.slice e))(he:Arg P e α)(cy:Nat.beq (ah.size α) 0=false){H:Type}{enc:bx×bl->H}{W:bf}{n b:Nat}{v:bl}{x:DataW H×aa MemPlace}
 (h:DataW.trod enc P W 0 (λ_=>true) true n t [v]=some x) (hJ:Cell.okWide P W .any b t v):∃a:aa α,(J.of a).holds [] W v:=by
 have jg:ah.size α≠0:=λh=>by rw[h]at cy;cases cy
 rcases DataW.trod_slice hu h with⟨h1,_⟩|⟨a,len,cap,elems,rest,m,_,h1,_,_,ast,AJ,u0,aok,ar4,_⟩
 ·have:=Uc.1 h1
  subst this
  exact⟨[],pB.2 (.inl ⟨rfl,rfl⟩)⟩
 have:=Uc.1 h1
 subst this
 unfold Cell.okWide at hJ
 simp only[hu]at hJ
 unfold Cell.ok at hJ
 rw[hu]at hJ
 obtain⟨_,_,_,YR,row,cells,Dn,aol⟩:=hJ
 obtain⟨tN,wO,asu⟩:=a
 simp only at YR
 subst YR
 unfold World.shape? at Dn
 cases e3:W.heap[tN]? with
 |none=>rw[e3]at Dn;cases Dn
 | some l4=>
   rw[e3]at Dn
   cases l4 <;> simp at Dn
   rename_i u1 T iT
   obtain⟨tO,dK⟩:=Dn
   have ase:wO<=u1.size:=by
    have aX:wO<=_:=VQ aol;have bh:=Nat.div_mul_le_self cells (P.cellsOf row);omega
   have alK:=he.cells
   have gS:∀i,i<len->∃a:α,ah.rep [] W ((u1.toList.drop (wO+i*ah.size α)).take (ah.size α)) a∧wO+(i+1)*ah.size α<=u1.size:=λi ax=>by
    have aX:=aok i ax;rw[qf (by omega)]at aX;obtain⟨dT,bh,c5⟩:=TB.1 aX;obtain⟨_,ao,ak⟩:=World.cells?_some bh;rw[alK]at ao ak bh;have Ac:∀j,j<ah.size α->u1[wO+i*ah.size α+j]? =dT[j]? :=λj aC=>by
     rw[<-ak j aC,kI,kI];unfold World.cell?;simp[e3]
    have heq:(u1.toList.drop (wO+i*ah.size α)).take (ah.size α)=dT:=by
     apply l9;intro j;rw[jR];by_cases aC:j<ah.size α
     ·rw[br aC,lp,w2];exact Ac j aC
     rw[bn aC];symm;exact M3 (by omega)
    obtain⟨a,a7⟩:=he.read c5;refine⟨a,by rw[heq];exact a7,?_⟩;have dW:=Ac (ah.size α-1) (by omega);rw[qf (show ah.size α-1<dT.length by omega)]at dW;have:=(q4.1 dW).1;rw[nh];omega
   have hex:∃xs:aa α,xs.length=len∧∀i (h:i<xs.length),ah.rep [] W ((u1.toList.drop (wO+i*ah.size α)).take (ah.size α)) xs[i]:=by
    refine⟨List.ofFn λi:Fin len=>(gS i.1 i.2).choose,by simp,λi ax=>?_⟩;have hv:i<len:=by simpa using ax
    rw[List.getElem_ofFn];exact(gS i hv).choose_spec.1
   obtain⟨xs,wA,R1⟩:=hex
   have hbound:wO+xs.length*ah.size α<=u1.size:=by
    rw[wA];rcases Ud len with bu|bu
    ·rw[bu];omega
    have:=(gS (len-1) (by omega)).choose_spec.2;rw[show len-1+1=len by omega]at this;exact this
   refine⟨xs,pB.2 (.inr ⟨tN,wO,cap,u1,T,iT,by rw[wA],by simp,e3,by omega,by omega,hbound,?_,λi ax=>?_⟩)⟩
   ·rw[fy,ku];simp;omega
   have hle:(i+1)*ah.size α<=xs.length*ah.size α:=hi _ ax
   rw[rO]at hle
   rw[zs _ _ _ _ _ hle]
   exact R1 i ax
def wa.aqc{α:Type}[ah α](hu:P.underlying t=some (.slice e))(he:Arg P e α)(cy:Nat.beq (ah.size α) 0=false):wa P t (aa α)where
 top {H enc W n b v x} h hJ:=by
  have C4:Cell.okWide P W .any b t v:=by
   unfold Value.okWide at hJ;simp only[hu]at hJ;exact hJ
  have aom:v.oneCell'=true:=by
   unfold Cell.okWide at C4;simp only[hu]at C4;unfold Cell.ok at C4;rw[hu]at C4;cases v <;> first|rfl|simp at C4
  rw[cells_one aom]at h;exact ag3 hu he cy h C4
def OR{H:Type}{enc:bx×bl->H}{W:bf}{cM:aa bx}{vs:aa bl}{ds:aa (DataW H)}{bt:aa MemPlace}{α:Type}[ah α]{b:Nat}(a7:wa P t α)
 (h:DataW.TrodAll enc P W 0 (λ_=>true) true (t::cM) vs ds bt) (hJ:∀(j:Nat) u v,(t::cM)[j]? =some u->vs[j]? =some v->Value.okWide P W .any b u v):
 ∃ (a:α) (v:bl) (R2:aa bl) (abg:aa (DataW H)) (p0:aa MemPlace) (d:DataW H),vs=v::R2∧ds=d::abg∧(J.of a).holds [] W v∧DataW.TrodAll enc P W 0 (λ_=>true) true cM R2 abg p0∧
   (∀(j:Nat) u w,cM[j]? =some u->R2[j]? =some w->Value.okWide P W .any b u w):=by
 obtain⟨v,RZ,d,R0,p,q,rfl,rfl,rfl,⟨n,h1⟩,ad⟩:=trodAll_cons h
 obtain⟨a,ay⟩:=a7.top h1 (hJ 0 t v I I)
 exact⟨a,v,RZ,R0,q,d,rfl,rfl,ay,ad,λj u w aC hw=>hJ (j+1) u w (by simpa using aC) (by simpa using hw)⟩
end Gv
namespace Gv
open Go
def afK{L' L:aa aE}(h:L'.Sublist L):(ks L').Sublist (ks L):=by
 induction h with
 |slnil=>simp[ks]
 |cons e _ bJ=>cases hk:e.key <;> simp only[ks,hk] <;> first|exact bJ|exact bJ.cons _
 |cons_cons e _ bJ=>cases hk:e.key <;> simp only[ks,hk] <;> first|exact bJ|exact bJ.cons_cons _
def aE.um{e:aE}{A cE W W'}(h:e.ok A W)(x:Ext A W cE W')(hb:∀p,e.key=some p->W'.heap[p]? =W.heap[p]?):e.ok cE W':=by
 unfold aE.ok at *;cases hk:e.key with
 |none=>rw[hk]at h;exact h
 | some p=>
   rw[hk]at h
   obtain⟨o,h1,ad⟩:=h
   exact⟨o,by rw[hb p hk];exact h1,dr.mono _ x ad⟩
def kA(X bP:aa Nat)(jO:bf){δ:Type}(ρ:δ->J)(Lo:δ->aa aE):Ending->bf->Prop:=λe W'=>
 ∃v d,e=.returned v∧Fr X jO W'∧(ks (Lo d)).Nodup∧(∀k∈ks (Lo d),k<W'.heap.size∧(k<jO.heap.size->k∈X)∧k∉bP)∧(∀e∈Lo d,e.ok (ks (Lo d)++bP) W')∧(ρ d).holds (ks (Lo d)++bP) W' v
def bR(P:Program)(f:FuncId)(τs:aa J)(Lin:aa aE){δ:Type}(ρ:δ->J)(Lo:δ->aa aE):Prop:=
 ∀ (A:aa Nat) (W:bf) (vs:aa bl),(∀k∈A,k<W.heap.size∧k∉ks Lin)->(ks Lin).Nodup->(∀k∈ks Lin,k<W.heap.size)->(∀e∈Lin,e.ok (ks Lin++A) W)->gG (ks Lin++A) W τs vs->
   Calls P f vs.toArray W (kA (ks Lin) A W ρ Lo)
def bR.of{P:Program}{f:FuncId}{fn:Func}{code:Code}{n:Nat}{τs:aa J}{Lin:aa aE}{δ:Type}{ρ:δ->J}{Lo:δ->aa aE}(aY:P.funcs[f]? =some fn)(hb:fn.body=some code)(aI:fn.ntmps=n)(hlen:Nat.ble τs.length n=true)
 (h:∀W A,az ⟨P,n,W,ks Lin,A,none,[]⟩ (bodyPost P fn (kA (ks Lin) A W ρ Lo)) code (params 0 τs) Lin):bR P f τs Lin ρ Lo:=by
 intro A W vs ev ij b9 hJ ba
 refine Js aY hb (wpIn_wide.1 (h W A _ _ ?_))
 have ao:=ba.length
 have hle:τs.length<=n:=oO hlen
 exact
 {defers:=rfl
  size:=by simp[aI,ao];omega
  env:=λt τ kN=>by
   obtain⟨_,v,ad,ay⟩:=zu ba 0 t τ kN;refine⟨v,?_,ay⟩;have b9:t<vs.length:=(fL.1 ad).1;rw[ve (by simpa using b9)];simpa using ad
  dk:=.refl _ _
  own:=hJ
  nodup:=ij
  lt:=b9
  fR:=λk hk _=>hk
  er:=ev}
section
variable{c:cj}{E:aa (Nat×J)}{L:aa aE}{ops:Array Oper}{Q:Exit->Act->bf->Prop}
variable{d:aw Tmp}{ty:bx}{pos:String}{af:Array Edge}{g:aw (Nat×Bool)}{x y:bZ}{t t2:bx}
def qO(c:cj)(E:aa (Nat×J))(L:aa aE)(r:ResultVar)(τ:J):Prop:=
 ∀a W,bG c E L a W->∃v,(zV a.tmps r).run c.P W=.ok v W∧τ.holds (ks L++c.bP) W v
def dv{t:Nat}{τ:J}(h:look E t=some τ):qO c E L (.tmp t) τ:=λa W s=>by
 obtain⟨v,h1,ad⟩:=s.env t τ h;exact⟨v,by simp[zV,h1],ad⟩
def lV{t:Nat}{ty:bx}{i p:Nat}{α:Type}[ah α]{x:α}(dQ:bK c.P ty α)(h:look E t=some (.eq (.pointer (some ⟨p,0,none⟩))))(av:L[i]? =some ⟨some p,.var x⟩):qO c E L (.cell t ty) (.of x):=λa W s=>by
 obtain⟨v,h1,ad⟩:=s.env t _ h;subst ad;obtain⟨l4,e3,cs,T,rfl,gS⟩:=s.own _ (eo av);have ao:cs.toList.length=ah.size α:=ah.len gS;have dK:cs.size=ah.size α:=by simpa using ao
 obtain⟨v,ay,aR⟩:=zl (A:=ks L++c.bP) (off:=0) dQ e3 (by omega) (by rw[vn,<-ao,nf];exact gS);exact⟨v,by simp[zV,h1,asAddr,ay],aR⟩
def bG.ends{a:Act}{W:bf}(s:bG c E L a W){δ:Type}{ρ:δ->J}{Lo:δ->aa aE}(a1:δ)(hs:(Lo a1).Sublist L){v:bl}(ba:(ρ a1).holds (ks L++c.bP) W v):kA c.X c.bP c.jO ρ Lo (.returned v) W:=by
 have mQ:=afK hs;have hk:∀k∈ks (Lo a1),k∈ks L:=λk hk=>mQ.subset hk;have gR:Ext (ks L++c.bP) W (ks (Lo a1)++c.bP) W:=.drop λk hm=>by
  rcases ca.1 hm with hm|hm
  ·exact ca.2 (.inl (hk k hm))
  exact ca.2 (.inr hm)
 exact⟨v,a1,rfl,s.dk,s.nodup.sublist mQ,λk hm=>⟨s.lt k (hk k hm),s.fR k (hk k hm),λa7=>(s.er k a7).2 (hk k hm)⟩,
  λe he=>aE.um (s.own e (hs.subset he)) gR λ_ _=>rfl,J.mono _ gR ba⟩
def eV{L L':aa aE}(n:Nat)(h:L.drop n=L':=by rfl):L'.Sublist L:=h▸List.drop_sublist n L
def ar.eI{fn:Func}{r:ResultVar}{τ:J}{δ:Type}{ρ:δ->J}{Lo:δ->aa aE}(a1:δ)(hs:(Lo a1).Sublist L)(aD:fn.results= #[r])(rz:ρ a1=τ)(h:qO c E L r τ)(dZ:c.ds=[]:=by rfl):ar c (bodyPost c.P fn (kA c.X c.bP c.jO ρ Lo)) .ret E L:=λa W s=>by
 subst rz;obtain⟨v,h1,ad⟩:=h a W s;exact⟨s.zE dZ,v,by simp[zw,aD,h1],s.ends a1 hs ad⟩
def ar.ns{fn:Func}{r fg:ResultVar}{τ oC:J}{δ:Type}{ρ:δ->J}{Lo:δ->aa aE}(a1:δ)(hs:(Lo a1).Sublist L)(aD:fn.results= #[r,fg])(rz:ρ a1=.bY [τ,oC])(h:qO c E L r τ)(ad:qO c E L fg oC)(dZ:c.ds=[]:=by rfl):ar c (bodyPost c.P fn (kA c.X c.bP c.jO ρ Lo)) .ret E L:=λa W s=>by
 obtain⟨v,ay,aR⟩:=h a W s;obtain⟨v2,aX,bh⟩:=ad a W s;exact⟨s.zE dZ,.tuple #[v,v2],by simp[zw,aD,ay,aX],s.ends a1 hs (by rw[rz];exact⟨_,rfl,.cons aR (.cons bh .nil)⟩)⟩
def ar.YI{fn:Func}{r fg kV:ResultVar}{τ oC G8:J}{δ:Type}{ρ:δ->J}{Lo:δ->aa aE}(a1:δ)(hs:(Lo a1).Sublist L)(aD:fn.results= #[r,fg,kV])(rz:ρ a1=.bY [τ,oC,G8])(h:qO c E L r τ)(ad:qO c E L fg oC)(ay:qO c E L kV G8)(dZ:c.ds=[]:=by rfl):ar c (bodyPost c.P fn (kA c.X c.bP c.jO ρ Lo)) .ret E L:=λa W s=>by
 obtain⟨v,au,f1⟩:=h a W s;obtain⟨v2,aW,f2⟩:=ad a W s;obtain⟨v3,cF,f3⟩:=ay a W s;exact⟨s.zE dZ,.tuple #[v,v2,v3],by simp[zw,aD,au,aW,cF],s.ends a1 hs (by rw[rz];exact⟨_,rfl,.cons f1 (.cons f2 (.cons f3 .nil))⟩)⟩
def xn:∀{L:aa aE} {i:Nat} {e:aE},L[i]? =some e->L.Perm (e::L.eraseIdx i)
 |[],i,e,h=>by simp at h
 |x::r,0,e,h=>by simp only[List.getElem?_cons_zero,fi]at h;subst h;exact .refl _
 | x::r,i+1,e,h=>by
   simp only[List.getElem?_cons_succ]at h;exact((xn h).cons x).trans (.swap e x _)
def bG.b4{a:Act}{W:bf}(s:bG c E L a W){i:Nat}{e:aE}(h:L[i]? =some e):bG c E (e::L.eraseIdx i) a W:=s.perm (xn h)
def ae.b4{l:aa Oper}(i:Nat){e:aE}(h:L[i]? =some e)(k:ae c ops Q l E (e::L.eraseIdx i)):ae c ops Q l E L:=λa W s=>k a W (s.b4 h)
def ar.b4{z:Exit}(i:Nat){e:aE}(h:L[i]? =some e)(k:ar c Q z E (e::L.eraseIdx i)):ar c Q z E L:=λa W s=>k a W (s.b4 h)
def bG.after{a:Act}{W W':bf}{Lin Lr:aa aE}(s:bG c E (Lin++Lr) a W){Lo:aa aE}(aY:Fr (ks Lin) W W')(ij:(ks Lo).Nodup)
 (hk:∀k∈ks Lo,k<W'.heap.size∧(k<W.heap.size->k∈ks Lin)∧k∉ks Lr++c.bP) (hJ:∀e∈Lo,e.ok (ks Lo++(ks Lr++c.bP)) W'):bG c E (Lo++Lr) a W':=by
 have gR:Ext (ks (Lin++Lr)++c.bP) W (ks (Lo++Lr)++c.bP) W':=
  ⟨aY.size,λk b9 a7=>aY.block k b9 λhm=>a7 (by rw[eg];simp[hm]),λk hm b9=>by
   rw[eg]at hm⊢;simp only[ca]at hm⊢;rcases hm with(hm|hm)|hm
   ·exact .inl (.inl ((hk k hm).2.1 b9))
   ·exact .inl (.inr hm)
   exact .inr hm⟩
 have lB:=s.nodup
 rw[eg]at lB
 obtain⟨nF,sr,p2⟩:=nd.1 lB
 have Df:∀k∈ks Lr,k<W.heap.size∧k∉ks Lin:=λk hm=>⟨s.lt k (by rw[eg];exact ca.2 (.inr hm)),λh=>p2 k h k hm I⟩
 exact
 {defers:=s.defers
  size:=s.size
  env:=λt τ ao=>let⟨v,h1,ad⟩:=s.env t τ ao; ⟨v,h1,τ.mono gR ad⟩
  dk:=⟨aY.os.trans s.dk.os,aY.tape.trans s.dk.tape,aY.output.trans s.dk.output,pv s.dk.drawn aY.drawn,pv s.dk.size aY.size,λk b9 al=>
   (aY.block k (rL b9 s.dk.size) λhm=>al (s.fR k (by rw[eg];exact ca.2 (.inl hm)) b9)).trans (s.dk.block k b9 al)⟩
  own:=λe he=>by
   rcases ca.1 he with he|he
   ·have:=hJ e he;refine aE.um this (.drop λk hm=>?_) λ_ _=>rfl;rw[eg]at hm;simp only[ca]at hm⊢;rcases hm with(hm|hm)|hm
    ·exact .inl hm
    ·exact .inr (.inl hm)
    exact .inr (.inr hm)
   exact aE.um (s.own e (ca.2 (.inr he))) gR λp hp=>by
    have:=Df p (nq.2 ⟨e,he,hp⟩);exact aY.block p this.1 this.2
  nodup:=by
   rw[eg];exact nd.2 ⟨ij,sr,λk h1 j ad e=>by subst e;exact(hk k h1).2.2 (ca.2 (.inl ad))⟩
  lt:=λk hm=>by
   rw[eg]at hm;rcases ca.1 hm with hm|hm
   ·exact(hk k hm).1
   exact rL (Df k hm).1 aY.size
  fR:=λk hm bu=>by
   rw[eg]at hm;have b9:k<W.heap.size:=rL bu s.dk.size;rcases ca.1 hm with hm|hm
   ·exact s.fR k (by rw[eg];exact ca.2 (.inl ((hk k hm).2.1 b9))) bu
   exact s.fR k (by rw[eg];exact ca.2 (.inr hm)) bu
  er:=λk hm=>by
   obtain⟨h1,ad⟩:=s.er k hm;refine⟨rL h1 aY.size,λh=>?_⟩;rw[eg]at h ad;rcases ca.1 h with h|h
   ·exact(hk k h).2.2 (ca.2 (.inr hm))
   exact ad (ca.2 (.inr h))}
def ic.XF{xs:aa bZ}{τs:aa J}(h:ic c E L xs τs){a:Act}{W:bf}(s:bG c E L a W):gG (ks L++c.bP) W τs (xs.map a.eval):=h.holds a W s
def Fx{a:Act}{W:bf}{f:FuncId}{xs:aa bZ}{ats:Array bx}{τs:aa J}{Lin Lr:aa aE}{δ:Type}{ρ:δ->J}{Lo:δ->aa aE}(cf:bD c.P f)(h:bR c.P f τs Lin ρ Lo)
 (s:bG c E (Lin++Lr) a W) (al:gG (ks (Lin++Lr)++c.bP) W τs (xs.map a.eval)):
 gJ c.P ⟨d,.call ⟨.value (.func f),xs.toArray,ats⟩,ty,pos,af,g⟩ a W λv W'=> ∃a1,bG c E (Lo a1++Lr) a W'∧(ρ a1).holds (ks (Lo a1++Lr)++c.bP) W' v:=by
 have lB:=s.nodup
 rw[eg]at lB
 obtain⟨nF,sr,p2⟩:=nd.1 lB
 have hF:Ext (ks (Lin++Lr)++c.bP) W (ks Lin++(ks Lr++c.bP)) W:=.drop λk hm=>by
  rw[eg];simp only[ca]at hm⊢;rcases hm with hm|hm|hm
  ·exact .inl (.inl hm)
  ·exact .inl (.inr hm)
  exact .inr hm
 have ev:∀k∈ks Lr++c.bP,k<W.heap.size∧k∉ks Lin:=λk hm=>by
  rcases ca.1 hm with hm|hm
  ·exact⟨s.lt k (by rw[eg];exact ca.2 (.inr hm)),λh=>p2 k h k hm I⟩
  obtain⟨h1,ad⟩:=s.er k hm;exact⟨h1,λh=>ad (by rw[eg];exact ca.2 (.inl h))⟩
 have b9:∀k∈ks Lin,k<W.heap.size:=λk hm=>s.lt k (by rw[eg];exact ca.2 (.inl hm))
 refine .vE (f:=f) (args:=(xs.map a.eval).toArray) (W':=W) (by simp[execOp,resolve,Deferred.ofValue,Act.eval,invoke,cf.run]) ?_
 refine(h (ks Lr++c.bP) W (xs.map a.eval) ev nF b9 (λe he=>aE.um (s.own e (ca.2 (.inl he))) hF λ_ _=>rfl) (al.mono hF)).mono λe W' ⟨v,a1,he,aY,h1,ad,ay,aR⟩=>?_
 refine⟨v,he,a1,s.after aY h1 ad ay,(ρ a1).mono (.drop λk hm=>?_) aR⟩
 rw[eg]at hm
 simp only[ca]at hm⊢
 rcases hm with(hm|hm)|hm
 ·exact .inl hm
 ·exact .inr (.inl hm)
 exact .inr (.inr hm)
def ae.rh{rest:aa Oper}{a1:Nat}{f:FuncId}{xs:aa bZ}{ats:Array bx}{τs:aa J}{Lin Lr:aa aE}{δ:Type}{ρ:δ->J}{Lo:δ->aa aE}(cf:bD c.P f)(h:bR c.P f τs Lin ρ Lo)
 (al:ic c E (Lin++Lr) xs τs) (aI:Nat.blt a1 c.n=true) (k:∀q,ae c ops Q rest ((a1,ρ q)::E) (Lo q++Lr)):
 ae c ops Q (⟨some a1,.call ⟨.value (.func f),xs.toArray,ats⟩,ty,pos,af,none⟩::rest) E (Lin++Lr):=λa W s=>
 iw I (Fx cf h s (al.holds a W s)) λv W' ⟨q,b0,ba⟩=>k q _ _ (b0.put (by simpa using aI) ba)
end
def ft{α:Type}(xs:aa α)(k:Nat)(v:α):aa α:=xs.set k v
section
variable{c:cj}{E:aa (Nat×J)}{L:aa aE}{ops:Array Oper}{Q:Exit->Act->bf->Prop}
variable{d:aw Tmp}{ty:bx}{pos:String}{af:Array Edge}{g:aw (Nat×Bool)}{x y:bZ}{t t2:bx}
def bG.rowAt{a:Act}{W:bf}(s:bG c E L a W){i:Nat}{key:aw Nat}{T cap:Nat}{α:Type}[ah α]{xs:aa α}(av:L[i]? =some ⟨key,.row T xs cap⟩)(al:0<xs.length):
 ∃p cs,key=some p∧W.heap[p]? =some (.cells cs T (0,0))∧cs.size=cap*ah.size α∧xs.length<=cap∧cap<=maxLen∧hf (ks L++c.bP) W (cs.toList.take (xs.length*ah.size α)) xs:=by
 have aU:=s.own _ (eo av)
 cases key with
 |none=>have:xs=[]:=aU.1;subst this;simp at al
 | some p=>
   obtain⟨o,e3,cs,rfl,h1,ad,ay,aR⟩:=aU
   exact⟨p,cs,rfl,e3,h1,ad,ay,aR⟩
def lU{e i k T cap:Nat}{key:aw Nat}{α:Type}[ah α]{xs:aa α}{z:Int}(hu:c.P.underlying t=some (.slice e))(ez:bK c.P e α)(al:aP c E L x (.eq (aO key xs.length cap)))(hy:aP c E L y (.of z))
 (av:L[i]? =some ⟨key,.row T xs cap⟩) (hk:k<xs.length∧z=k):bc c E L ⟨d,.indexAddr t x y,ty,pos,af,g⟩ (.eq (.pointer (some ⟨key.getD 0,k*ah.size α,none⟩))):=.pure λa W s=>by
 obtain⟨bh,rfl⟩:=hk
 obtain⟨p,cs,rfl,_⟩:=s.rowAt av (by omega)
 have h1:a.eval x=_:=al a W s
 have aX:=of_int.1 (hy a W s)
 obtain⟨gD,dX,dK⟩:=ez.info
 exact⟨_,by simp[execOp,Instr.indexAt,asIntOf,dL hu,h1,aX,bh,Go.sizeOf,typeInfo,dX,dK,kI,aO];rfl,by simp[J.eq]⟩
def Ct{k n s:Nat}(h:k<n):k*s+s<=n*s:=by rw[<-rO];exact hi _ h
def sU{i k T cap o:Nat}{key:aw Nat}{α γ:Type}[ah α][Inhabited α][ah γ]{xs:aa α}(l:aN α γ){r:γ}(dQ:bK c.P t γ)(al:aP c E L x (.eq (.pointer (some ⟨key.getD 0,o,none⟩))))
 (av:L[i]? =some ⟨key,.row T xs cap⟩) (hk:k<xs.length) (aU:o=k*ah.size α+l.off) (aD:l.get (aB xs k)=r):bc c E L ⟨d,.load t x,ty,pos,af,g⟩ (.of r):=.pure λa W s=>by
 subst aU;subst aD
 obtain⟨p,cs,rfl,e3,h1,ad,ay,aR⟩:=s.rowAt av (by omega)
 have fu:=Ct (s:=ah.size α) hk
 have ao:=l.gV
 have hle:xs.length*ah.size α<=cap*ah.size α:=hi _ ad
 have gS:=l.jF (aR.2 k hk)
 rw[zs _ _ _ _ _ l.gV,vm,rM,oR (by omega)]at gS
 rw[fQ xs hk]
 obtain⟨v,aX,bh⟩:=zl (A:=ks L++c.bP) dQ e3 (off:=k*ah.size α+l.off) (by omega) gS
 have c5:a.eval x=_:=al a W s
 simp only[Option.getD_some]at c5
 exact⟨v,by simp[execOp,Instr.loadAt,Instr.sureAddr,c5,aX],bh⟩
def ae.sY{rest:aa Oper}{i k T cap o:Nat}{key:aw Nat}{α γ:Type}[ah α][Inhabited α][ah γ]{xs r:aa α}{v:γ}(l:aN α γ)(dQ:bK c.P t γ)(al:aP c E L x (.eq (.pointer (some ⟨key.getD 0,o,none⟩))))(hy:aP c E L y (.of v))
 (av:L[i]? =some ⟨key,.row T xs cap⟩) (hk:k<xs.length) (aU:o=k*ah.size α+l.off) (aD:ft xs k (l.set (aB xs k) v)=r)
 (k':ae c ops Q rest E (L.set i ⟨key,.row T r cap⟩)):ae c ops Q (⟨none,.store t x y,ty,pos,af,none⟩::rest) E L:=λa W s=>by
 subst aU;subst aD
 obtain⟨p,cs,rfl,e3,h1,ad,ay,aR⟩:=s.rowAt av (by omega)
 have fu:=Ct (s:=ah.size α) hk
 have ao:=l.gV
 have hle:xs.length*ah.size α<=cap*ah.size α:=hi _ ad
 have ba:=hy a W s
 have ss:(a.eval y).cells.toList.length=ah.size γ:=ah.len ba.2
 have aX:=JC (A:=ks L++c.bP) dQ e3 (off:=k*ah.size α+l.off) (by omega) ba
 have c5:a.eval x=_:=al a W s
 simp only[Option.getD_some]at c5
 refine iw I (R:=λv W'=>W'=W.setRow p (gO cs.toList (k*ah.size α+l.off) (a.eval y).cells.toList).toArray) (.Cm ?_ I) λu W' hw=>?_
 ·simp[execOp,Instr.storeAt,Instr.sureAddr,c5,aX]
 subst hw
 refine k' _ _ (s.store av e3 ?_)
 have kF:cs.toList.length=cap*ah.size α:=by simpa using h1
 have pf:(gO cs.toList (k*ah.size α+l.off) (a.eval y).cells.toList).length=cs.toList.length:=by
  simp only[gO,fh,fy,ku,ss];omega
 refine⟨_,rfl,by simpa[kF]using pf,by simpa[ft]using ad,ay,?_⟩
 have g1:=aR.2 k hk
 have g2:=l.nS g1 ba.2
 have g3:=Ph aR hk g2
 have uZ:(cs.toList.take (xs.length*ah.size α)).length=xs.length*ah.size α:=by rw[fy];omega
 rw[VN _ _ _ _ _ _ l.gV (by omega)]at g3
 have hlen:(ft xs k (l.set (aB xs k) v)).length=xs.length:=by simp[ft]
 rw[hlen,List.toList_toArray]
 have e:(gO cs.toList (k*ah.size α+l.off) (a.eval y).cells.toList).take (xs.length*ah.size α)=
  (cs.toList.take (xs.length*ah.size α)).take (k*ah.size α+l.off)++(a.eval y).cells.toList++(cs.toList.take (xs.length*ah.size α)).drop (k*ah.size α+l.off+ah.size γ):=by
  have au:(cs.toList.take (k*ah.size α+l.off)).length=k*ah.size α+l.off:=by rw[fy];omega
  have aW:(cs.toList.take (k*ah.size α+l.off)++(a.eval y).cells.toList).length=k*ah.size α+l.off+ah.size γ:=by rw[fh,au,ss]
  rw[gO,ss,IH,aW,sF (by omega),rM,oR (by omega),vm]
 rw[e,show ft xs k (l.set (aB xs k) v)=xs.set k (l.set xs[k] v) by rw[ft,fQ xs hk]]
 exact g3
def hE(key:aw Nat)(lo n cap size:Nat):bl:=match key with
 |some p=>.slice (some (if cap=lo then⟨p,0,none⟩else⟨p,lo*size,none⟩)) n (cap-lo)
 |none=>.slice none 0 0
def zy{key:aw Nat}{n cap size:Nat}:hE key 0 n cap size=aO key n cap:=by
 cases key <;> simp[hE,aO]
def vC{i T cap:Nat}{key:aw Nat}{α:Type}[ah α]{xs:aa α}{e:bx}{lo ax:aw bZ}{m n:Nat}{HU HV:Int}(hu:c.P.underlying t=some (.slice e))(ez:bK c.P e α)(al:aP c E L x (.eq (aO key xs.length cap)))
 (av:L[i]? =some ⟨key,.row T xs cap⟩) (jv:yC c E L lo HU 0) (eY:yC c E L ax HV xs.length) (hm:HU=m) (aI:HV=n) (h:m<=n∧n<=xs.length):
 bc c E L ⟨d,.slice t x lo ax none,ty,pos,af,g⟩ (.eq (hE key m (n-m) cap (ah.size α))):=.pure λa W s=>by
 subst hm;subst aI
 obtain⟨wj,mU⟩:=h
 obtain⟨gD,dX,dK⟩:=ez.info
 have h1:a.eval x=_:=al a W s
 have aU:=s.own _ (eo av)
 cases key with
 | none=>
   have iE:xs=[]:=aU.1
   subst iE
   have uX:n=0:=by simpa using mU
   have hZ:m=0:=by omega
   subst uX
   subst hZ
   refine⟨.slice none 0 0,?_,rfl⟩
   have av:(match lo.map a.eval with |some v=>Instr.sliceBound v 0 .sliceB|none=>pure 0:Sem Nat).run c.P W=.ok 0 W:=by
    cases jv with
    |none=>rfl
    |some ao=>exact rS (iu _) (of_int.1 (ao a W s))
   have hH:(match ax.map a.eval,(none:aw bl) with | some v,some _=>Instr.sliceBound v 0 .slice3B | some v,none=>Instr.sliceBound v 0 .sliceAcap | none,none=>pure 0 | none,some _=>stuck "Slice: max without high" :Sem Nat).run c.P W= .ok 0 W:=by
    cases eY with
    |none=>rfl
    |some ao=>exact rS (iu _) (of_int.1 (ao a W s))
   cases jv <;> cases eY
   all_goals
    simp only[aO,execOp,Instr.sliceAt,Instr.slice,Instr.sliceBounds,h1,dI,dL hu,Result.andThen_ok,Option.map_none,Option.map_some,Option.isSome_none,rK,ot,mc,Sem.run_pure]at av hH⊢
    try simp only[av,hH,Result.andThen_ok,Go.sizeOf,typeInfo,dI,run_program,dX,Sem.run_pure]
    try simp[dX]
 | some p=>
   obtain⟨o,e3,cs,rfl,g1,g2,g3,g4⟩:=aU
   refine⟨_,?_,rfl⟩
   simp only[hE]
   have av:∀v,v=Value.int .i64 m->(Instr.sliceBound v n .sliceB).run c.P W=.ok m W:=λv ba=>rS wj ba
   have hH:∀v,v=Value.int .i64 n->(Instr.sliceBound v cap .sliceAcap).run c.P W=.ok n W:=λv ba=>rS (by omega) ba
   generalize fu:(n:Int)=abS at eY
   generalize Hc:(m:Int)=abT at jv
   generalize wA:(xs.length:Int)=abU at eY
   generalize abc:(0:Int)=abV at jv
   cases jv with
   | none=>
     have hZ:m=0:=by omega
     cases eY with
     | none=>
       have mU:n=xs.length:=by omega
       subst mU
       subst hZ
       simp[execOp,Instr.sliceAt,Instr.slice,Instr.sliceBounds,h1,aO,dL hu,Go.sizeOf,typeInfo,dX,dK,kI]
     | some b2=>
       subst fu
       subst hZ
       simp[execOp,Instr.sliceAt,Instr.slice,Instr.sliceBounds,h1,aO,dL hu,Go.sizeOf,typeInfo,dX,dK,kI,hH _ (of_int.1 (b2 a W s))]
   | some ao=>
     subst Hc
     cases eY with
     | none=>
       have mU:n=xs.length:=by omega
       subst mU
       simp[execOp,Instr.sliceAt,Instr.slice,Instr.sliceBounds,h1,aO,dL hu,Go.sizeOf,typeInfo,dX,dK,kI,av _ (of_int.1 (ao a W s))]
       split <;> rfl
     | some b2=>
       subst fu
       simp[execOp,Instr.sliceAt,Instr.slice,Instr.sliceBounds,h1,aO,dL hu,Go.sizeOf,typeInfo,dX,dK,kI,av _ (of_int.1 (ao a W s)),hH _ (of_int.1 (b2 a W s))]
       split <;> rfl
def bG.again{a:Act}{W:bf}(s:bG c E L a W){i:Nat}{key:aw Nat}{cp cp':dr}(av:L[i]? =some ⟨key,cp⟩)(h:∀A W o,cp.holds A W o->cp'.holds A W o)(aI:cp.nX->cp'.nX):bG c E (L.set i ⟨key,cp'⟩) a W:=by
 have gw:ks (L.set i ⟨key,cp'⟩)=ks L:=zU (e:=⟨key,cp⟩) (cp:=cp') av;exact
 {defers:=s.defers
  size:=s.size
  env:=λt τ ao=>by rw[gw];exact s.env t τ ao
  dk:=s.dk
  own:=λe he=>by
   rw[gw];obtain⟨j,aC⟩:=l8.1 he;rw[oP]at aC;split at aC
   ·split at aC
    ·simp only[fi]at aC;subst aC;have aU:=s.own _ (eo av);cases key with
     |none=>exact aI aU
     |some p=>obtain⟨o,h1,ad⟩:=aU;exact⟨o,h1,h _ _ _ ad⟩
    cases aC
   exact s.own e (eo aC)
  nodup:=by rw[gw];exact s.nodup
  lt:=by rw[gw];exact s.lt
  fR:=by rw[gw];exact s.fR
  er:=by rw[gw];exact s.er}
def FC{T cap n:Nat}{α:Type}[ah α]{xs:aa α}(aI:n<=xs.length){A W o}(h:(dr.row T xs cap).holds A W o):(dr.row T (xs.take n) cap).holds A W o:=by
 obtain⟨cs,rfl,h1,ad,ay,aR⟩:=h;have ao:(xs.take n).length=n:=by rw[fy];omega
 have hle:n*ah.size α<=xs.length*ah.size α:=hi _ aI;have LC:xs.length*ah.size α<=cap*ah.size α:=hi _ ad;refine⟨cs,rfl,h1,by omega,ay,?_⟩;rw[ao];have kF:cs.toList.length=cap*ah.size α:=by simpa using h1
 refine⟨by rw[fy,ao];omega,λi ax=>?_⟩;have hv:i<n:=by omega
 have fu:=Ct (s:=ah.size α) hv;have:=aR.2 i (by omega);rw[vm,rM,oR (by omega)]at this⊢;rw[List.getElem_take];exact this
def ae.als{l:aa Oper}{i T cap n:Nat}{key:aw Nat}{α:Type}[ah α]{xs r:aa α}(a1:Nat)(ao:look E a1=some (.eq (hE key 0 (n-0) cap (ah.size α))))(av:L[i]? =some ⟨key,.row T xs cap⟩)(aI:n<=xs.length)(aD:xs.take n=r)
 (k:ae c ops Q l ((a1,.eq (aO key r.length cap))::E) (L.set i ⟨key,.row T r cap⟩)):ae c ops Q l E L:=λa W s=>by
 subst aD
 have hlen:(xs.take n).length=n:=by rw[fy];omega
 have b0:=s.again av (λ_ _ _ h=>FC aI h) (cp':=.row T (xs.take n) cap) (λ⟨h1,ad⟩=>⟨by rw[h1];simp,ad⟩)
 refine k a W {b0 with env:=λt τ en=>?_}
 simp only[look]at en
 by_cases e:Nat.beq a1 t=true
 ·rw[e]at en
  simp only[cond_true,fi]at en
  subst en
  have:=eP.1 e
  subst this
  obtain⟨v,h1,ad⟩:=s.env a1 _ ao
  refine⟨v,h1,?_⟩
  have mu:v=_:=ad
  rw[Nat.sub_zero,zy]at mu
  rw[hlen]
  exact mu
 simp only[kX]at e
 rw[e]at en
 exact b0.env t τ en
end
def uu{α:Type}[Inhabited α](xs:aa α)(lo n:Nat):aa α:=xs.take lo++List.replicate n default++xs.drop (lo+n)
def VR{α:Type}[ah α]{A W}{cs ds:aa bl}{xs ys:aa α}{lo:Nat}(h:hf A W cs xs)(cT:hf A W ds ys)(hk:lo+ys.length<=xs.length):
 hf A W (cs.take (lo*ah.size α)++ds++cs.drop (lo*ah.size α+ds.length)) (xs.take lo++ys++xs.drop (lo+ys.length)):=by
 have ao:=h.1
 have hle:lo*ah.size α<=xs.length*ah.size α:=hi _ (by omega)
 have t1:hf A W (cs.take (lo*ah.size α)) (xs.take lo):=by
  have e:(xs.take lo).length=lo:=by rw[fy];omega
  refine⟨by rw[fy,e];omega,λi ax=>?_⟩;have hv:i<lo:=by omega
  have:=h.2 i (by omega);have fu:=Ct (s:=ah.size α) hv;rw[vm,rM,oR (by omega),List.getElem_take];exact this
 have t3:hf A W (cs.drop (lo*ah.size α+ds.length)) (xs.drop (lo+ys.length)):=by
  have e:lo*ah.size α+ds.length=(lo+ys.length)*ah.size α:=by rw[cT.1,nh]
  rw[e];refine⟨by rw[ku,ku,ao,<-Nat.sub_mul],λi ax=>?_⟩;rw[ku]at ax;have:=h.2 (lo+ys.length+i) (by omega);rw[EN,<-nh,List.getElem_drop];exact this
 exact xj (xj t1 cT) t3
section
variable{c:cj}{E:aa (Nat×J)}{L:aa aE}{ops:Array Oper}{Q:Exit->Act->bf->Prop}
variable{d:aw Tmp}{ty:bx}{pos:String}{af:Array Edge}{g:aw (Nat×Bool)}{x y:bZ}{t t2:bx}
def ae.clear{rest:aa Oper}{i e T cap lo n:Nat}{key:aw Nat}{α:Type}[ah α][Inhabited α]{xs r:aa α}(hu:c.P.underlying t=some (.slice e))(ez:bK c.P e α)(gL:c4 c.P e (default:α))(dK:Nat.beq (ah.size α) 0=false)
 (al:aP c E L x (.eq (hE key lo n cap (ah.size α)))) (av:L[i]? =some ⟨key,.row T xs cap⟩) (aI:lo+n<=xs.length) (aD:uu xs lo n=r)
 (k:ae c ops Q rest E (L.set i ⟨key,.row T r cap⟩)):ae c ops Q (⟨none,.call ⟨.builtin .clear,#[x],#[t]⟩,ty,pos,af,none⟩::rest) E L:=λa W s=>by
 subst aD
 have h1:a.eval x=_:=al a W s
 have aU:=s.own _ (eo av)
 have hF:∀cp,L.set i ⟨key,cp⟩=L.set i ⟨key,cp⟩:=λ_=>rfl
 by_cases bu:n=0∨key=none
 ·have iE:uu xs lo n=xs:=by
   rcases bu with bu|bu
   ·subst bu;simp[uu]
   subst bu;have:xs=[]:=aU.1;subst this;have:n=0:=by simp at aI;omega
   subst this;simp[uu]
  have jt:(execOp a.eval ⟨none,.call ⟨.builtin .clear,#[x],#[t]⟩,ty,pos,af,none⟩).run c.P W=.ok (.value (.tuple #[])) W:=by
   rcases bu with bu|bu
   ·subst bu;cases key <;> simp[execOp,resolve,invoke,builtin,Builtin.clear_,h1,hE,dL hu]
   subst bu;simp[execOp,resolve,invoke,builtin,Builtin.clear_,h1,hE,dL hu]
  refine iw I (R:=λv W'=>W'=W) (.mK jt I) λv W' hw=>?_
  subst hw
  rw[iE]at k
  have:L.set i ⟨key,.row T xs cap⟩=L:=by
   apply l9;intro j;rw[oP];split
   ·rename_i hI;subst hI;have:=(fL.1 av).1;rw[br this,av]
   rfl
  rw[this]at k
  exact k _ _ s
 have uX:0<n:=by
  rcases Ud n with h|h
  ·exact absurd (.inl h) bu
  exact h
 obtain⟨p,cs,rfl,e3,g1,g2,g3,g4⟩:=s.rowAt av (by omega)
 obtain⟨gD,dR,dX,cy,R3⟩:=gL.zero
 have Mc:=R3 (ks L++c.bP) W
 have Md:dR.cells.toList.length=ah.size α:=ah.len Mc.2
 have jg:ah.size α≠0:=λh=>by rw[h]at dK;cases dK
 have Hf:=Fz Mc n jg
 have AS:dR.cells.size=ah.size α:=by simpa using Md
 have R4:Builtin.zeroCells dR.cells n=(Array.range (n*ah.size α)).map (dR.cells[· % dR.cells.size]!):=by rw[Builtin.zeroCells,AS]
 rw[<-R4]at Hf
 generalize l5:(Builtin.zeroCells dR.cells n).toList=D at Hf
 have asv:D.length=n*ah.size α:=by rw[Hf.1];simp
 have jv:cap≠lo:=by omega
 have hle:(lo+n)*ah.size α<=cap*ah.size α:=hi _ (by omega)
 rw[nh]at hle
 have cD:=Ej (P:=c.P) p (lo*ah.size α) _ D 0 cs W e3 (by omega) Hf.one
 have jt:(execOp a.eval ⟨none,.call ⟨.builtin .clear,#[x],#[t]⟩,ty,pos,af,none⟩).run c.P W=.ok (.value (.tuple #[])) (W.setRow p (gO cs.toList (lo*ah.size α) D).toArray):=by
  obtain⟨m,rfl⟩:∃m,n=m+1:=⟨n-1,by omega⟩;simp only[Nat.add_zero]at cD;simp[execOp,resolve,invoke,builtin,Builtin.clear_,h1,hE,dL hu,jv,zeroValue,typeInfo,run_program,dX,cy,l5,cD,gO]
 refine iw I (R:=λv W'=>W'=W.setRow p (gO cs.toList (lo*ah.size α) D).toArray) (.mK jt I) λv W' hw=>?_
 subst hw
 refine k _ _ (s.store av e3 ?_)
 have kF:cs.toList.length=cap*ah.size α:=by simpa using g1
 have hlen:(uu xs lo n).length=xs.length:=by simp[uu];omega
 have uZ:(cs.toList.take (xs.length*ah.size α)).length=xs.length*ah.size α:=by
  rw[fy];have:xs.length*ah.size α<=cap*ah.size α:=hi _ g2;omega
 have aon:(lo+n)*ah.size α<=xs.length*ah.size α:=hi _ aI
 rw[nh]at aon
 have asf:xs.length*ah.size α<=cap*ah.size α:=hi _ g2
 refine⟨_,rfl,?_,by rw[hlen];exact g2,g3,?_⟩
 ·simp only[Eh,gO,fh,fy,ku];omega
 rw[hlen,List.toList_toArray]
 have g5:=VR (lo:=lo) g4 Hf (by simpa using aI)
 have e:(gO cs.toList (lo*ah.size α) D).take (xs.length*ah.size α)=(cs.toList.take (xs.length*ah.size α)).take (lo*ah.size α)++D++(cs.toList.take (xs.length*ah.size α)).drop (lo*ah.size α+D.length):=by
  have au:(cs.toList.take (lo*ah.size α)).length=lo*ah.size α:=by rw[fy];omega
  have aW:(cs.toList.take (lo*ah.size α)++D).length=lo*ah.size α+D.length:=by rw[fh,au]
  rw[gO,IH,aW,sF (by omega),rM,oR (by omega),vm]
 rw[e]
 simpa[uu]using g5
def bG.share{a:Act}{W:bf}(s:bG c E L a W){i gn p:Nat}{α:Type}[ah α]{z:α}(ao:look E gn=some (.eq (.pointer (some ⟨p,0,none⟩))))(av:L[i]? =some ⟨some p,.var z⟩):bG c ((gn,.ptr z)::E) (L.set i ⟨none,.dead⟩) a W:=by
 have hk:=s.kill i;refine {hk with env:=λt τ en=>?_};simp only[look]at en;by_cases e:Nat.beq gn t=true
 ·rw[e]at en;simp only[cond_true,fi]at en;subst en;have:=eP.1 e;subst this;obtain⟨v,h1,ad⟩:=s.env gn _ ao;have mu:v=_:=ad;subst mu;obtain⟨o,e3,cs,T,rfl,aD⟩:=s.own _ (eo av);have hlen:cs.toList.length=ah.size α:=ah.len aD;refine⟨_,h1,p,0,cs,T,(0,0),rfl,s.FD av,e3,by simp at hlen;omega,?_⟩;rw[vn,<-hlen,nf];have mQ:=BX (L:=L) (i:=i) (cp:=.dead);exact ah.mono (.drop λk hm=>by
   rcases ca.1 hm with hm|hm
   ·exact ca.2 (.inl (mQ.subset hm))
   exact ca.2 (.inr hm)) aD
 simp only[kX]at e;rw[e]at en;exact hk.env t τ en
def ae.share{l:aa Oper}{p:Nat}{α:Type}[ah α]{z:α}(i gn:Nat)(ao:look E gn=some (.eq (.pointer (some ⟨p,0,none⟩))))(av:L[i]? =some ⟨some p,.var z⟩)(k:ae c ops Q l ((gn,.ptr z)::E) (L.set i ⟨none,.dead⟩)):ae c ops Q l E L:=
 λa W s=>k a W (s.share ao av)
def zK{α β:Type}[ah α][ah β]{F:α->aw β}{f:FuncId}{xs:aa bZ}{τs:aa J}(cf:bD c.P f)(al:ic c E L xs τs)(h:∀x r,F x=some r->cm c.P f (.of x::τs) (.of r)):
 bc c E L ⟨d,.makeFunc (.func f) #[] xs.toArray,ty,pos,af,g⟩ (.tl c.P F):=.pure λa W s=>by
 have b2:=al.holds a W s
 refine⟨.func (.func f) #[] (xs.map a.eval).toArray,by simp[execOp,Instr.makeFunc],f,_,_,rfl,cf,λcE W' e ev x r oe lO ba=>?_⟩
 simpa using h x r lO cE W' (oe::xs.map a.eval) ev (.cons ba (b2.mono e))
def J.Flat(τ:J):Prop:=∀A W cE W' v,τ.holds A W v->τ.holds cE W' v
def J5{b:Bool}:(J.of b).Flat:=λ_ _ _ _ _ h=>h
def zD{b:Int}:(J.of b).Flat:=λ_ _ _ _ _ h=>h
def bc.ZG{o:Oper}{τ:J}{T cap:Nat}{key:aw Nat}{α:Type}[ah α]{xs:aa α}(i s:Nat)(ao:look E s=some (.eq (aO key xs.length cap)))(av:L[i]? =some ⟨key,.row T xs cap⟩)(aY:τ.Flat)
 (h:bc c ((s,.of xs)::E) (L.set i ⟨none,.dead⟩) o τ):bc c E L o τ:=λa W st=>by
 have:=h a W (st.freeze ao av)
 unfold gJ at this⊢
 exact vq (λhL W' ⟨v,h1,ad,ay⟩=>⟨v,h1,ad,aY _ _ _ _ _ ay⟩) this
def J.aaa{α:Type}(xs:aa α):J where
 holds _ _ v:=∃b:Bool,v=.bool b∧(b=true->xs=[])
 mono _ h:=h
def Vt{P:Program}{e:bx}(W:bf)(d:Nat){t:bx}(a:aw Addr)(l cp:Nat)(h:P.underlying t=some (.slice e)):(Op.equalIn (d+1) t (.slice a l cp) (.slice none 0 0)).run P W=.ok a.isNone W:=by
 cases a <;> simp[Op.equalIn,dL h]
def Yf{α:Type}[ah α]{xs:aa α}{e:bx}(hu:c.P.underlying t=some (.slice e))(al:aP c E L x (.of xs)):bc c E L ⟨d,.binOp .eql t x (.const (.slice none 0 0)) t2,ty,pos,af,g⟩ (.aaa xs):=.pure λa W s=>by
 have aI:a.eval (.const (.slice none 0 0))=.slice none 0 0:=rfl;rcases pB.1 (al a W s)with⟨h1,rfl⟩|⟨b,off,cap,cur,T,iT,h1,ad⟩
 ·exact⟨.bool true,by
   simp only[execOp,eqGuard,binOp,h1,aI,Op.equal,Op.maxDepth];simp[Vt W 9999 none 0 0 hu],true,rfl,λ_=>rfl⟩
 exact⟨.bool false,by
  simp only[execOp,eqGuard,binOp,h1,aI,Op.equal,Op.maxDepth];simp[Vt W 9999 (some ⟨b,off,none⟩) xs.length cap hu],false,rfl,λh=>by cases h⟩
def az.Yg{α:Type}{y z:Code}{xs:aa α}(ao:aP c E L x (.aaa xs))(bw:xs=[]->az c Q y E L)(aY:az c Q z E L):az c Q (.cond x y z) E L:=λa W s=>by
 obtain⟨b,h1,ad⟩:=ao a W s;exact wpIn_cond_split h1 (λh=>bw (ad h) a W s) (λ_=>aY a W s)
end
def eK(c:cj)(ops:Array Oper)(Q:Exit->Act->bf->Prop)(f:Nat)(bI:Array Bool)(E:aa (Nat×J))(L:aa aE):Prop:=
 ∀a W,bG c E L a W->wpAnyIn c.F 9 c.P .any ops Q f bI a W
def pr(K:Act->bf->Prop)(Q:Exit->Act->bf->Prop):Exit->Act->bf->Prop
 | .normal,a,W=>K a W
 |x,a,W=>Q x a W
def aab:Nat->Nat->aa Bool
 |0,_=>[]
 |n+1,k=>Nat.beq (k % 2) 1::aab n (k/2)
def nv(n k:Nat):Array Bool:=Array.mk (aab n k)
section
variable{c:cj}{E:aa (Nat×J)}{L:aa aE}{ops:Array Oper}{Q:Exit->Act->bf->Prop}
def Oper.agn{F:Fence}{n:Nat}{P:Program}{o:Oper}{a:Act}{K:Act->bf->Prop}{r:Result Next}(h:o.uponIn F n P a K (pr K Q) r):o.uponIn F n P a K Q r:=by
 cases r with
 | ok m pk=>
   cases m <;> simp only[Oper.uponIn]at h⊢ <;>
    first
     |exact h
     |exact⟨h.1,CallsIn.mono h.2 (λe uU he=>by cases e <;> exact he)⟩
     |exact⟨h.1,RoundIn.mono h.2 (λe uU he=>by cases e <;> exact he)⟩
 |halt x pk=>cases x <;> simp only[Oper.uponIn]at h⊢ <;> exact h
def OG{i:Nat}{o:Oper}{K:Act->bf->Prop}{a:Act}{W:bf}(ax:ops[i]? =some o)(h:c.tt ops (pr K Q) [o] a W):wpOpIn c.F 9 c.P ops Q i K a W:=by
 unfold wpOpIn;simp only[ax];simp only[cj.tt,wpListIn]at h;split
 ·rename_i hw;rw[br hw]at h;exact⟨h.1,Oper.agn h.2⟩
 rename_i hw;rw[bn hw]at h;exact h
def CK(c:cj)(ops:Array Oper)(Q:Exit->Act->bf->Prop)(f:Nat)(bI:Array Bool)(E:aa (Nat×J))(L:aa aE):aa Nat->Prop
 |[]=>True
 |i::r=>(∃o,ops[i]? =some o∧ae c ops (pr (wpAnyIn c.F 9 c.P .any ops Q f (bI.setIfInBounds i true)) Q) [o] E L)∧CK c ops Q f bI E L r
def CK.get{f:Nat}{bI:Array Bool}:∀{tP:aa Nat},CK c ops Q f bI E L tP->∀i∈tP,∃o,ops[i]? =some o∧ae c ops (pr (wpAnyIn c.F 9 c.P .any ops Q f (bI.setIfInBounds i true)) Q) [o] E L
 | _::_,h,i,ax=>by
   rcases dO.1 ax with rfl|ax
   ·exact h.1
   exact CK.get h.2 i ax
def eK.step{f:Nat}{bI:Array Bool}(tP:aa Nat)(aD:Region.ready .any ops bI=tP)(cX:tP.isEmpty=false)(h:CK c ops Q f bI E L tP):eK c ops Q (f+1) bI E L:=λa W s=>
 ⟨λbu=>(by rw[<-aD,bu]at cX;exact absurd cX (by simp)),λi ax=>(by
  rw[aD]at ax;obtain⟨o,h1,ad⟩:=h.get i ax;exact OG h1 (ad a W s))⟩
def eK.le{f:Nat}{bI:Array Bool}{E':aa (Nat×J)}(h:eN E E')(k:eK c ops Q f bI E' L):eK c ops Q f bI E L:=λa W s=>k a W (s.less h.look)
def ar.any{f:Nat}{bI sX:Array Bool}(ao:bI=sX)(k:eK c ops Q f sX E L):ar c (pr (wpAnyIn c.F 9 c.P .any ops Q f bI) Q) .normal E L:=λa W s=>by
 subst ao;exact k a W s
def ar.jd{f:Nat}{bI sX:Array Bool}{E':aa (Nat×J)}(k:eK c ops Q f sX E' L)(h:eN E E':=by repeat (first|exact eN.nil|refine eN.same I ?_))(ao:bI=sX:=by kernel_rfl):ar c (pr (wpAnyIn c.F 9 c.P .any ops Q f bI) Q) .normal E L:=.any ao (.le h k)
def eK.aa7{f:Nat}{bI:Array Bool}(tP:aa Nat)(h:CK c ops Q f bI E L tP)(aD:Region.ready .any ops bI=tP:=by kernel_rfl)(cX:tP.isEmpty=false:=by rfl):eK c ops Q (f+1) bI E L:=.step tP aD cX h
def az.alu{jh:Nat}{l:aa Oper}(hm:c.P.follows .mixedOrders=true)(n:Nat)(ls:Array Bool)(aI:l.length=n)(Hg:Array.replicate n false=ls)(h:eK c l.toArray Q n ls E L):az c Q (.region jh l.toArray true) E L:=λa W s=>by
 subst aI Hg;refine wpIn_region_any hm ?_;have:=h a W.drew (s.world (Fr.drew W));simpa using this
end
section
variable{c:cj}{E:aa (Nat×J)}{L:aa aE}{ops:Array Oper}{Q:Exit->Act->bf->Prop}
variable{d:aw Tmp}{ty:bx}{pos:String}{af:Array Edge}{g:aw (Nat×Bool)}{x y:bZ}{t t2:bx}
def ae.sa{α:Type}[ah α]{rest:aa Oper}{a1 e n:Nat}{z:α}{r:aa α}{bt:aa (Nat×bZ)}(hu:c.P.underlying t=some (.slice e))(ez:bK c.P e α)(gL:c4 c.P e z)(hs:Nat.beq (ah.size α) 0=false)(aI:Nat.ble (n*ah.size α) 16777216=true)
 (aY:o0 c E L (List.replicate n z) bt r) (jx:Nat.blt a1 c.n=true) (k:∀p,ae c ops Q rest ((a1,.eq (aO p r.length n))::E) (⟨p,.row e r n⟩::L)):
 ae c ops Q (⟨some a1,.buildSlice t n bt.toArray,ty,pos,af,none⟩::rest) E L:=λa W s=>by
 obtain⟨gD,dR,dX,cy,uY⟩:=gL.zero
 have pN:gD.size=ah.size α:=by
  obtain⟨i2,h1,ad⟩:=ez.info;rw[dX]at h1;cases h1;exact ad
 have fJ:ah.size α≠0:=λh=>by rw[h]at hs;cases hs
 have tz:=Fz (uY (ks L++c.bP) W) n fJ
 obtain⟨dT,ay,aR,aX⟩:=aY.run a W s _ tz
 have hlen:r.length=n:=by rw[aX];simp
 have hm:(bt.toArray.map λ(x:Nat×bZ)=>(x.1,a.eval x.2)).toList=bt.map λ(i,x)=>(i,a.eval x):=by simp
 have aoi:=oO aI
 refine iw I (R:=λv W'=>v=.slice (some ⟨W.heap.size,0,none⟩) n n∧W'=W.alloc (.cells dT e)) (.mK (v:=.slice (some ⟨W.heap.size,0,none⟩) n n) (W':=W.alloc (.cells dT e)) ?_ ⟨rfl,rfl⟩) λv W' ⟨h1,ad⟩=>?_
 ·simp only[execOp,Instr.buildSlice,dI,dL hu,Result.andThen_ok,Go.sizeOf,typeInfo,run_program,dX,Sem.run_pure,pN]
  rw[bn (by omega)]
  try simp only[Sem.run_pure,Result.andThen_ok,dI]
  by_cases bu:n*ah.size α=0
  ·have uX:n=0:=by
    rcases Nat.mul_eq_zero.1 bu with h|h
    ·exact h
    exact absurd h fJ
   subst uX
   simp only[zg,mc,Sem.run_pure,Result.andThen_ok]
   try simp only[zg]at ay
   have hC:((Array.range 0).map (λx=>(#[]:Array bl)[x % (#[]:Array bl).size]!))=((Array.range 0).map (dR.cells[· % dR.cells.size]!)):=by simp
   simp only[pure_bind]
   rw[hC,hm,ay]
   simp[newRow]
  simp only[bu,ot,dI,zeroValue,typeInfo,run_program,Result.andThen_ok,dX,cy,Sem.run_pure]
  rw[hm,ay]
  simp[newRow]
 subst h1 ad
 have xX:n<=maxLen:=by
  have:n*1<=n*ah.size α:=Is _ (by omega);have:maxLen=9223372036854775807:=rfl;omega
 have dK:dT.size=n*ah.size α:=by have:=aR.1;rw[hlen]at this;simpa using this
 have b0:=s.alloc (o:=.cells dT e) (cp:=.row e r n) ⟨dT,rfl,dK,by omega,xX,by
  have bh:=aR.1;rw[<-bh,nf];exact aR⟩
 refine k (some W.heap.size) _ _ (b0.put (τ:=.eq (aO (some W.heap.size) r.length n)) (by simpa using jx) ?_)
 show _=_
 rw[hlen];rfl
def CH{w:Nat}(a b:BitVec w):aw (BitVec w):=if b=0 then none else some (a % b)
def Vp{w:Nat}{a b r:BitVec w}(h:CH a b=some r):b≠0∧a % b=r:=by unfold CH at h;split at h <;> simp_all
def alL{w:Nat}{b:BitVec w}(h:b≠0):(b.toNat:Int)≠0:=λe=>h (y0 (by simpa using e))
def aia{P:Program}{W:bf}{k:IntKind}{x y:Int}(h:y≠0):(Op.intDiv .rem k x y).run P W=.ok (.int k (x.tmod y)) W:=by unfold Op.intDiv;rw[bn h];rfl
def XA{a b r:BitVec 8}(al:aP c E L x (.of a))(hy:aP c E L y (.of b))(h:b≠0∧a % b=r):bc c E L ⟨d,.binOp .rem t x y t2,ty,pos,af,g⟩ (.of r):=.pure λA W s=>
 ⟨.int .u8 r.toNat,by
   obtain⟨h1,rfl⟩:=h;have ay:(a.toNat:Int).tmod b.toNat=((a % b).toNat:Int):=by rw[BitVec.toNat_umod];exact(Int.ofNat_tmod _ _).symm
   have aR:=aia (P:=c.P) (W:=W) (k:=.u8) (x:=a.toNat) (alL h1);rw[ay]at aR;simp only[execOp,eqGuard,binOp,vT.1 (al A W s),vT.1 (hy A W s)];simp[aR],vT.2 I⟩
def ae.hc{l:aa Oper}{key:aw Nat}{n m cap:Nat}(gn:Nat)(ao:look E gn=some (.eq (aO key n cap)))(aI:n=m)(k:ae c ops Q l ((gn,.eq (aO key m cap))::E) L):ae c ops Q l E L:=λa W s=>by
 subst aI;refine k a W (s.less λt τ h=>?_);simp only[look]at h;by_cases e:Nat.beq gn t=true
 ·rw[e]at h;simp only[cond_true]at h;have:=eP.1 e;subst this;exact⟨τ,by rw[ao,h],λ_ _ _ h=>h⟩
 simp only[kX]at e;rw[e]at h;exact⟨τ,h,λ_ _ _ h=>h⟩
end
def hP{α:Type}{xs r:aa α}{k:Nat}{v:α}(h:ft xs k v=r):xs.length=r.length:=by rw[<-h];simp[ft]
def VI{α:Type}{b:Nat}{r:aa α}(h:((eh b [] ([]:aa α)).bind λy=>some y)=some r):r=[]:=by
 obtain⟨y,h1,ad⟩:=bind_some h;obtain⟨_,_,ay⟩:=VO h1;rw[ay]at ad;exact(cZ ad).symm
def lY:bl:=.slice none 0 0
def blank:aa (Nat×bl)->aa bl->aa bl
 |[],cs=>cs
 |o::r,cs=>blank r (cs.set o.1 lY)
def Fm:∀{os:aa (Nat×bl)} {cs:aa bl},(blank os cs).length=cs.length
 |[],_=>rfl
 |o::r,cs=>by rw[blank,Fm,vk]
def uf:∀{os:aa (Nat×bl)} {cs:aa bl} (i:Nat),(blank os cs)[i]? =if os.any (λh=>Nat.beq h.1 i)=true then cs[i]?.map (λ_=>lY)else cs[i]?
 |[],_,i=>by simp[blank]
 | o::r,cs,i=>by
   rw[blank,uf i,List.any_cons];by_cases h:o.1=i
   ·subst h;simp only[ng,NQ,mc,oP];by_cases ao:o.1<cs.length
    ·simp[ao]
    simp[ao]
   have hb:Nat.beq o.1 i=false:=by
    cases hb:Nat.beq o.1 i
    ·rfl
    exact absurd (eP.1 hb) h
   rw[hb,sL,w3 h]
def uy(os:aa (Nat×bl))(off n:Nat):Bool:=os.all λh=>Nat.blt h.1 off||Nat.ble (off+n) h.1
def Vu{os:aa (Nat×bl)}{off n i:Nat}(h:uy os off n=true)(h1:off<=i)(ad:i<off+n):os.any (λh=>Nat.beq h.1 i)=false:=by
 rw[w7];intro x al hb;have ay:=kH.1 h x al;have aR:=eP.1 hb;simp only[oq,Nat.blt_eq,Nat.ble_eq]at ay;omega
def ago{os:aa (Nat×bl)}{off n:Nat}{cs:aa bl}(h:uy os off n=true):((blank os cs).drop off).take n=(cs.drop off).take n:=by
 apply l9;intro i;simp only[jR,lp];split
 ·rw[uf,Vu h (by omega) (by omega)];rfl
 rfl
def zx{cs ds:aa bl}{off:Nat}(h:off+ds.length<=cs.length)(i:Nat):(gO cs off ds)[i]? =if i<off then cs[i]? else if i<off+ds.length then ds[i-off]? else cs[i]? :=by
 have h1:(cs.take off).length=off:=by rw[fy];omega
 unfold gO;rw[jn];by_cases ax:i<off
 ·rw[br ax,Bk (by omega),jR,br ax]
 rw[bn ax,DQ (by omega),h1];by_cases ad:i<off+ds.length
 ·rw[br ad,Bk (by omega)]
 rw[bn ad,DQ (by omega),lp];congr 1;omega
def aff{os:aa (Nat×bl)}{off:Nat}{cs ds:aa bl}(h:uy os off ds.length=true)(hs:off+ds.length<=cs.length):blank os (gO cs off ds)=gO (blank os cs) off ds:=by
 apply l9;intro i;rw[uf,zx hs,zx (by rw[Fm];exact hs),uf];by_cases h1:i<off
 ·simp only[br h1]
 simp only[bn h1];by_cases ad:i<off+ds.length
 ·simp only[br ad,Vu h (Nat.not_lt.1 h1) ad];rfl
 simp only[bn ad]
def xt(os:aa (Nat×bl))(o:Nat)(u:bl):aa (Nat×bl):=
 bif os.any (λh=>Nat.beq h.1 o)then os.map (λh=>bif Nat.beq h.1 o then(o,u)else h)else(o,u)::os
def aft{os:aa (Nat×bl)}{o:Nat}{u:bl}{h:Nat×bl}(hm:h∈xt os o u):h=(o,u)∨(h∈os∧h.1≠o):=by
 unfold xt at hm;cases hb:os.any (λh=>Nat.beq h.1 o)
 ·rw[hb]at hm;simp only[cond_false]at hm;rcases dO.1 hm with hm|hm
  ·exact .inl hm
  refine .inr ⟨hm,λe=>?_⟩;have:=w7.1 hb h hm;exact this (eP.2 e)
 rw[hb]at hm;simp only[cond_true]at hm;obtain⟨x,al,he⟩:=gY.1 hm;cases h1:Nat.beq x.1 o
 ·rw[h1]at he;simp only[cond_false]at he;subst he;exact .inr ⟨al,λe=>by rw[eP.2 e]at h1;cases h1⟩
 rw[h1]at he;exact .inl he.symm
def afu{os:aa (Nat×bl)}{o i:Nat}{u:bl}:(xt os o u).any (λh=>Nat.beq h.1 i)=(Nat.beq o i||os.any (λh=>Nat.beq h.1 i)):=by
 unfold xt;cases hb:os.any (λh=>Nat.beq h.1 o)
 ·simp only[cond_false,List.any_cons]
 simp only[cond_true,List.any_map];rw[oo,oq,oQ,oQ];constructor
 ·rintro ⟨x,al,he⟩;simp only[Function.comp]at he;cases h1:Nat.beq x.1 o
  ·rw[h1]at he;exact .inr ⟨x,al,he⟩
  rw[h1]at he;exact .inl he
 rintro (h|⟨x,al,he⟩)
 ·obtain⟨x,al,h1⟩:=oQ.1 hb;exact⟨x,al,by simp only[Function.comp,h1,cond_true];exact h⟩
 refine⟨x,al,?_⟩;simp only[Function.comp];cases h1:Nat.beq x.1 o
 ·exact he
 have au:=eP.1 h1;have aW:=eP.1 he;simp only[cond_true];exact eP.2 (by omega)
def uo(os:aa (Nat×bl))(o:Nat):aa (Nat×bl):=os.filter (λh=> !Nat.beq h.1 o)
def afv{os:aa (Nat×bl)}{o i:Nat}:(uo os o).any (λh=>Nat.beq h.1 i)=(!(Nat.beq o i)&&os.any (λh=>Nat.beq h.1 i)):=by
 rw[oo];simp only[oQ,gq,vh,uo,sI];constructor
 ·rintro ⟨x,⟨h1,ad⟩,ay⟩;refine⟨?_,x,h1,ay⟩;cases hb:Nat.beq o i
  ·rfl
  have:=eP.1 hb;have aR:=eP.1 ay;rw[aR,<-this,ng]at ad;cases ad
 rintro ⟨bu,x,h1,ay⟩;refine⟨x,⟨h1,?_⟩,ay⟩;cases hb:Nat.beq x.1 o
 ·rfl
 have:=eP.1 hb;have aR:=eP.1 ay;rw[<-this,aR,ng]at bu;cases bu
def nw{α:Type}[ah α](A:aa Nat)(W:bf)(cs:aa bl)(x:α)(os:aa (Nat×bl)):Prop:=ah.rep A W (blank os cs) x∧∀h∈os,cs[h.1]? =some h.2∧h.2.oneCell'=true
def nw.len{α:Type}[ah α]{A W}{cs:aa bl}{x:α}{os:aa (Nat×bl)}(h:nw A W cs x os):cs.length=ah.size α:=by rw[<-Fm (os:=os)];exact ah.len h.1
def nw.mono{α:Type}[ah α]{A W cE W'}{cs:aa bl}{x:α}{os:aa (Nat×bl)}(e:Ext A W cE W')(h:nw A W cs x os):nw cE W' cs x os:=⟨ah.mono e h.1,h.2⟩
def nw.one{α:Type}[ah α]{A W}{cs:aa bl}{x:α}{os:aa (Nat×bl)}(h:nw A W cs x os):∀u∈cs,u.oneCell'=true:=by
 intro u hu;obtain⟨i,ax⟩:=l8.1 hu;by_cases hb:os.any (λh=>Nat.beq h.1 i)=true
 ·obtain⟨o,aU,he⟩:=oQ.1 hb;have he:=eP.1 he;obtain⟨h1,ad⟩:=h.2 o aU;rw[he,ax]at h1;cases h1;exact ad
 have h1:=uf (os:=os) (cs:=cs) i;rw[bn hb,ax]at h1;exact ah.one h.1 u (eo h1)
def dr.cq{α:Type}[ah α](x:α)(os:aa (Nat×bl)):dr where
 holds A W o:=∃cs T,o=.cells cs T (0,0)∧nw A W cs.toList x os
 nX:=False
 mono e h:=let⟨cs,T,aU,aD⟩:=h; ⟨cs,T,aU,aD.mono e⟩
def J.Me{α:Type}[ah α](x:α)(os:aa (Nat×bl)):J where
 holds A W v:=shaped (ah.agg α) v∧nw A W v.cells.toList x os
 mono e h:=⟨h.1,h.2.mono e⟩
structure eu where
 v:Value
instance:ah eu where
 size:=1
 agg:=false
 rep _ _ cs x:=cs=[x.v]∧x.v.oneCell'=true
 len h:=by rw[h.1];rfl
 one h:=by rw[h.1];intro u hu;rw[gX.1 hu];exact h.2
 flat _:=rfl
 mono _ h:=h
def xO{A W v}{u:bl}:(J.of (⟨u⟩:eu)).holds A W v↔v=u∧u.oneCell'=true:=by
 constructor
 ·rintro ⟨h1,ad,ay⟩;have h1:v.oneCell'=true:=h1;exact⟨ov h1 ad,ay⟩
 rintro ⟨rfl,h⟩;exact⟨h,by show v.cells.toList=[v]∧_;rw[cells_one h];exact⟨rfl,h⟩⟩
theorem bK.ex{P:Program}{t:bx}{γ:Type}[ah γ](h:bK P t (aa γ)):bK P t eu:=⟨h.size,h.abb⟩
def hU{key:aw Nat}{n cap:Nat}:(aO key n cap).oneCell'=true:=by cases key <;> rfl
def aib{A W}{γ:Type}[ah γ]:ah.rep A W [lY] ([]:aa γ):=⟨lY,rfl,.inl ⟨rfl,rfl⟩⟩
def Wg{α γ:Type}[ah α][ah γ]{A W}{cs ds:aa bl}{x:α}{v:γ}{os:aa (Nat×bl)}(l:aN α γ)(h:nw A W cs x os)(hd:ah.rep A W ds v)(a7:uy os l.off (ah.size γ)=true):nw A W (gO cs l.off ds) (l.set x v) os:=by
 have h1:=h.len;have fu:=l.gV;have ao:=ah.len hd;refine⟨?_,λo hm=>?_⟩
 ·have bh:=l.nS h.1 hd;rw[aff (by rw[ao];exact a7) (by rw[ao];omega)];simpa[gO,ao]using bh
 refine⟨?_,(h.2 o hm).2⟩;rw[zx (by rw[ao];omega)];have c5:=kH.1 a7 o hm;simp only[oq,Nat.blt_eq,Nat.ble_eq]at c5;rw[ao];by_cases dW:o.1<l.off
 ·rw[br dW];exact(h.2 o hm).1
 rw[bn dW,bn (by omega)];exact(h.2 o hm).1
def VS{α γ:Type}[ah α][ah γ]{A W}{cs:aa bl}{x:α}{u:bl}{os:aa (Nat×bl)}(l:aN α (aa γ))(h:nw A W cs x os)(hu:u.oneCell'=true):nw A W (gO cs l.off [u]) (l.set x []) (xt os l.off u):=by
 have h1:=h.len;have fu:l.off+1<=ah.size α:=l.gV;refine⟨?_,λo hm=>?_⟩
 ·have bh:ah.rep A W ((blank os cs).take l.off++[lY]++(blank os cs).drop (l.off+1)) (l.set x []):=l.nS h.1 (aib (γ:=γ));have e:blank (xt os l.off u) (gO cs l.off [u])=gO (blank os cs) l.off [lY]:=by
   apply l9;intro i;rw[uf,zx (by simp;omega),zx (by rw[Fm];simp;omega),uf];rw[afu];by_cases ax:l.off=i
   ·subst ax;simp
   have hb:Nat.beq l.off i=false:=by
    cases hb:Nat.beq l.off i
    ·rfl
    exact absurd (eP.1 hb) ax
   rw[hb];simp only[sL,List.length_singleton];by_cases ad:i<l.off
   ·simp only[br ad]
   have fp: ¬i<l.off+1:=by omega
   simp only[bn ad,bn fp]
  rw[e];simpa[gO]using bh
 rw[zx (by simp;omega)];rcases aft hm with rfl|⟨ay,cX⟩
 ·exact⟨by simp,hu⟩
  
 simp only[List.length_singleton]
 refine⟨?_,(h.2 o ay).2⟩
 by_cases dW:o.1<l.off
 ·rw[br dW];exact(h.2 o ay).1
 rw[bn dW,bn (by omega)];exact(h.2 o ay).1
def VT{α γ:Type}[ah α][ah γ]{A W}{cs:aa bl}{x:α}{u:bl}{xs:aa γ}{os:aa (Nat×bl)}(l:aN α (aa γ))(h:nw A W cs x os)(hm:(l.off,u)∈os)(hs:qZ A W u xs):nw A W cs (l.set x xs) (uo os l.off):=by
 have h1:=h.len;have fu:l.off+1<=ah.size α:=l.gV;have aqd:=(h.2 _ hm).1;refine⟨?_,λo aU=>h.2 o (sI.1 aU).1⟩;have bh:ah.rep A W ((blank os cs).take l.off++[u]++(blank os cs).drop (l.off+1)) (l.set x xs):=l.nS h.1 (ds:=[u]) (g:=xs) ⟨u,rfl,hs⟩;have e:blank (uo os l.off) cs=gO (blank os cs) l.off [u]:=by
  apply l9;intro i;rw[uf,zx (by rw[Fm];simp;omega),uf,afv];by_cases ax:l.off=i
  ·subst ax;simp[aqd]
  have hb:Nat.beq l.off i=false:=by
   cases hb:Nat.beq l.off i
   ·rfl
   exact absurd (eP.1 hb) ax
  rw[hb];simp only[Bool.not_false,zd,List.length_singleton];by_cases ad:i<l.off
  ·simp only[br ad]
  have fp: ¬i<l.off+1:=by omega
  simp only[bn ad,bn fp]
 rw[e];simpa[gO]using bh
section
variable{c:cj}{E:aa (Nat×J)}{L:aa aE}{ops:Array Oper}{Q:Exit->Act->bf->Prop}
variable{d:aw Tmp}{ty:bx}{pos:String}{af:Array Edge}{g:aw (Nat×Bool)}{x y:bZ}{t t2:bx}
def bG.Cu{a:Act}{W:bf}(s:bG c E L a W){i:Nat}{key:aw Nat}{cp cp':dr}(av:L[i]? =some ⟨key,cp⟩)(h:∀o,cp.holds (ks L++c.bP) W o->cp'.holds (ks L++c.bP) W o)(aI:cp.nX->cp'.nX):bG c E (L.set i ⟨key,cp'⟩) a W:=by
 have gw:ks (L.set i ⟨key,cp'⟩)=ks L:=zU (e:=⟨key,cp⟩) (cp:=cp') av;exact
 {defers:=s.defers
  size:=s.size
  env:=λt τ ao=>by rw[gw];exact s.env t τ ao
  dk:=s.dk
  own:=λe he=>by
   rw[gw];obtain⟨j,aC⟩:=l8.1 he;rw[oP]at aC;split at aC
   ·split at aC
    ·simp only[fi]at aC;subst aC;have aU:=s.own _ (eo av);cases key with
     |none=>exact aI aU
     |some p=>obtain⟨o,h1,ad⟩:=aU;exact⟨o,h1,h _ ad⟩
    cases aC
   exact s.own e (eo aC)
  nodup:=by rw[gw];exact s.nodup
  lt:=by rw[gw];exact s.lt
  fR:=by rw[gw];exact s.fR
  er:=by rw[gw];exact s.er}
def ae.apZ{l:aa Oper}{p:Nat}{β:Type}[ah β]{b:β}(i:Nat)(av:L[i]? =some ⟨some p,.var b⟩)(k:ae c ops Q l E (L.set i ⟨some p,.cq b []⟩)):ae c ops Q l E L:=λa W s=>
 k a W (s.Cu av (λo ⟨cs,T,h1,ad⟩=>⟨cs,T,h1,ad,λ_ h=>by cases h⟩) id)
def ae.qt{l:aa Oper}{p:Nat}{β:Type}[ah β]{b:β}(i:Nat)(av:L[i]? =some ⟨some p,.cq b []⟩)(k:ae c ops Q l E (L.set i ⟨some p,.var b⟩)):ae c ops Q l E L:=λa W s=>
 k a W (s.Cu av (λo ⟨cs,T,h1,ad⟩=>⟨cs,T,h1,ad.1⟩) id)
def ar.qt{z:Exit}{p:Nat}{β:Type}[ah β]{b:β}(i:Nat)(av:L[i]? =some ⟨some p,.cq b []⟩)(k:ar c Q z E (L.set i ⟨some p,.var b⟩)):ar c Q z E L:=λa W s=>
 k a W (s.Cu av (λo ⟨cs,T,h1,ad⟩=>⟨cs,T,h1,ad.1⟩) id)
def Qf:aw bl->Bool
 |some (.slice none 0 0)=>true
 |_=>false
def Vv{v:aw bl}(h:Qf v=true):v=some lY:=by
 unfold Qf at h;split at h
 ·rfl
 cases h
def jy(P:Program)(t:bx)(hs:aa Nat):Prop:=((P.info? t).bind (·.zero)).any (λv=>hs.all λo=>Qf v.cells.toList[o]?)=true
def OS:∀{os:aa (Nat×bl)} {cs:aa bl},(∀h∈os,cs[h.1]? =some lY)->blank os cs=cs
 |[],_,_=>rfl
 | o::r,cs,h=>by
   have h1:=h o (by simp);have e:cs.set o.1 lY=cs:=by
    apply l9;intro i;rw[oP];split
    ·rename_i he;subst he;have:=(fL.1 h1).1;rw[br this,h1]
    rfl
   rw[blank,e];exact OS λx al=>h x (by simp[al])
def ae.qp{rest:aa Oper}{a1:Nat}{α:Type}[ah α]{z:α}(hs:aa Nat)(wP:jy c.P t hs)(gL:c4 c.P t z)(aI:Nat.blt a1 c.n=true)
 (k:∀p,ae c ops Q rest ((a1,.eq (.pointer (some ⟨p,0,none⟩)))::E) (⟨some p,.cq z (hs.map λo=>(o,lY))⟩::L)):ae c ops Q (⟨some a1,.alloc t,ty,pos,af,none⟩::rest) E L:=λa W s=>by
 obtain⟨i,dR,h1,ad,ay⟩:=gL.zero
 have b2:∀o∈hs,dR.cells.toList[o]? =some lY:=λo aU=>by
  unfold jy at wP;rw[h1]at wP;simp only[Option.bind_some,ad,Option.any_some]at wP;exact Vv (kH.1 wP o aU)
 have abh:∀h∈hs.map (λo=>(o,lY)),dR.cells.toList[h.1]? =some h.2:=λh hm=>by
  obtain⟨o,aU,rfl⟩:=gY.1 hm;exact b2 o aU
 refine iw I (R:=λv W'=>v=.pointer (some ⟨W.heap.size,0,none⟩)∧W'=W.alloc (.cells dR.cells t)) (.mK ?_ ⟨rfl,rfl⟩) λv W' ⟨ba,hw⟩=>?_
 ·simp[execOp,Instr.alloc,zeroValue,typeInfo,h1,ad,newVar,newRow]
 subst ba
 subst hw
 refine k _ _ _ ((s.alloc (cp:=.cq z (hs.map λo=>(o,lY))) ⟨dR.cells,t,rfl,?_,λh hm=>⟨abh h hm,by obtain⟨o,_,rfl⟩:=gY.1 hm;rfl⟩⟩).put (by simpa using aI) I)
 rw[OS λh hm=>by rw[abh h hm];obtain⟨o,_,rfl⟩:=gY.1 hm;rfl]
 exact(ay _ _).2
def ae.Zj{rest:aa Oper}{a1:Nat}{α:Type}[ah α]{z:α}{os:aa (Nat×bl)}(al:aP c E L x (.Me z os))(aI:Nat.blt a1 c.n=true)
 (k:∀p,ae c ops Q rest ((a1,.eq (.pointer (some ⟨p,0,none⟩)))::E) (⟨some p,.cq z os⟩::L)):ae c ops Q (⟨some a1,.box t x,ty,pos,af,none⟩::rest) E L:=λa W s=>by
 refine iw I (R:=λv W'=>v=.pointer (some ⟨W.heap.size,0,none⟩)∧W'=W.alloc (.cells (a.eval x).cells t)) (.mK ?_ ⟨rfl,rfl⟩) λv W' ⟨ba,hw⟩=>?_
 ·simp[execOp,Instr.box,newVar,newRow]
 subst ba
 subst hw
 obtain⟨h1,ad⟩:=al a W s
 exact k _ _ _ ((s.alloc (cp:=.cq z os) ⟨_,t,rfl,ad⟩).put (by simpa using aI) I)
def Kj{t:bx}{i p o:Nat}{β γ:Type}[ah β][ah γ]{b:β}{os:aa (Nat×bl)}(l:aN β γ){r:γ}(dQ:bK c.P t γ)(al:aP c E L x (.eq (.pointer (some ⟨p,o,none⟩))))
 (av:L[i]? =some ⟨some p,.cq b os⟩) (aU:o=l.off) (aD:l.get b=r) (a7:uy os l.off (ah.size γ)=true):bc c E L ⟨d,.load t x,ty,pos,af,g⟩ (.of r):=.pure λa W s=>by
 subst aU
 subst aD
 obtain⟨l4,e3,cs,T,rfl,gS⟩:=s.own _ (eo av)
 have h1:cs.toList.length=ah.size β:=gS.len
 have aX:=l.jF gS.1
 rw[ago a7]at aX
 obtain⟨v,ad,ay⟩:=zl (A:=ks L++c.bP) dQ e3 (by have:=l.gV;simp at h1;omega) aX
 refine⟨v,?_,ay⟩
 have aR:a.eval x=_:=al a W s
 simp[execOp,Instr.loadAt,Instr.sureAddr,aR,ad]
def aic{cs:aa bl}{o:Nat}{u:bl}(h:cs[o]? =some u):(cs.drop o).take 1=[u]:=by
 apply l9;intro i;rw[jR,lp];cases i with
 |zero=>simpa using h
 |succ i=>simp
def gN{t:bx}{i p o q:Nat}{β γ:Type}[ah β][ah γ]{b:β}{os:aa (Nat×bl)}{u:bl}(dQ:bK c.P t (aa γ))(al:aP c E L x (.eq (.pointer (some ⟨p,o,none⟩))))
 (av:L[i]? =some ⟨some p,.cq b os⟩) (hq:os[q]? =some (o,u)):bc c E L ⟨d,.load t x,ty,pos,af,g⟩ (.eq u):=.pure λa W s=>by
 obtain⟨l4,e3,cs,T,rfl,gS,b2⟩:=s.own _ (eo av)
 obtain⟨aX,hu⟩:=b2 _ (eo hq)
 have b9:o<cs.size:=by have:=(fL.1 aX).1;simpa using this
 obtain⟨v,ad,ay⟩:=zl (α:=eu) (x:=⟨u⟩) (A:=ks L++c.bP) dQ.ex e3 (show o+1<=cs.size by omega) ⟨aic aX,hu⟩
 refine⟨v,?_,(xO.1 ay).1⟩
 have aR:a.eval x=_:=al a W s
 simp[execOp,Instr.loadAt,Instr.sureAddr,aR,ad]
def ae.Co{t:bx}{rest:aa Oper}{i p o:Nat}{β γ:Type}[ah β][ah γ]{b b':β}{v:γ}{os:aa (Nat×bl)}(l:aN β γ)(dQ:bK c.P t γ)(al:aP c E L x (.eq (.pointer (some ⟨p,o,none⟩))))
 (hy:aP c E L y (.of v)) (av:L[i]? =some ⟨some p,.cq b os⟩) (aU:o=l.off) (hb:l.set b v=b') (a7:uy os l.off (ah.size γ)=true)
 (k:ae c ops Q rest E (L.set i ⟨some p,.cq b' os⟩)):ae c ops Q (⟨none,.store t x y,ty,pos,af,none⟩::rest) E L:=λa W s=>by
 subst aU
 subst hb
 obtain⟨l4,e3,cs,T,rfl,gS⟩:=s.own _ (eo av)
 have h1:cs.toList.length=ah.size β:=gS.len
 have fu:=l.gV
 have ba:=hy a W s
 have ad:=JC (A:=ks L++c.bP) dQ e3 (off:=l.off) (by simp at h1;omega) ba
 have aR:a.eval x=_:=al a W s
 refine iw I (R:=λv W'=>W'=W.setRow p (gO cs.toList l.off (a.eval y).cells.toList).toArray) (.Cm ?_ I) λv W' hw=>?_
 ·simp[execOp,Instr.storeAt,Instr.sureAddr,aR,ad]
 subst hw
 exact k _ _ (s.store av e3 ⟨_,T,rfl,by rw[List.toList_toArray];exact Wg l gS ba.2 a7⟩)
def ae.iZ{t:bx}{rest:aa Oper}{i p o:Nat}{β γ:Type}[ah β][ah γ]{b b':β}{u:bl}{os os':aa (Nat×bl)}(l:aN β (aa γ))(dQ:bK c.P t (aa γ))(al:aP c E L x (.eq (.pointer (some ⟨p,o,none⟩))))
 (hy:aP c E L y (.eq u)) (hu:u.oneCell'=true) (av:L[i]? =some ⟨some p,.cq b os⟩) (aU:o=l.off) (hb:l.set b []=b') (rA:xt os o u=os')
 (k:ae c ops Q rest E (L.set i ⟨some p,.cq b' os'⟩)):ae c ops Q (⟨none,.store t x y,ty,pos,af,none⟩::rest) E L:=λa W s=>by
 subst aU
 subst hb
 subst rA
 obtain⟨l4,e3,cs,T,rfl,gS⟩:=s.own _ (eo av)
 have h1:cs.toList.length=ah.size β:=gS.len
 have fu:l.off+1<=ah.size β:=l.gV
 have abi:a.eval y=u:=hy a W s
 have ba:(J.of (⟨u⟩:eu)).holds (ks L++c.bP) W (a.eval y):=xO.2 ⟨abi,hu⟩
 have ad:=JC (A:=ks L++c.bP) dQ.ex e3 (off:=l.off) (show l.off+1<=cs.size by simp at h1;omega) ba
 have aR:a.eval x=_:=al a W s
 have kF:(a.eval y).cells.toList=[u]:=by rw[abi,cells_one hu]
 rw[kF]at ad
 refine iw I (R:=λv W'=>W'=W.setRow p (gO cs.toList l.off [u]).toArray) (.Cm ?_ I) λv W' hw=>?_
 ·simp[execOp,Instr.storeAt,Instr.sureAddr,aR,ad]
 subst hw
 exact k _ _ (s.store av e3 ⟨_,T,rfl,by rw[List.toList_toArray];exact VS l gS hu⟩)
def aeU{P:Program}{W:bf}{b off:Nat}{cur:Array bl}{T t:bx}{α:Type}[ah α]{v:bl}(ty:bK P t α)
 (hb:W.heap[b]? =some (.cells cur T (0,0))) (hs:off+ah.size α<=cur.size) (ao:v.cells.toList.length=ah.size α) (h1:∀u∈v.cells.toList,u.oneCell'=true):
 (storeVar t ⟨b,off,none⟩ v).run P W=.ok () (W.setRow b (gO cur.toList off v.cells.toList).toArray):=by
 have ad:=Ej P b off T v.cells.toList 0 cur W hb (by rw[ao];omega) h1
 have dK:v.cells.size=ah.size α:=by simpa using ao
 simp only[Nat.add_zero]at ad
 simp only[storeVar,dI,ty.sizeOf,Result.andThen_ok,dK]
 simp only[ne_eq,not_true_eq_false,↓reduceIte,Sem.run_pure,dI,Result.andThen_ok]
 simpa[gO]using ad
def ae.uq{t:bx}{rest:aa Oper}{i p:Nat}{β:Type}[ah β]{b b':β}{os os':aa (Nat×bl)}(dQ:bK c.P t β)(al:aP c E L x (.eq (.pointer (some ⟨p,0,none⟩))))
 (hy:aP c E L y (.Me b' os')) (av:L[i]? =some ⟨some p,.cq b os⟩)
 (k:ae c ops Q rest E (L.set i ⟨some p,.cq b' os'⟩)):ae c ops Q (⟨none,.store t x y,ty,pos,af,none⟩::rest) E L:=λa W s=>by
 obtain⟨l4,e3,cs,T,rfl,gS⟩:=s.own _ (eo av)
 have h1:cs.toList.length=ah.size β:=gS.len
 obtain⟨g1,g2⟩:=hy a W s
 have ao:=g2.len
 have ad:=aeU dQ e3 (off:=0) (by simp at h1;omega) ao g2.one
 have aR:a.eval x=_:=al a W s
 have e:gO cs.toList 0 (a.eval y).cells.toList=(a.eval y).cells.toList:=by
  unfold gO;rw[List.take_zero,List.nil_append,h7,ao,<-h1,w9,ma]
 rw[e]at ad
 refine iw I (R:=λv W'=>W'=W.setRow p (a.eval y).cells.toList.toArray) (.Cm ?_ I) λv W' hw=>?_
 ·simp[execOp,Instr.storeAt,Instr.sureAddr,aR,ad]
 subst hw
 exact k _ _ (s.store av e3 ⟨_,T,rfl,by rw[List.toList_toArray];exact g2⟩)
def mg{p:Addr}(al:aP c E L x (.eq (.pointer (some p)))):bc c E L ⟨d,.nilCheck x,ty,pos,af,g⟩ (.eq (.pointer (some p))):=.pure λa W s=>by
 have aR:a.eval x=_:=al a W s;exact⟨_,by simp[execOp,aR],rfl⟩
def aji{γ:Type}[ah γ]{r:γ}(al:aP c E L x (.ptr r)):bc c E L ⟨d,.nilCheck x,ty,pos,af,g⟩ (.ptr r):=.pure λa W s=>by
 have hp:=al a W s;obtain⟨b,off,cur,T,iT,aR,aX⟩:=hp;exact⟨_,by simp[execOp,aR],b,off,cur,T,iT,rfl,aX⟩
def bG.mN{a:Act}{W:bf}(s:bG c E L a W){i j p cap T:Nat}{key:aw Nat}{β γ:Type}[ah β][ah γ]{b b':β}{xs:aa γ}{os os':aa (Nat×bl)}(l:aN β (aa γ))(hI:i≠j)(av:L[i]? =some ⟨some p,.cq b os⟩)(sA:L[j]? =some ⟨key,.row T xs cap⟩)
 (q:Nat) (hq:os[q]? =some (l.off,aO key xs.length cap)) (hb:l.set b xs=b') (rA:uo os l.off=os'):bG c E ((L.set j ⟨none,.dead⟩).set i ⟨some p,.cq b' os'⟩) a W:=by
 subst hb
 subst rA
 have hk:=s.kill j
 have ax:(L.set j ⟨none,.dead⟩)[i]? =some ⟨some p,.cq b os⟩:=by rw[w3 (λe=>hI e.symm)];exact av
 have mQ:=BX (L:=L) (i:=j) (cp:=.dead)
 have pf:qZ (ks (L.set j ⟨none,.dead⟩)++c.bP) W (aO key xs.length cap) xs:=by
  have aU:=s.own _ (eo sA);cases key with
  |none=>exact .inl ⟨rfl,aU.1⟩
  | some p=>
    obtain⟨o,e3,cs,rfl,dK,aI,AJ,aD⟩:=aU
    obtain⟨ay,aR⟩:=OL dK aI aD
    refine .inr ⟨p,0,cap,cs,T,(0,0),rfl,s.FD sA,e3,aI,by omega,ay,?_⟩
    exact aR.mono (.drop λk hm=>by
     rcases ca.1 hm with hm|hm
     ·exact ca.2 (.inl (mQ.subset hm))
     exact ca.2 (.inr hm))
 exact hk.Cu ax (λo ⟨cs,T,h1,ad⟩=>⟨cs,T,h1,VT l ad (eo hq) pf⟩) id
def ae.mN{HW:aa Oper}{p cap T:Nat}{key:aw Nat}{β γ:Type}[ah β][ah γ]{b b':β}{xs:aa γ}{os os':aa (Nat×bl)}(l:aN β (aa γ))(i j q:Nat)(hI:Nat.beq i j=false)(av:L[i]? =some ⟨some p,.cq b os⟩)(sA:L[j]? =some ⟨key,.row T xs cap⟩)
 (hq:os[q]? =some (l.off,aO key xs.length cap)) (hb:l.set b xs=b') (rA:uo os l.off=os') (k:ae c ops Q HW E ((L.set j ⟨none,.dead⟩).set i ⟨some p,.cq b' os'⟩)):ae c ops Q HW E L:=
 λa W s=>k a W (s.mN l (λe=>by rw[e,ng]at hI;cases hI) av sA q hq hb rA)
def bG.K9{a:Act}{W:bf}(s:bG c E L a W){i j p cap T gn:Nat}{key:aw Nat}{β γ:Type}[ah β][ah γ]{b b':β}{xs:aa γ}{os os':aa (Nat×bl)}(l:aN β (aa γ))(hI:i≠j)(av:L[i]? =some ⟨some p,.cq b os⟩)(sA:L[j]? =some ⟨key,.row T xs cap⟩)
 (q:Nat) (hq:os[q]? =some (l.off,aO key xs.length cap)) (hb:l.set b xs=b') (rA:uo os l.off=os') (pf:look E gn=some (.eq (aO key xs.length cap))):bG c ((gn,.of xs)::E) ((L.set j ⟨none,.dead⟩).set i ⟨some p,.cq b' os'⟩) a W:=by
 have h1:=s.freeze pf sA
 subst hb
 subst rA
 have ax:(L.set j ⟨none,.dead⟩)[i]? =some ⟨some p,.cq b os⟩:=by rw[w3 (λe=>hI e.symm)];exact av
 obtain⟨v,ad,ay⟩:=h1.env gn (.of xs) (by simp[look,ng])
 obtain⟨DH,aR,aX⟩:=s.env gn _ pf
 rw[ad]at aR
 cases aR
 have aX:v=_:=aX
 subst aX
 exact h1.Cu ax (λo ⟨cs,T,g1,g2⟩=>⟨cs,T,g1,VT l g2 (eo hq) (pB.1 ay)⟩) id
def ar.K9{z:Exit}{p cap T:Nat}{key:aw Nat}{β γ:Type}[ah β][ah γ]{b b':β}{xs:aa γ}{os os':aa (Nat×bl)}(l:aN β (aa γ))(i j q gn:Nat)(hI:Nat.beq i j=false)(av:L[i]? =some ⟨some p,.cq b os⟩)(sA:L[j]? =some ⟨key,.row T xs cap⟩)
 (hq:os[q]? =some (l.off,aO key xs.length cap)) (hb:l.set b xs=b') (rA:uo os l.off=os') (pf:look E gn=some (.eq (aO key xs.length cap))) (k:ar c Q z ((gn,.of xs)::E) ((L.set j ⟨none,.dead⟩).set i ⟨some p,.cq b' os'⟩)):ar c Q z E L:=
 λa W s=>k a W (s.K9 l (λe=>by rw[e,ng]at hI;cases hI) av sA q hq hb rA pf)
inductive xF(c:cj)(E:List (Nat×J))(L:List aE)(place:Nat->Option (Nat×Nat)){β:Type}[ah β]:β->List (Nat×Value)->List (Nat×Operand)->β->List (Nat×Value)->Prop
 |nil {b os}:xF c E L place b os [] b os
 |cons {b c7 b':β} {os os':List (Nat×Value)} {γ:Type} [ah γ] {v:γ} {i:Nat} {x:Operand} {r:List (Nat×Operand)} (l:aN β γ):place i=some (l.off,ah.size γ)->aP c E L x (.of v)->l.set b v=c7->uy os l.off (ah.size γ)=true->xF c E L place c7 os r b' os'->xF c E L place b os ((i,x)::r) b' os'
 |hole {b c7 b':β} {os R5 os':List (Nat×Value)} {γ:Type} [ah γ] {u:Value} {i:Nat} {x:Operand} {r:List (Nat×Operand)} (l:aN β (List γ)):place i=some (l.off,1)->aP c E L x (.eq u)->u.oneCell'=true->l.set b []=c7->xt os l.off u=R5->xF c E L place c7 R5 r b' os'->xF c E L place b os ((i,x)::r) b' os'
def xF.run{place:Nat->aw (Nat×Nat)}{β:Type}[ah β]{b b':β}{os os':aa (Nat×bl)}{bt:aa (Nat×bZ)}(h:xF c E L place b os bt b' os'):∀a W,bG c E L a W->∀cs:Array bl,nw (ks L++c.bP) W cs.toList b os->
 ∃dT,Instr.fill place cs (bt.map λ(i,x)=>(i,a.eval x))=some dT∧nw (ks L++c.bP) W dT.toList b' os':=by
 induction h with
 |nil=>intro a W s cs aD;exact⟨cs,rfl,aD⟩
 | @cons b c7 b' os os' γ _ v i x r l h1 ad ay aR _ bJ=>
   intro a W s cs aD
   subst ay
   have ba:=ad a W s
   have dK:(a.eval x).cells.size=ah.size γ:=by have:=ah.len ba.2;simpa using this
   have ao:cs.toList.length=ah.size β:=aD.len
   have fu:=l.gV
   rw[mb,Kd h1 dK (by simp at ao;omega)]
   refine bJ a W s _ ?_
   have:=Wg l aD ba.2 aR
   simpa[gO,ah.len ba.2]using this
 | @hole b c7 b' os R5 os' γ _ u i x r l h1 ad ay aR aX _ bJ=>
   intro a W s cs aD
   subst aR
   subst aX
   have ba:a.eval x=u:=ad a W s
   have ak:(a.eval x).cells.toList=[u]:=by rw[ba,cells_one ay]
   have dK:(a.eval x).cells.size=1:=by have:=ec List.length ak;simpa using this
   have ao:cs.toList.length=ah.size β:=aD.len
   have fu:l.off+1<=ah.size β:=l.gV
   rw[mb,Kd h1 dK (by simp at ao;omega)]
   refine bJ a W s _ ?_
   have:=VS l aD ay
   simpa[gO,ak]using this
def sR{β:Type}[ah β]{z b:β}{bt:aa (Nat×bZ)}{pl:Array (Nat×Nat)}{os:aa (Nat×bl)}(jg:aa Nat)(wP:jy c.P t jg)(a7:ah.agg β=true)(HR:fw c.P t pl)(gL:c4 c.P t z)
 (aY:xF c E L (pl[·]?) z (jg.map λo=>(o,lY)) bt b os):bc c E L ⟨d,.build t bt.toArray,ty,pos,af,g⟩ (.Me b os):=.pure λa W s=>by
 obtain⟨fs,hu,hs,rfl⟩:=HR.at_
 obtain⟨i,dR,h1,ad,ay⟩:=gL.zero
 have b2:∀o∈jg,dR.cells.toList[o]? =some lY:=λo aU=>by
  unfold jy at wP;rw[h1]at wP;simp only[Option.bind_some,ad,Option.any_some]at wP;exact Vv (kH.1 wP o aU)
 obtain⟨dT,aR,aX⟩:=aY.run a W s dR.cells ⟨by
  rw[OS λh hm=>by obtain⟨o,aU,rfl⟩:=gY.1 hm;exact b2 o aU];exact(ay _ _).2,λh hm=>by obtain⟨o,aU,rfl⟩:=gY.1 hm;exact⟨b2 o aU,rfl⟩⟩
 refine⟨.agg dT,?_,by simp[shaped,a7],by simpa[Value.cells]using aX⟩
 have hm:(bt.toArray.map λ(x:Nat×bZ)=>(x.1,a.eval x.2)).toList=bt.map λ(i,x)=>(i,a.eval x):=by simp
 simp only[execOp,Instr.build,dI,zeroValue,typeInfo,run_program,Result.andThen_ok,h1,ad,Sem.run_pure,dL hu,U3 fs hs]
 rw[hm,aR]
 rfl
def wm{α:Type}[Inhabited α](bytes:Nat)(n:Int):aw (aa α):=if 0<=n∧n<=140737488355328∧bytes*n<=140737488355328 then some (List.replicate n.toNat default)else none
def ag4{α:Type}[Inhabited α]{bytes:Nat}{n:Int}{r:aa α}(h:wm bytes n=some r):0<=n∧n<=140737488355328∧bytes*n<=140737488355328∧List.replicate n.toNat default=r:=by
 unfold wm at h;split at h
 ·rename_i ak;exact⟨ak.1,ak.2.1,ak.2.2,cZ h⟩
 cases h
def ae.aaM{α:Type}[ah α][Inhabited α]{rest:aa Oper}{a1 e bytes:Nat}{r:aa α}{n:Int}(hu:c.P.underlying t=some (.slice e))(ez:bK c.P e α)(gL:c4 c.P e (default:α))(hs:Nat.beq (ah.size α) 0=false)(hb:(c.P.info? e).map (·.bytes)=some bytes)
 (al:aP c E L x (.of n)) (hy:aP c E L y (.of n)) (hm:wm bytes n=some r) (jx:Nat.blt a1 c.n=true) (k:∀p,ae c ops Q rest ((a1,.eq (aO p r.length r.length))::E) (⟨p,.row e r r.length⟩::L)):
 ae c ops Q (⟨some a1,.makeSlice t x y,ty,pos,af,none⟩::rest) E L:=λa W s=>by
 obtain⟨bu,aI,asw,rfl⟩:=ag4 hm
 obtain⟨m,rfl⟩:=w0 bu
 obtain⟨gD,dR,dX,cy,uY⟩:=gL.zero
 have pN:gD.size=ah.size α:=by
  obtain⟨i2,h1,ad⟩:=ez.info;rw[dX]at h1;cases h1;exact ad
 have AR:gD.bytes=bytes:=by rw[dX]at hb;simpa using hb
 have fJ:ah.size α≠0:=λh=>by rw[h]at hs;cases hs
 have tz:=Fz (uY (ks L++c.bP) W) m fJ
 have h1:=of_int.1 (al a W s)
 have ad:=of_int.1 (hy a W s)
 have hw:IntKind.i64.wrap (m:Int)=m:=by have:bo (m:Int)=m:=jr (by omega) (by omega);exact this
 have hp:(2:Int)^48=281474976710656:=by decide
 simp only[Int.toNat_natCast,DZ]at k
 generalize l5:(Array.range (m*ah.size α)).map (dR.cells[· % dR.cells.size]!)=D at tz
 refine iw I (R:=λv W'=>v=.slice (some ⟨W.heap.size,0,none⟩) m m∧W'=W.alloc (.cells D e)) (.mK (v:=.slice (some ⟨W.heap.size,0,none⟩) m m) (W':=W.alloc (.cells D e)) ?_ ⟨rfl,rfl⟩) λv W' ⟨ay,aR⟩=>?_
 ·have dj:((decide ((m:Int)<0)||decide ((gD.bytes:Int)*m>2^48))||decide ((m:Int)<0)||decide ((m:Int)>m))=false:=by
   rw[AR,hp];simp;omega
  have Mf:((Array.range (m*gD.size)).map λi=>(if m*gD.size=0 then(#[]:Array bl)else dR.cells)[i % (if m*gD.size=0 then(#[]:Array bl)else dR.cells).size]!)=D:=by
   rw[<-l5,pN];by_cases hZ:m*ah.size α=0
   ·rw[hZ];simp
   simp only[bn hZ]
  have a7:(asInt (.int .i64 (m:Int)):Sem Int).run c.P W=.ok (m:Int) W:=by simp[asInt,asIntOf]
  simp only[execOp,Instr.makeSlice,dI,dL hu,Result.andThen_ok,h1,ad,a7,Sem.run_pure,typeInfo,run_program,dX,hw,dj,rK,ot,run_askRoom,Go.sizeOf,Int.toNat_natCast]
  by_cases hZ:m*gD.size=0
  ·simp only[hZ,mc,Sem.run_pure,Result.andThen_ok,dI,newRow]at Mf⊢
   rw[Mf]
   simp
  simp only[hZ,ot,Sem.run_pure,Result.andThen_ok,dI,newRow,zeroValue,typeInfo,run_program,dX,cy]at Mf⊢
  rw[Mf]
  simp
 subst ay aR
 have xX:m<=maxLen:=by
  have:maxLen=9223372036854775807:=rfl;omega
 have dK:D.size=m*ah.size α:=by have:=tz.1;simpa using this
 have b0:=s.alloc (o:=.cells D e) (cp:=.row e (List.replicate m (default:α)) m) ⟨D,rfl,dK,by simp,xX,by
  have bh:=tz.1;rw[DZ]at bh⊢;rw[<-bh,nf];exact tz⟩
 exact k (some W.heap.size) _ _ (b0.put (τ:=.eq (aO (some W.heap.size) m m)) (by simpa using jx) I)
def ar.mL{fn:Func}{δ:Type}{ρ:δ->J}{Lo:δ->aa aE}(a1:δ)(hs:(Lo a1).Sublist L)(aD:fn.results= #[])(rz:ρ a1=.bY [])(dZ:c.ds=[]:=by rfl):ar c (bodyPost c.P fn (kA c.X c.bP c.jO ρ Lo)) .ret E L:=λa W s=>
 ⟨s.zE dZ,.tuple #[],by simp[zw,aD],s.ends a1 hs (by rw[rz];exact⟨_,rfl,.nil⟩)⟩
end
end Gv
