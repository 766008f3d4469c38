/-
  The library of the decompiler, as far as it is needed here. Conditions: none.
-/
import Derived.WalkKit
import Derived.StillTail
import Derived.OwnWalkIn
import Derived.RangeFuncNested
import Derived.RangeFuncLeaves
import Derived.RangeFuncCalls
import Derived.ChangeSame
import Derived.OpenShut
import Derived.Carry
import Derived.DataReads
import Derived.Lib.AppendZerosOnto
import Derived.Lib.Overlaps
set_option linter.defProp false
set_option linter.unusedVariables false
set_option linter.unusedSimpArgs false
namespace Gv
open Go
open List renaming length->U,replicate->bv,getElem?_cons_zero->bW,getElem?_cons_succ->b4,range->b8,take_append_drop->ci,length_cons->cM,getElem_cons_drop->c0,length_append->c3,set_cons_zero->c4,append_assoc->c5,foldl_cons->dh,length_nil->di,nil_append->dk,drop_drop->dt,take_zero->dL,range'->d6
open Option renaming some->V,none->Y,isSome_none->cb,bind_some->cl,map_none->cn,map_some->co
open Bool renaming true->Z,false->bi
open Go.Result renaming andThen_ok->a',andThen->du
open Decidable renaming decide->bd
open Nat renaming beq->be,blt->bu,add_zero->bZ,ble->cd,add_assoc->dQ,succ_mul->d0,sub_zero->d3,add_mul->d4,sub_mul->d7
open Go.Sem renaming run_pure->bm
open Go.Instr renaming sliceBounds->bx,sliceBound->bK,sliceAt->bL,sureAddr->bQ,slice->bS,storeAt->cm,loadAt->cr,fill->ct,indexAt->cA,build->c9,buildSlice->c',fieldAt->dR,alloc->d5
open Go.Builtin renaming zeroCells->bB,firstCells->b2,append_->cp,lenOf->cF,len_->cO,min_->d1,min2->d2
open Go.Region renaming wanted->bP,seqB->c6
open Inhabited renaming default->b1
open _root_.Array renaming range->b3,replicate->ca,length_toList->cw
open BitVec renaming ofInt->b5,toNat_sub->c8,le_def->dN
open Go.Deferred renaming ofValue->b'
open Int renaming toNat_natCast->ce
open Go.Exit renaming inBlock->cq
open Vector renaming replicate->c7
def o{b:Sort _}{a:b}:a=a:=rfl
def bo:True:=trivial
abbrev R:=@List
abbrev aw:=@Option
abbrev bj:=@Go.World
abbrev bt:=@Go.Value
abbrev bH:=@Go.TypeId
abbrev cx:=@Go.Operand
abbrev cC:=@ByteArray
abbrev cE:=@BitVec
abbrev ck:=@Vector
abbrev bE:=@Array
abbrev bG:=@Unit
abbrev aI:=@Bool
abbrev cK:=@Exit
abbrev bA:=@Oper
abbrev cV:=@Program
abbrev cg:=@Act
abbrev ec:=@Code
abbrev aB:=@Type
def SN:=@Array.getD_eq_getD_getElem?
def Ih:=@Array.getElem?_append_left
def M3:=@Array.getElem?_eq_getElem
def Bc:=@Array.getElem?_eq_some_iff
def S2:=@Array.getElem?_modify
def Nd:=@Array.getElem?_toList
def M4:=@Array.size_setIfInBounds
def Tg:=@Array.toList_filter
def Be:=@BitVec.eq_of_getLsbD_eq
def xc:=@BitVec.eq_of_toNat_eq
def Bn:=@BitVec.getLsbD_and
def Nh:=@BitVec.getLsbD_of_ge
def Nz:=@BitVec.getLsbD_or
def M0:=@BitVec.getLsbD_ushiftRight
def Is:=@BitVec.getLsbD_zero
def BO:=@dN
def zo:=@BitVec.lt_def
def Nw:=@BitVec.toNat_ofNat
def SX:=@BitVec.toNat_shiftLeft
def SU:=@BitVec.toNat_ushiftRight
def hx:=@Bool.and_eq_true
def rY:=@Bool.eq_false_iff
def kW:=@Bool.eq_iff_iff
def qP:=@Bool.false_eq_true
def vF:=@Bool.false_or
def qc:=@Bool.not_eq_true
def xf:=@Bool.not_eq_true'
def Em:=@Bool.or_eq_false_iff
def qV:=@Bool.or_eq_true
def N0:=@Bool.or_false
def tb:=@Bool.true_and
def Oj:=@Bool.true_or
def Nl:=@Go.ByteArray.toList_eq
def vM:=@Eq.trans
def mE:=@Int.eq_ofNat_of_zero_le
def oD:=@Int.le_refl
def Ew:=@Int.tmod_lt_of_pos
def NW:=@List.Perm.refl
def zb:=@List.Sublist.refl
def qd:=@List.all_eq_true
def Bt:=@List.any_eq_false
def oA:=@List.any_eq_true
def mI:=@c5
def SV:=@List.append_cancel_left
def S3:=@List.append_inj_left'
def qe:=@List.append_nil
def S4:=@List.contains_iff_mem
def To:=@List.countP_append
def S5:=@List.countP_singleton
def TZ:=@dt
def qa:=@List.drop_eq_getElem_cons
def Io:=@List.drop_eq_nil_iff
def Ed:=@List.drop_eq_nil_of_le
def NX:=@List.drop_left
def sa:=@List.drop_length
def vD:=@List.drop_take
def xp:=@List.drop_zero
def MY:=@List.eq_nil_of_length_eq_zero
def EJ:=@List.ext_getElem
def ni:=@List.ext_getElem?
def S6:=@List.filterMap_append
def oy:=@List.filter_append
def M5:=@List.filter_cons_of_neg
def Bf:=@List.filter_cons_of_pos
def M9:=@List.filter_eq_nil_iff
def rU:=@List.filter_eq_self
def NO:=@List.filter_map
def Nn:=@List.filter_sublist
def Ex:=@List.find?_eq_none
def Ij:=@List.flatMap_eq_nil_iff
def Ez:=@List.foldl_append
def Tb:=@List.getElem?_append
def pr:=@List.getElem?_drop
def vt:=@List.getElem?_eq_getElem
def lX:=@List.getElem?_eq_some_iff
def Bu:=@List.getElem?_set
def nh:=@List.getElem?_take
def SY:=@c0
def xi:=@List.getElem_map
def sZ:=@List.getElem_mem
def yY:=@List.getElem_of_mem
def Nx:=@List.getElem_range
def EC:=@List.getElem_take
def lI:=@c3
def qT:=@List.length_drop
def SZ:=@List.length_eq_one_iff
def M6:=@List.length_eq_zero_iff
def Ik:=@List.length_filter_le
def lY:=@List.length_map
def IH:=@List.length_range
def Na:=@List.length_replicate
def vC:=@List.length_set
def oz:=@List.length_take
def pt:=@List.map_append
def It:=@List.map_congr_left
def pv:=@List.map_cons
def uu:=@List.map_map
def eN:=@List.mem_append
def En:=@List.mem_append_left
def Bh:=@List.mem_append_right
def fj:=@List.mem_cons
def gO:=@List.mem_cons_of_mem
def jS:=@List.mem_cons_self
def Tc:=@List.mem_erase_of_ne
def uk:=@List.mem_filter
def Tp:=@List.mem_filterMap
def vw:=@List.mem_iff_getElem
def ow:=@List.mem_iff_getElem?
def lk:=@List.mem_map
def fM:=@List.mem_of_getElem?
def Td:=@List.mem_of_mem_drop
def qW:=@List.mem_range
def mF:=@List.mem_singleton
def r0:=@List.nil_sublist
def rZ:=@List.nodup_append
def s7:=@List.nodup_cons
def s0:=@List.not_mem_nil
def xd:=@List.pairwise_append
def lh:=@List.pairwise_cons
def SR:=@List.pairwise_iff_getElem
def Bv:=@List.pairwise_map
def ox:=@List.perm_append_comm
def SQ:=@List.perm_ext_iff_of_nodup
def vy:=@List.perm_middle
def ES:=@List.range_succ
def S7:=@List.set_getElem_self
def Tq:=@List.singleton_inj
def acX:=@List.take_add_one
def IP:=@List.take_append
def rT:=@ci
def MX:=@List.take_append_of_le_length
def I6:=@List.take_left
def IZ:=@List.take_left'
def mJ:=@List.take_length
def rS:=@List.take_of_length_le
def sb:=@List.take_take
def oE:=@d4
def Jl:=@Nat.beq_refl
def ET:=@Nat.div_add_mod
def S0:=@Nat.div_div_eq_div_mul
def NJ:=@Nat.div_eq_of_lt
def S8:=@Nat.div_lt_iff_lt_mul
def Te:=@Nat.div_lt_of_lt_mul
def pq:=@Nat.le_of_ble_eq_true
def jT:=@Nat.le_refl
def mK:=@Nat.le_trans
def Fk:=@Nat.lt_irrefl
def qQ:=@Nat.lt_of_lt_of_le
def Fv:=@Nat.lt_or_ge
def ED:=@Nat.lt_trichotomy
def qU:=@Nat.min_eq_left
def NF:=@Nat.min_eq_right
def IQ:=@Nat.mod_eq_of_lt
def FJ:=@Nat.mod_lt
def vH:=@Nat.mul_comm
def Iu:=@Nat.mul_le_mul_left
def ij:=@Nat.mul_le_mul_right
def Ot:=@Nat.one_mul
def Ey:=@Nat.pos_of_ne_zero
def vI:=@d0
def kx:=@Nat.zero_add
def zC:=@Nat.zero_le
def zA:=@Nat.zero_mul
def Cm:=@Ne.symm
def N4:=@Go.Oper.semAt_eq
def sd:=@Go.Oper.wp_mono
def xb:=@Option.bind_eq_some_iff
def SS:=@Option.isNone_iff_eq_none
def Bd:=@Option.isSome_iff_exists
def I0:=@Option.some.inj
def iG:=@Option.some.injEq
def zp:=@Prod.mk.injEq
def Ni:=@Go.Region.waitsFor_spec
def eH:=@Go.Sem.run_bind
def MW:=@Std.Legacy.Range.forIn_eq_forIn_range'
def N5:=@Go.StepsIn.trans
def M7:=@Go.World.putObj_heap_other
def IS:=@Go.World.size_alloc
def xB:=@and_true
def Ip:=@beq_eq_false_iff_ne
def l1:=@beq_iff_eq
def NK:=@beq_self_eq_true
def Jr:=@Go.calls_of_wp
def FD:=@Go.cell_of_row
def eO:=@congrArg
def BD:=@decide_eq_decide
def zd:=@decide_eq_false
def qb:=@decide_eq_false_iff_not
def xl:=@decide_eq_true
def ik:=@decide_eq_true_eq
def Fw:=@decide_false
def Js:=@decide_true
def B2:=@Go.fenced_calm
def nV:=@if_false
def bU:=@if_neg
def bT:=@if_pos
def l7:=@if_true
def xx:=@Go.mem_ready
def Cq:=@not_or
def uj:=@of_decide_eq_true
def tj:=@or_false
def Jt:=@Go.run_endLoop
def NP:=@Go.run_eqGuard_agg
def Iz:=@Go.run_loadCells_list
def EE:=@Go.run_storeCells_at
def dZ:=@Go.run_underlying
theorem Qz(w:bj)(ak:Obj)(i:Nat)(a:i<w.heap.size):(w.alloc ak).heap[i]? =w.heap[i]? :=by
 show(w.heap.push ak)[i]? =w.heap[i]?;grind
def Yv(w:bj)(ak:Obj):(w.alloc ak).heap[w.heap.size]? =V ak:=by
 show(w.heap.push ak)[w.heap.size]? =V ak;simp
structure Fr(X:List Nat)(W dE:World):Prop where
 os:dE.os=W.os
 tape:dE.tape=W.tape
 output:dE.output=W.output
 drawn:W.drawn<=dE.drawn
 size:W.heap.size<=dE.heap.size
 block:∀k,k<W.heap.size->k∉X->dE.heap[k]? =W.heap[k]?
def Fr.refl(b:R Nat)(a:bj):Fr b a a:=⟨rfl,rfl,rfl,jT _,jT _,λ_ _ _=>rfl⟩
def Fr.trans{c:R Nat}{d e f:bj}(a:Fr c d e)(b:Fr c e f):Fr c d f:=
 ⟨b.os.trans a.os,b.tape.trans a.tape,b.output.trans a.output,mK a.drawn b.drawn,mK a.size b.size,
   λi g h=>(b.block i (qQ g a.size) h).trans (a.block i g h)⟩
def Fr.weaken{b c:R Nat}{d e:bj}(a:Fr b d e)(f:∀g∈b,g∈c):Fr c d e:=
 ⟨a.os,a.tape,a.output,a.drawn,a.size,λi h j=>a.block i h λk=>j (f _ k)⟩
def Fr.nil{c:R Nat}{a b:bj}(d:Fr [] a b):Fr c a b:=d.weaken (by simp)
def Fr.alloc{b:R Nat}(a:bj)(ak:Obj):Fr b a (a.alloc ak):=
 ⟨rfl,rfl,rfl,jT _,by simp,λc d _=>Qz a ak c d⟩
def Fr.drew{b:R Nat}(a:bj):Fr b a a.drew:=⟨rfl,rfl,rfl,Nat.le_succ _,jT _,λ_ _ _=>rfl⟩
structure Ext(A:List Nat)(W:World)(fh:List Nat)(dE:World):Prop where
 size:W.heap.size<=dE.heap.size
 block:∀k,k<W.heap.size->k∉A->dE.heap[k]? =W.heap[k]?
 new:∀k∈fh,k<W.heap.size->k∈A
def Ext.refl(a:R Nat)(b:bj):Ext a b a b:=⟨jT _,λ_ _ _=>rfl,λ_ c _=>c⟩
def Ext.trans{d e f:R Nat}{g h j:bj}(a:Ext d g e h)(c:Ext e h f j):Ext d g f j:=
 ⟨mK a.size c.size,
  λi b k=>(c.block i (qQ b a.size) (λl=>k (a.new i l b))).trans (a.block i b k),
  λi m b=>a.new i (c.new i m (qQ b a.size)) b⟩
def Ext.ZX{c d:R Nat}{e f:bj}(a:Fr d e f)(g:∀b∈d,b∈c):Ext c e c f:=
 ⟨a.size,λb h i=>a.block b h λj=>i (g b j),λ_ a _=>a⟩
def Ext.ey{a:R Nat}{b c:bj}(d:Fr [] b c):Ext a b a c:=.ZX d (by simp)
def Ext.drop{b c:R Nat}{d:bj}(e:∀a∈c,a∈b):Ext b d c d:=⟨jT _,λ_ _ _=>rfl,λa f _=>e a f⟩
structure J where
 holds:List Nat->World->Value->Prop
 mono:∀{A W fh dE v},Ext A W fh dE->holds A W v->holds fh dE v
class ah (au:aB)where
 size:Nat
 agg:aI
 rep:R Nat->bj->R bt->au->Prop
 len:∀{A W cs x},rep A W cs x->cs.length=size
 one:∀{A W cs x},rep A W cs x->∀v∈cs,v.oneCell'=Z
 flat:agg=bi->size=1
 mono:∀{A W fh dE cs x},Ext A W fh dE->rep A W cs x->rep fh dE cs x
def shaped(b:aI)(a:bt):Prop:=if b=Z then ∃c,a=.agg c else a.oneCell'=Z
theorem cells_one{a:bt}(b:a.oneCell'=Z):a.cells= #[a]:=by cases a <;> first|rfl|grind[Value.oneCell']
def J.of{au:aB}[ah au](x:au):J where
 holds A W v:=shaped (ah.agg au) v∧ah.rep A W v.cells.toList x
 mono e h:=⟨h.1,ah.mono e h.2⟩
def J.eq(u:bt):J where
 holds _ _ v:=v=u
 mono _ h:=h
def J.cond(c:Prop)(dm:J):J where
 holds A W v:=(c->dm.holds A W v)∧(¬c->v=undef)
 mono e h:=⟨λnH=>dm.mono e (h.1 nH),h.2⟩
def J.any:J where
 holds _ _ _:=True
 mono _ h:=h
inductive ha(A:List Nat)(W:World):List J->List Value->Prop
 |nil:ha A W [] []
 |cons {dm v dF gY}:dm.holds A W v->ha A W dF gY->ha A W (dm::dF) (v::gY)
def ha.mono{a b c d}(e:Ext a b c d):∀{f g},ha a b f g->ha c d f g
 |_,_,.nil=>.nil
 |_,_,.cons h i=>.cons (J.mono _ e h) (i.mono e)
def ha.length{c d}:∀{a b},ha c d a b->b.length=a.length
 |_,_,.nil=>rfl
 |_,_,.cons _ e=>by simp[e.length]
def J.bO(dF:R J):J where
 holds A W v:=∃gY:bE bt,v=.tuple gY∧ha A W dF gY.toList
 mono e h:=let⟨gY,sV,DV⟩:=h; ⟨gY,sV,DV.mono e⟩
def J.ptr{au:aB}[ah au](x:au):J where
 holds A W v:=∃b off cur T DT,v=.pointer (V ⟨b,off,Y⟩)∧b∉A∧W.heap[b]? =V (.cells cur T DT)∧off+ah.size au<=cur.size∧ah.rep A W ((cur.toList.drop off).take (ah.size au)) x
 mono e h:=by
  obtain⟨b,off,cur,T,DT,rfl,ax,DV,aR,aF⟩:=h;have AP:b<_:=(Bc.1 DV).1;exact⟨b,off,cur,T,DT,rfl,λhm=>ax (e.new b hm AP),by rw[e.block b AP ax];exact DV,aR,ah.mono e aF⟩
structure ft where
 holds:List Nat->World->Obj->Prop
 oX:Prop
 mono:∀{A W fh dE ak},Ext A W fh dE->holds A W ak->holds fh dE ak
def ft.var{au:aB}[ah au](x:au):ft where
 holds A W ak:=∃cs T,ak=.cells cs T (0,0)∧ah.rep A W cs.toList x
 oX:=False
 mono e h:=let⟨cs,T,oh,aF⟩:=h; ⟨cs,T,oh,ah.mono e aF⟩
def hP{a:aB}[ah a](d:R Nat)(e:bj)(c:R bt)(b:R a):Prop:=
 U c=U b*ah.size a∧∀i (f:i<U b),ah.rep d e ((c.drop (i*ah.size a)).take (ah.size a)) b[i]
def hP.mono{a:aB}[ah a]{b c d f}{g:R bt}{h:R a}(e:Ext b c d f)(j:hP b c g h):hP d f g h:=
 ⟨j.1,λi k=>ah.mono e (j.2 i k)⟩
def ft.row{au:aB}[ah au](T:bH)(xs:R au)(cap:Nat):ft where
 holds A W ak:=∃cs,ak=.cells cs T (0,0)∧cs.size=cap*ah.size au∧U xs<=cap∧cap<=maxLen∧hP A W (cs.toList.take (U xs*ah.size au)) xs
 oX:=xs=[]∧cap=0
 mono e h:=let⟨cs,h1,fx,iX,nJ,nM⟩:=h; ⟨cs,h1,fx,iX,nJ,nM.mono e⟩
def ft.dead:ft where
 holds _ _ _:=True
 oX:=True
 mono _ h:=h
structure aK where
 key:Option Nat
 gg:ft
def aK.ok(b:R Nat)(a:bj)(e:aK):Prop:=
 match e.key with
 |some c=> ∃ak,a.heap[c]? =V ak∧e.gg.holds b a ak
 |none=>e.gg.oX
def aP:R aK->R Nat
 |[]=>[]
 | e::a=>match e.key with
   |some b=>b::aP a
   |none=>aP a
def tv{L:R aK}{a:Nat}:a∈aP L↔∃e∈L,e.key=V a:=by
 induction L with
 |nil=>simp[aP]
 | cons e b c=>
   grind[aP]
structure cX where
 P:Program
 n:Nat
 pV:World
 X:List Nat
 cv:List Nat
 rd:Option Nat
 ds:List Deferred
def tG(a:Nat):Deferred:= {target:=.collected a,args:= #[]}
abbrev cX.F(c:cX):Fence:= {fn:=λ_=>True,depth:=Y,alive:=bi,round:=c.rd}
abbrev cX.wp(c:cX)(y:ec)(Q:cK->cg->bj->Prop):cg->bj->Prop:=y.wpIn c.F 9 c.P Q
abbrev cX.tR(c:cX)(ops:bE bA)(Q:cK->cg->bj->Prop):R bA->cg->bj->Prop:=wpListIn c.F 9 c.P ops Q
def look:R (Nat×J)->Nat->aw J
 |[],_=>Y
 |(a,b)::c,t=>bif be a t then V b else look c t
structure b0(c:cX)(E:List (Nat×J))(L:List aK)(a:Act)(W:World):Prop where
 defers:a.defers=c.ds
 size:a.tmps.size=c.n
 env:∀t dm,look E t=V dm->∃v,a.tmps[t]? =V v∧dm.holds (aP L++c.cv) W v
 ey:Fr c.X c.pV W
 own:∀e∈L,e.ok (aP L++c.cv) W
 nodup:(aP L).Nodup
 lt:∀k∈aP L,k<W.heap.size
 gl:∀k∈aP L,k<c.pV.heap.size->k∈c.X
 eW:∀k∈c.cv,k<W.heap.size∧k∉aP L
def kb{a t:Nat}:be a t=Z↔a=t:=by
 simp_all
def b0.Ap{c E L f d}(e:b0 c E L f d):∀b∈aP L++c.cv,b<d.heap.size:=by
 intro b a;rcases eN.1 a with a|a
 ·exact e.lt b a
 exact(e.eW b a).1
def b0.world{c E L a W dE}(h:b0 c E L a W)(f:Fr [] W dE):b0 c E L a dE where
 defers:=h.defers
 size:=h.size
 env t dm jq:=let⟨v,h1,fx⟩:=h.env t dm jq; ⟨v,h1,dm.mono (.ey f) fx⟩
 ey:=h.ey.trans f.nil
 own e he:=by
  have h1:=h.own e he;unfold aK.ok at *;split at h1
  ·rename_i p aC;obtain⟨ak,oh,DV⟩:=h1;have AP:=h.lt p (tv.2 ⟨e,he,aC⟩);exact⟨ak,by rw[f.block p AP (by simp)];exact oh,ft.mono _ (.ey f) DV⟩
  omega
 nodup:=h.nodup
 lt k hk:=qQ (h.lt k hk) f.size
 gl:=h.gl
 eW k hk:=⟨qQ (h.eW k hk).1 f.size,(h.eW k hk).2⟩
def b0.put{c E L a W}(h:b0 c E L a W){d:Nat}(aq:d<c.n){v:bt}{dm:J}(sV:dm.holds (aP L++c.cv) W v):
 b0 c ((d,dm)::E) L (a.put (V d) v) W where
 defers:=h.defers
 size:=by simp[Act.put,h.size]
 env t AS jq:=by
  simp only[look]at jq;simp only[Act.put];by_cases e:be d t=Z
  ·rw[e]at jq;simp only[cond_true,iG]at jq;subst jq;have:=kb.1 e;subst this;exact⟨v,by simp[h.size,aq],sV⟩
  simp only[qc]at e;rw[e]at jq;simp only[cond_false]at jq;obtain⟨u,h1,fx⟩:=h.env t AS jq;have abx:d≠t:=λh=>by simp_all
  simp_all
 ey:=h.ey
 own:=h.own
 nodup:=h.nodup
 lt:=h.lt
 gl:=h.gl
 eW:=h.eW
def b0.Ad{c E L a b}(d:b0 c E L a b)(e:c.ds=[]):a.defers=[]:=by rw[d.defers,e]
def b0.less{c E e L f a}(g:b0 c E L f a)(j:∀t b,look e t=V b->∃h,look E t=V h∧∀i a d,h.holds i a d->b.holds i a d):b0 c e L f a:=
 {g with env:=λt b k=>let⟨_,l,m⟩:=j t b k;let⟨d,n,o⟩:=g.env t _ l; ⟨d,n,m _ _ _ o⟩}
def b0.alloc{c E L l b}(d:b0 c E L l b){ak:Obj}{gg:ft}(o:gg.holds (aP L++c.cv) b ak):
 b0 c E (⟨V b.heap.size,gg⟩::L) l (b.alloc ak):=by
 have p:b.heap.size∉aP L:=λg=>Fk _ (d.lt _ g)
 have i:Ext (aP L++c.cv) b (aP (⟨V b.heap.size,gg⟩::L)++c.cv) (b.alloc ak):=
  ⟨by simp,λf a _=>Qz b ak f a,λf a m=>by
   grind[aP]⟩
 exact
 {defers:=d.defers
  size:=d.size
  env:=λt n q=>let⟨r,h,j⟩:=d.env t n q; ⟨r,h,n.mono i j⟩
  ey:=d.ey.trans (Fr.alloc b ak)
  own:=λe k=>by
   rcases fj.1 k with rfl|k
   ·exact⟨ak,Yv b ak,gg.mono i o⟩
   have h:=d.own e k;unfold aK.ok at *;split at h
   ·rename_i C D;obtain⟨A,F,B⟩:=h;exact⟨A,by grind[Qz],ft.mono _ i B⟩
   omega
  nodup:=by simp only[aP];exact s7.2 ⟨p,d.nodup⟩
  lt:=λf a=>by
   simp only[aP,fj]at a;rw[IS];rcases a with rfl|a
   ·omega
   have:=d.lt f a;omega
  gl:=λf a m=>by
   simp only[aP,fj]at a;rcases a with rfl|a
   ·have:=d.ey.size;omega
   exact d.gl f a m
  eW:=λf a=>by
   obtain⟨h,j⟩:=d.eW f a;refine⟨by rw[IS];omega,λg=>?_⟩;simp only[aP,fj]at g;rcases g with rfl|g
   ·omega
   exact j g}
def b0.sub{c E L f l i}(b:b0 c E L l i)(m:∀e∈f,e∈L)(aQ:(aP f).Nodup):b0 c E f l i:=by
 have g:∀a∈aP f,a∈aP L:=λa g=>by
  obtain⟨e,k,h⟩:=tv.1 g;exact tv.2 ⟨e,m e k,h⟩
 have n:Ext (aP L++c.cv) i (aP f++c.cv) i:=.drop λa d=>by
  grind
 exact
 {defers:=b.defers
  size:=b.size
  env:=λt o p=>let⟨q,j,h⟩:=b.env t o p; ⟨q,j,o.mono n h⟩
  ey:=b.ey
  own:=λe k=>by
   have j:=b.own e (m e k);unfold aK.ok at *;split at j
   ·obtain⟨r,A,B⟩:=j;exact⟨r,A,ft.mono _ n B⟩
   omega
  nodup:=aQ
  lt:=λa d=>b.lt a (g a d)
  gl:=λa d=>b.gl a (g a d)
  eW:=λa d=>⟨(b.eW a d).1,λh=>(b.eW a d).2 (g a h)⟩}
theorem fF(L a:R aK):aP (L++a)=aP L++aP a:=by
 induction L with
 |nil=>rfl
 |cons e d b=>cases c:e.key <;> simp[aP,c,b]
def Ln{L:R aK}{i:Nat}{e:aK}{gg:ft}(a:L[i]? =V e):aP (L.set i ⟨e.key,gg⟩)=aP L:=by
 induction L generalizing i with
 |nil=>rfl
 | cons x b c=>
   cases i with
   |zero=>simp only[bW,iG]at a;subst a;simp[aP]
   |succ i=>simp_all[b4,aP]
def QA{L:R aK}(aQ:(aP L).Nodup){i a:Nat}{e f:aK}{b:Nat}(c:L[i]? =V e)(d:L[a]? =V f)(h:e.key=V b)(j:f.key=V b):i=a:=by
 induction L generalizing i a with
 |nil=>grind
 | cons x k m=>
   have aF:(aP k).Nodup:=by
    grind[aP]
   have l:∀g,x.key=V g->g∉aP k:=λg n=>by simp_all[aP]
   cases i with
   | zero=>
     simp only[bW,iG]at c
     subst c
     cases a with
     |zero=>rfl
     | succ a=>
       simp only[b4]at d
       exact absurd (tv.2 ⟨f,fM d,j⟩) (l b h)
   | succ i=>
     simp only[b4]at c
     cases a with
     | zero=>
       simp only[bW,iG]at d
       subst d
       exact absurd (tv.2 ⟨e,fM c,h⟩) (l b j)
     | succ a=>
       grind
def b0.store{c E L r b}(a:b0 c E L r b){i p:Nat}{G h:ft}(l:L[i]? =V ⟨V p,G⟩){A f:bE bt}{m:bH}
 (H:b.heap[p]? =V (.cells A m (0,0))) (I:h.holds (aP L++c.cv) b (.cells f m (0,0))):
 b0 c E (L.set i ⟨V p,h⟩) r (b.setRow p f):=by
 have g:aP (L.set i ⟨V p,h⟩)=aP L:=Ln (gg:=h) l
 have B:p∈aP L:=tv.2 ⟨_,fM l,rfl⟩
 have n:Ext (aP L++c.cv) b (aP L++c.cv) (b.setRow p f):=
  ⟨by simp,λj _ J=>setRow_other b p j f (λe=>J (e▸eN.2 (.inl B))),λ_ a _=>a⟩
 exact
 {defers:=a.defers
  size:=a.size
  env:=λt C K=>by rw[g];exact let⟨v,k,M⟩:=a.env t C K; ⟨v,k,C.mono n M⟩
  ey:=⟨a.ey.os,a.ey.tape,a.ey.output,a.ey.drawn,by simpa using a.ey.size,λj D F=>by
   rw[setRow_other b p j f (λe=>F (e▸a.gl p B (e▸D)))];exact a.ey.block j D F⟩
  own:=λe N=>by
   rw[g];obtain⟨ab,d⟩:=ow.1 N;rw[Bu]at d;split at d
   ·rename_i q;subst q;split at d
    ·simp only[iG]at d;subst d;exact⟨_,setRow_heap b p A f m (0,0) H,h.mono n I⟩
    simp_all
   rename_i q;have k:=a.own e (fM d);unfold aK.ok at *;split at k
   ·rename_i O P;obtain⟨Q,ac,R⟩:=k;have ad:O≠p:=λaa=>q (QA a.nodup l d o (aa▸P));exact⟨Q,by simp_all[setRow_other],ft.mono _ n R⟩
   omega
  nodup:=by rw[g];exact a.nodup
  lt:=by rw[g];simpa using a.lt
  gl:=by rw[g];exact a.gl
  eW:=by rw[g];simpa using a.eW}
abbrev ah.scalar{au:aB}(val:au->bt)(h:∀x,(val x).oneCell'=Z):ah au where
 size:=1
 agg:=bi
 rep _ _ cs x:=cs=[val x]
 len h:=by simp_all
 one aF:=by simp_all
 flat _:=rfl
 mono _ h:=h
instance:ah aI:=.scalar Value.bool λ_=>rfl
instance:ah Int:=.scalar (Value.int .i64) λ_=>rfl
instance:ah (cE 64):=.scalar (λx=>Value.int .u64 (x.toNat:Int)) λ_=>rfl
instance:ah (cE 32):=.scalar (λx=>Value.int .u32 (x.toNat:Int)) λ_=>rfl
instance:ah (cE 16):=.scalar (λx=>Value.int .u16 (x.toNat:Int)) λ_=>rfl
instance:ah (cE 8):=.scalar (λx=>Value.int .u8 (x.toNat:Int)) λ_=>rfl
instance:ah cC:=.scalar Value.string λ_=>rfl
def lJ{a b:bt}(c:a.oneCell'=Z)(e:a.cells.toList=[b]):a=b:=by
 simp_all[cells_one]
theorem of_bool{d e b}{c:aI}:(J.of c).holds d e b↔b=.bool c:=
 ⟨λa=>lJ a.1 a.2,λa=>by subst a;exact⟨rfl,rfl⟩⟩
def of_int{c d b}{x:Int}:(J.of x).holds c d b↔b=.int .i64 x:=
 ⟨λa=>lJ a.1 a.2,λa=>by subst a;exact⟨rfl,rfl⟩⟩
def ga{c d b}{x:cE 64}:(J.of x).holds c d b↔b=.int .u64 (x.toNat:Int):=
 ⟨λa=>lJ a.1 a.2,λa=>by subst a;exact⟨rfl,rfl⟩⟩
def n2{A W b}{x:cE 8}:(J.of x).holds A W b↔b=.int .u8 (x.toNat:Int):=
 ⟨λa=>lJ a.1 a.2,λa=>by subst a;exact⟨rfl,rfl⟩⟩
def rm{c d b}{x:cC}:(J.of x).holds c d b↔b=.string x:=
 ⟨λa=>lJ a.1 a.2,λa=>by subst a;exact⟨rfl,rfl⟩⟩
def aN(c:cX)(E:R (Nat×J))(L:R aK)(x:cx)(d:J):Prop:=∀a b,b0 c E L a b->d.holds (aP L++c.cv) b (a.eval x)
section
variable{c:cX}{E:R (Nat×J)}{L:R aK}
def ae{t:Nat}{a:J}(b:look E t=V a):aN c E L (.tmp t) a:=λe f d=>by
 obtain⟨g,h,i⟩:=d.env t a b;simp_all[Act.eval]
def ba{t:Nat}{a:J}{b:Prop}(d:look E t=V (.cond b a))(e:b):aN c E L (.tmp t) a:=λf g h=>(ae d f g h).1 e
def CT(a:bt):aN c E L (.const a) (.eq a):=λ_ _ _=>rfl
def cU(a:Int):aN c E L (.const (.int .i64 a)) (.of a):=λ_ _ _=>of_int.2 o
def gU(a:aI):aN c E L (.const (.bool a)) (.of a):=λ_ _ _=>of_bool.2 o
def nW(x:cE 64){a:Int}(b:(x.toNat:Int)=a):aN c E L (.const (.int .u64 a)) (.of x):=λ_ _ _=>ga.2 (by rw[b];rfl)
def jJ(x:cE 8){a:Int}(b:(x.toNat:Int)=a):aN c E L (.const (.int .u8 a)) (.of x):=λ_ _ _=>n2.2 (by rw[b];rfl)
def fA(a:cC):aN c E L (.const (.string a)) (.of a):=λ_ _ _=>rm.2 o
def hr(P:cV)(ak:bA)(a:cg)(c:bj)(d:bt->bj->Prop):Prop:=
 ak.wp P a c (λe f=> ∃b,e=a.put ak.dst b∧d b f) (λ_ _ _=>False)
def CallsIn.PW{rd:aw Nat}{a:Nat}{P:cV}{b:FuncId}{c:bE bt}{w:bj}{d:Ending->bj->Prop}
 (e:Calls P b c w d):CallsIn {fn:=λ_=>True,depth:=Y,alive:=bi,round:=rd} a P b c w d:=
 (callsIn_wide (n:=a)).2 e
def RowsIn.alB{rd:aw Nat}{e:Nat}{P:cV}{a:String}{b:bE bt}{w:bj}{d:bt->bj->Prop}
 (f:Rows P a b w d):RowsIn {fn:=λ_=>True,depth:=Y,alive:=bi,round:=rd} e P a b w d:=
 λc g _=>let⟨h,i,j,k⟩:=f c g; ⟨h,i,j,stepsIn_wide.2 k⟩
def hr.wp{P:cV}{ak:bA}{b:cg}{h:bj}{i:bt->bj->Prop}{j:cg->bj->Prop}{Q:cK->cg->bj->Prop}
 (c:hr P ak b h i) (o:∀a g,i a g->j (b.put ak.dst a) g):ak.wp P b h j Q:=by
 unfold hr Oper.wp at *
 generalize (execOp b.eval ak).run P h=r at *
 cases r with
 | ok k g=>
   cases k <;> simp only[Oper.upon]at c⊢
   case value a=>grind
   case skip=>grind
   case defer d=>grind
   case enter f args=>
    refine c.mono λe l m=>?_
    cases e with
    |returned a=>grind
    |panicked p=>simp_all
    |outgrown=>obtain⟨_,_,n⟩:=m;simp_all
   case row row args=>exact c.mono λa l ⟨q,n,A⟩=>by simp_all
 |halt x g=>cases x <;> simp only[Oper.upon]at c
def hr.aiM{P:cV}{ak:bA}{b:cg}{e:bj}{f:bt->bj->Prop}(a:hr P ak b e f):∀c,ak.op≠ .defer c:=by
 intro c g;unfold hr Oper.wp execOp at a;rw[g]at a;simp only[eH]at a;generalize (resolve b.eval c ak.type).run P e=r at a;cases r with
 | ok d h=>
   simp only[du,bm,Oper.upon]at a
   obtain⟨j,i,_⟩:=a
   have:=eO Act.defers i
   cases aq:ak.dst <;> simp[Act.put,aq]at this
 |halt x h=>cases x <;> simp only[du,Oper.upon]at a
def hr.wpIn{c:cX}{l:Nat}{ak:bA}{g:cg}{i:bj}{j:bt->bj->Prop}{k:cg->bj->Prop}{Q:cK->cg->bj->Prop}
 (a:hr c.P ak g i j) (q:∀b h,j b h->k (g.put ak.dst b) h):ak.wpIn c.F l c.P g i k Q:=by
 refine⟨λ_ _=>trivial,?_⟩
 rw[N4 _ _ _ a.aiM]
 unfold hr Oper.wp at a
 generalize (execOp g.eval ak).run c.P i=r at *
 cases r with
 | ok m h=>
   cases m <;> simp only[Oper.upon,Oper.uponIn]at a⊢
   case value b=>grind
   case skip=>grind
   case defer d=>grind
   case enter f args=>
    refine⟨λa=>by simp at a,CallsIn.PW ?_⟩
    refine a.mono λe n o=>?_
    cases e with
    |returned b=>grind
    |panicked A=>simp_all
    |outgrown=>obtain⟨_,_,p⟩:=o;simp_all
   case row row args=>
    refine⟨λa=>by simp at a,RowsIn.alB ?_⟩
    exact a.mono λb n ⟨B,p,C⟩=>by simp_all
 |halt x h=>cases x <;> simp only[Oper.upon]at a
def UE{e:Fence}{f:Nat}{P:cV}{l:Region.Mode}{ops:bE bA}{g:cK->cg->bj->Prop}:∀(a:R bA) (c:Nat) (j:bE aI) (h:cg) (w:bj),(∀d,a[d]? =ops[c+d]?)->
 c6 l ops (U a) c j=Z->wpListIn e f P ops g a h w->wpAnyIn e f P l ops g (U a) j h w
 |[],_,_,_,_,_,b,k=>⟨by simpa[c6]using b,k⟩
 | ak::a,c,j,h,w,m,b,k=>by
   have p:ops[c]? =V ak:=by simpa using (m 0).symm
   simp only[cM,c6,hx,ik]at b;refine⟨λn=>(by rw[b.1]at n;cases n),λi o=>?_⟩;rw[b.1]at o;have q:i=c:=by simpa using o
   subst q;have r:wpOpIn e f P ops g i (wpListIn e f P ops g a) h w:=by unfold wpOpIn;simp only[p];exact k
   exact wpOpIn_mono (λA B C=>UE a (i+1) _ A B (λd=>by have:=m (d+1);simpa[dQ,Nat.add_comm 1 d]using this) b.2 C) r
def hr.lK{P:cV}{ak:bA}{a:cg}{b dE:bj}{c:bt->bj->Prop}{v:bt}
 (d:(execOp a.eval ak).run P b=.ok (.value v) dE) (aF:c v dE):hr P ak a b c:=by
 unfold hr Oper.wp
 rw[d]
 exact⟨v,rfl,aF⟩
def hr.CP{P:cV}{ak:bA}{a:cg}{b c:bj}{d:bt->bj->Prop}
 (e:(execOp a.eval ak).run P b=.ok .skip c) (aF:d undef c):hr P ak a b d:=by
 unfold hr Oper.wp
 rw[e]
 exact⟨undef,rfl,aF⟩
def hr.uD{P:cV}{ak:bA}{b:cg}{c dE:bj}{d:bt->bj->Prop}{f:FuncId}{args:bE bt}
 (h:(execOp b.eval ak).run P c=.ok (.enter f args) dE) (aF:Calls P f args dE λe g=> ∃a,e=.returned a∧d a g):hr P ak b c d:=by
 unfold hr Oper.wp
 rw[h]
 exact aF.mono λe g ⟨a,i,j⟩=>by grind
def aZ(c:cX)(E:R (Nat×J))(L:R aK)(ak:bA)(e:J):Prop:=
 ∀b a,b0 c E L b a->hr c.P ak b a λf d=>Fr [] a d∧e.holds (aP L++c.cv) d f
def aZ.pure{ak:bA}{d:J}(f:∀b a,b0 c E L b a->∃e,(execOp b.eval ak).run c.P a=.ok (.value e) a∧d.holds (aP L++c.cv) a e):aZ c E L ak d:=
 λb a g=>let⟨_,h,i⟩:=f b a g; .lK h ⟨.refl _ _,i⟩
variable{ops:bE bA}{Q:cK->cg->bj->Prop}
def aa(c:cX)(ops:bE bA)(Q:cK->cg->bj->Prop)(d:R bA)(E:R (Nat×J))(L:R aK):Prop:=
 ∀a b,b0 c E L a b->c.tR ops Q d a b
def af(c:cX)(Q:cK->cg->bj->Prop)(x:cK)(E:R (Nat×J))(L:R aK):Prop:=∀a b,b0 c E L a b->Q x a b
def aa.nil(a:af c Q .normal E L):aa c ops Q [] E L:=λb d e=>wpListIn_nil (a b d e)
def jb{c:cX}{ak:bA}{rest:R bA}{d:cg}{e:bj}(f:ak.guard=Y){hh:bt->bj->Prop}(g:hr c.P ak d e hh)
 (h:∀a b,hh a b->c.tR ops Q rest (d.put ak.dst a) b):c.tR ops Q (ak::rest) d e:=
 wpListIn_plain f λ_ i=>g.wpIn λa b aF=>i _ _ (h a b aF)
def aa.v{ak:bA}{rest:R bA}{d:Nat}{a:J}(e:aZ c E L ak a)(f:ak.guard=Y)(aq:ak.dst=V d)(aQ:bu d c.n=Z)
 (g:aa c ops Q rest ((d,a)::E) L):aa c ops Q (ak::rest) E L:=λh i b=>
 jb f (e h i b) λl m ⟨j,k⟩=>by
  rw[aq];exact g _ _ ((b.world j).put (by simpa using aQ) k)
def Kt{a g:Nat}{b:aI}(e:(ops[a]?).bind (·.dst)=V g)(f:look E g=V (.of b)){d:cg}{h:bj}(i:b0 c E L d h):
 yielded ops d.tmps a=V b:=by
 obtain⟨l,j,k⟩:=i.env g _ f
 unfold yielded
 rw[e]
 simp only[cl,j,of_bool.1 k]
def aa.g{ak:bA}{rest:R bA}{d i g:Nat}{b e:aI}{j:J}(a:b=e->aZ c E L ak j)(r:ak.guard=V (i,e))(l:(ops[i]?).bind (·.dst)=V g)
 (m:look E g=V (.of b)) (aq:ak.dst=V d) (aQ:bu d c.n=Z)
 (k:aa c ops Q rest ((d,.cond (b=e) j)::E) L):aa c ops Q (ak::rest) E L:=λn o f=>by
 have A:=Kt l m f
 unfold cX.tR wpListIn
 by_cases h:b=e
 ·rw[bT (by simp_all[bP])]
  refine((a h n o f).wpIn λB C ⟨p,q⟩=>?_)
  rw[aq]
  exact k _ _ ((f.world p).put (by simp_all) ⟨λ_=>q,λa=>absurd h a⟩)
 rw[bU (by simp_all[bP])]
 rw[aq]
 exact⟨λ_ _=>trivial,k _ _ (f.put (by simp_all) ⟨λa=>absurd a h,λ_=>rfl⟩)⟩
def UY{a g:Nat}{b:Prop}{f:aI}(h:(ops[a]?).bind (·.dst)=V g)(i:look E g=V (.cond b (.of f))){d:cg}{j:bj}(k:b0 c E L d j):
 (b->yielded ops d.tmps a=V f)∧(¬b->yielded ops d.tmps a=Y):=by
 obtain⟨o,l,m,n⟩:=k.env g _ i
 unfold yielded
 rw[h]
 simp only[cl,l]
 exact⟨λe=>by simp only[of_bool.1 (m e)],λe=>by simp only[n e];rfl⟩
def aa.jr{ak:bA}{rest:R bA}{d j g:Nat}{b:Prop}{e f:aI}{k:J}(a:b∧e=f->aZ c E L ak k)(B:ak.guard=V (j,f))(n:(ops[j]?).bind (·.dst)=V g)
 (o:look E g=V (.cond b (.of e))) (aq:ak.dst=V d) (aQ:bu d c.n=Z)
 (l:aa c ops Q rest ((d,.cond (b∧e=f) k)::E) L):aa c ops Q (ak::rest) E L:=λm p h=>by
 have C:=UY n o h
 unfold cX.tR wpListIn
 by_cases i:b∧e=f
 ·rw[bT (by simp_all[bP])]
  refine((a i m p h).wpIn λD F ⟨q,r⟩=>?_)
  rw[aq]
  exact l _ _ ((h.world q).put (by simp_all) ⟨λ_=>r,λa=>absurd i a⟩)
 have A:bP ak (yielded ops m.tmps)=bi:=by
  grind[bP]
 rw[bU (by simp[A])]
 refine⟨λ_ _=>trivial,?_⟩
 rw[aq]
 exact l _ _ (h.put (by simp_all) ⟨λa=>absurd a i,λ_=>rfl⟩)
inductive gp(E:List (Nat×J)):List (Nat×J)->Prop
 |nil:gp E []
 |cons {t dm bb r}:look E t=V bb->(∀A W v,bb.holds A W v->dm.holds A W v)->gp E r->gp E ((t,dm)::r)
def gp.same{t:Nat}{b:J}{c:R (Nat×J)}(a:look E t=V b)(d:gp E c):gp E ((t,b)::c):=.cons a (λ_ _ _ a=>a) d
def gp.all{a:R (Nat×J)}(h:gp E a:=by repeat (first|exact gp.nil|refine gp.same o ?_)):gp E a:=h
theorem gp.look:∀{d:R (Nat×J)},gp E d->∀t a,Gv.look d t=V a->∃c,Gv.look E t=V c∧∀f g h,c.holds f g h->a.holds f g h
 |_,.nil,t,a,b=>by grind[Gv.look]
 | _,.cons (t:=s) (bb:=c) h1 fx r,t,a,b=>by
   simp only[Gv.look]at b;by_cases e:be s t=Z
   ·simp_all
   simp only[qc]at e;rw[e]at b;exact r.look t a b
def af.le{x:cK}{br:R (Nat×J)}(a:gp E br)(b:af c Q x br L):af c Q x E L:=λd e f=>b d e (f.less a.look)
def aa.le{a:R bA}{br:R (Nat×J)}(b:gp E br)(d:aa c ops Q a br L):aa c ops Q a E L:=λe f g=>d e f (g.less b.look)
def ar(c:cX)(Q:cK->cg->bj->Prop)(d:ec)(E:R (Nat×J))(L:R aK):Prop:=∀a b,b0 c E L a b->c.wp d Q a b
def ar.le{a:ec}{br:R (Nat×J)}(b:gp E br)(d:ar c Q a br L):ar c Q a E L:=λe f g=>d e f (g.less b.look)
def ar.dW{b:Nat}{a:R bA}(d:aa c a.toArray Q a E L):ar c Q (.region b a.toArray bi) E L:=λe f g=>wpIn_region_lit (d e f g)
def ar.seq{x y:ec}(a:ar c (Exit.then (c.wp y Q) Q) x E L):ar c Q (.seq x y) E L:=λb d e=>wpIn_seq (a b d e)
def af.next{y:ec}(a:ar c Q y E L):af c (Exit.then (c.wp y Q) Q) .normal E L:=λb d e=>a b d e
def af.exit{y:cg->bj->Prop}{a:Nat}(b:af c Q (.exit a) E L):af c (Exit.then y Q) (.exit a) E L:=λd e f=>b d e f
def af.ret{y:cg->bj->Prop}(a:af c Q .ret E L):af c (Exit.then y Q) .ret E L:=λb d e=>a b d e
def ar.block{a:Nat}{x:ec}(b:ar c (cq a Q) x E L):ar c Q (.block a x) E L:=λd e f=>wpIn_block (b d e f)
def af.jV{a:Nat}(b:af c Q .normal E L):af c (cq a Q) .normal E L:=λd e f=>b d e f
def af.j3{a:Nat}(e:af c Q .normal E L):af c (cq a Q) (.exit a) E L:=λb d f=>by
 show(if a=a then Q .normal b d else Q (.exit a) b d);rw[bT o];exact e b d f
def af.alC{b a:Nat}(i:be a b=bi)(g:af c Q (.exit a) E L):af c (cq b Q) (.exit a) E L:=λd f h=>by
 show(if a=b then Q .normal d f else Q (.exit a) d f);rw[bU (λe=>by simp_all)];exact g d f h
def af.km{a:Nat}(b:af c Q .ret E L):af c (cq a Q) .ret E L:=λd e f=>b d e f
def ar.skip(a:af c Q .normal E L):ar c Q .skip E L:=λb d e=>wpIn_skip (a b d e)
def ar.exit{a:Nat}(b:af c Q (.exit a) E L):ar c Q (.exit a) E L:=λd e f=>wpIn_exit (b d e f)
def ar.ret(a:af c Q .ret E L):ar c Q .ret E L:=λb d e=>wpIn_ret (a b d e)
def ar.cond{x:cx}{a:aI}{y g:ec}(h:aN c E L x (.of a))(i:a=Z->ar c Q y E L)(j:a=bi->ar c Q g E L):ar c Q (.cond x y g) E L:=
 λb d e=>wpIn_cond_split (of_bool.1 (h b d e)) (λf=>i f b d e) (λf=>j f b d e)
def cj{bb bp:aB}:Nat->(bb->aw (bb⊕bp))->bb->aw bp
 |0,_,_=>Y
 | b+1,a,c=>match a c with
   |none=>Y
   |some (.inl d)=>cj b a d
   |some (.inr e)=>V e
def ahN{A:Fence}{K:Nat}{P:cV}{f:ec}{j B:aB}(C:j->aw (j⊕B))(k:j->cg->bj->Prop)(L:B->cK->cg->bj->Prop)
 (M:∀c N,C c=V N->∀a b,k c a b->f.wpIn A K P (λx a b=>match N with | .inl D=>x=.normal∧k D a b| .inr e=>x≠ .normal∧L e x a b) a b)
 (Q:cK->cg->bj->Prop) (e:B) (aa:∀x a b,L e x a b->Q x a b) {E:j} {g:Nat} (ab:cj g C E=V e) {F:cg} {G:bj} (ac:k E F G):
 (Code.loop f).wpIn A K P Q F G:=by
 intro l m n O p aF
 have ad:∀g c,cj g C c=V e->∀a b,k c a b->
  ∃x q r,Q x q r∧ArrivesIn (Machine.fenced P A) P (lone (l.atR a (.code f::.inLoop f::m)) n b) l m n x q r:=by
  intro g
  induction g with
  |zero=>intro c d;simp[cj]at d
  | succ g ae=>
    intro c d a b R
    simp only[cj]at d
    split at d
    ·cases d
    ·rename_i D aR
     obtain⟨x,H,I,h,i⟩:=M c _ aR a b R l (.inLoop f::m) n O p aF
     obtain⟨J,af⟩:=h
     subst J
     obtain⟨ag,ah,ai,aj,ak⟩:=ae D d H I af
     exact⟨ag,ah,ai,aj,.of_steps (N5 i (.one (B2 p aF o) stepR_inLoop)) ak⟩
    rename_i am aR
    simp only[iG]at d
    subst d
    obtain⟨x,H,I,h,i⟩:=M c _ aR a b R l (.inLoop f::m) n O p aF
    obtain⟨J,al⟩:=h
    exact⟨x,H,I,aa _ _ _ al,.pass (x:=.inLoop f) o (λ_ _=>.inl J) i⟩
 obtain⟨x,q,r,h,i⟩:=ad g E ab F G ac
 exact⟨x,q,r,h,.of_steps (.one (B2 p aF o) stepR_loop) i⟩
def cf(P:cV)(g:FuncId)(h:R J)(i:J):Prop:=
 ∀ (b:R Nat) (a:bj) (c:R bt),(∀j∈b,j<a.heap.size)->ha b a h c->
   Calls P g c.toArray a λe d=> ∃f,e=.returned f∧Fr [] a d∧i.holds b d f
def params:Nat->R J->R (Nat×J)
 |_,[]=>[]
 |a,b::c=>(a,b)::params (a+1) c
def zR{c:R Nat}{d:bj}{f:R J}{g:R bt}(i:ha c d f g):∀(a t:Nat) (b:J),look (params a f) t=V b->a<=t∧∃h,g[t-a]? =V h∧b.holds c d h:=by
 induction i with
 |nil=>simp_all[params,look]
 | cons k l m=>
   intro a t b j
   simp only[params,look]at j
   by_cases e:be a t=Z
   ·simp_all
   grind
def cf.enter{P:cV}{h:FuncId}{a:Func}{i:ec}{b:Nat}{c:R J}{j:J}(n:P.funcs[h]? =V a)(o:a.body=V i)(aQ:a.ntmps=b)(p:cd c.length b=Z)
 (q:∀d f,ar ⟨P,b,d,[],f,Y,[]⟩ (bodyPost P a λe k=> ∃g,e=.returned g∧Fr [] d k∧j.holds f k g) i (params 0 c) []):cf P h c j:=by
 intro f d r A l
 refine Jr n o (wpIn_wide.1 (q d f _ _ ?_))
 have B:=l.length
 have I:c.length<=b:=pq p
 exact
 {defers:=rfl
  size:=by simp[aQ,B];omega
  env:=λt C D=>by
   obtain⟨_,g,m,E⟩:=zR l 0 t C D;refine⟨g,?_,E⟩;have F:t<r.length:=(lX.1 m).1;rw[Ih (by simpa using F)];simpa using m
  ey:=.refl _ _
  own:=by simp
  nodup:=by simp[aP]
  lt:=by simp[aP]
  gl:=by simp[aP]
  eW:=λG H=>⟨A G H,by simp[aP]⟩}
def Vj{a:J}{c f:R Nat}{d:bj}{e:bt}(b:a.holds (f++c) d e):a.holds c d e:=a.mono (.drop λ_ b=>eN.2 (.inr b)) b
end
section
variable{c:cX}{E:R (Nat×J)}{L:R aK}{ops:bE bA}{Q:cK->cg->bj->Prop}
def h0(c:cX)(ops:bE bA)(E:R (Nat×J))(L:R aK)(ak:bA)(d:J):Prop:=
 ∀ a b,b0 c E L a b->
   (bP ak (yielded ops a.tmps)=Z->hr c.P ak a b λf e=>Fr [] b e∧d.holds (aP L++c.cv) e f)∧
   (bP ak (yielded ops a.tmps)=bi->d.holds (aP L++c.cv) b undef)
def h0.v{ak:bA}{a:J}(b:aZ c E L ak a)(g:ak.guard=Y):h0 c ops E L ak a:=λd e f=>
 ⟨λ_=>b d e f,λh=>by simp_all[bP]⟩
def h0.g{ak:bA}{f g:Nat}{a b:aI}{h:J}(d:a=b->aZ c E L ak h)(r:ak.guard=V (f,b))(j:(ops[f]?).bind (·.dst)=V g)(k:look E g=V (.of a)):
 h0 c ops E L ak (.cond (a=b) h):=λl m i=>by
 have A:=Kt j k i
 constructor
 ·intro n
  have e:a=b:=by simp_all[bP]
  refine hr.wp (d e l m i) λo B ⟨p,q⟩=>⟨o,rfl,p,λ_=>q,λd=>absurd e d⟩
 intro n
 exact⟨λe=>by simp_all[bP],λ_=>rfl⟩
def h0.jr{ak:bA}{h g:Nat}{a:Prop}{b d:aI}{i:J}(e:a∧b=d->aZ c E L ak i)(A:ak.guard=V (h,d))(m:(ops[h]?).bind (·.dst)=V g)(n:look E g=V (.cond a (.of b))):
 h0 c ops E L ak (.cond (a∧b=d) i):=λj o k=>by
 have B:=UY m n k
 have l:bP ak (yielded ops j.tmps)=Z->a∧b=d:=by
  grind[bP]
 constructor
 ·intro f
  refine hr.wp (e (l f) j o k) λp C ⟨q,r⟩=>⟨p,rfl,q,λ_=>r,λe=>absurd (l f) e⟩
 intro f
 exact⟨λD=>by simp_all[bP],λ_=>rfl⟩
inductive abU
 |val (dm:J)
 |new (gg:ft)
 |kJ (i:Nat) (gg:ft)
 |arY (j:Nat) (gg:ft)
def uY(w:Nat->aI)(i:Nat):Nat->R abU->aI
 |_,[]=>Z
 |a,.kJ c _::b=>(!(be c i)||w a)&&uY w i (a+1) b
 |a,.val _::b=>uY w i (a+1) b
 |a,.new _::b=>uY w i (a+1) b
 |a,.arY _ _::b=>uY w i (a+1) b
def Yw(c g:Nat->aI)(i:Nat)(j:c i=Z)(k:g i=bi)(d:∀f,g f=Z->c f=Z):∀a,i<a->U ((b8 a).filter g)<U ((b8 a).filter c):=by
 have l:∀a,U ((b8 a).filter g)<=U ((b8 a).filter c):=by
  intro a;induction a with
  |zero=>simp
  | succ a h=>
    rw[ES,oy,oy,lI,lI]
    have:U ([a].filter g)<=U ([a].filter c):=by
     cases b:g a with
     |false=>simp[b]
     |true=>simp[b,d a b]
    omega
 intro a;induction a with
 |zero=>omega
 | succ a h=>
   intro m
   rw[ES,oy,oy,lI,lI]
   by_cases e:i=a
   ·subst e
    have:=l i
    simp[j,k]
    omega
   have n:=h (by omega)
   have:U ([a].filter g)<=U ([a].filter c):=by
    cases b:g a with
    |false=>simp[b]
    |true=>simp[b,d a b]
   omega
def agY{b:Nat}{g:bE aI}(j:HeadInv .any ops b g)(aQ:b<=ops.size)(D:∀i,i<b->g.getD i Z=Z):
 g=(b8 b).foldl (λa i=>a.setIfInBounds i Z) (ca ops.size bi):=by
 have m:∀c,c<=ops.size->((b8 c).foldl (λa i=>a.setIfInBounds i Z) (ca ops.size bi)).size=ops.size∧
  ∀f (d:aI),f<ops.size->((b8 c).foldl (λa i=>a.setIfInBounds i Z) (ca ops.size bi)).getD f d=bd (f<c):=by
  intro c
  induction c with
  |zero=>simp_all
  | succ c n=>
    intro E
    obtain⟨k,h⟩:=n (by omega)
    rw[ES,Ez]
    simp only[dh,List.foldl_nil]
    refine⟨by simp_all,λf d o=>?_⟩
    by_cases e:c=f
    ·simp_all
    rw[getD_set_ne d e,h f d o]
    grind
 obtain⟨k,h⟩:=m b aQ
 apply Array.ext
 ·rw[j.size,k]
 intro i p q
 have l:i<ops.size:=by omega
 have r:=h i Z l
 have A:g.getD i Z=g[i]:=by simp[p]
 have B:((b8 b).foldl (λa i=>a.setIfInBounds i Z) (ca ops.size bi)).getD i Z=((b8 b).foldl (λa i=>a.setIfInBounds i Z) (ca ops.size bi))[i]:=by
  simp[q]
 rw[<-B,r,<-A]
 by_cases C:i<b
 ·grind
 rw[j.tail i (by omega) l];simp[C]
def xR{L a:R aK}(b:L.Perm a):(aP L).Perm (aP a):=by
 induction b with
 |nil=>rfl
 |cons x _ c=>cases d:x.key <;> simp only[aP,d] <;> first|exact c|simp_all
 | swap x y g=>
   cases e:x.key <;> cases f:y.key <;> simp only[aP,e,f]
   all_goals grind
 |trans _ _ h i=>grind
def b0.perm{E L a b d}(f:b0 c E L b d)(g:L.Perm a):b0 c E a b d:=
 f.sub (λe h=>g.mem_iff.2 h) ((xR g).nodup_iff.1 f.nodup)
end
class bR (P:cV) (t:bH) (au:aB) [ah au]:Prop where
 size:(P.info? t).map (·.size)=V (ah.size au)
 aby:∃d,P.underlying t=V d∧(match d with | .struct _| .array _ _=>Z|_=>bi)=ah.agg au
class dn (P:cV) (t:bH) {au:outParam aB} [ah au] (x:outParam au):Prop where
 zero:∃i z,P.info? t=V i∧i.zero=V z∧∀A W,(J.of x).holds A W z
def bR.info{P t a}[ah a](b:bR P t a):∃i,P.info? t=V i∧i.size=ah.size a:=by
 have:=b.size;simp_all
def bR.isAgg{P t a}[ah a](c:bR P t a)(b:bj):(isAgg t).run P b=.ok (ah.agg a) b:=by
 obtain⟨d,aq,e⟩:=c.aby
 unfold Go.isAgg;rw[eH,dZ aq b];simp only[a'];cases d <;> simp_all
def bR.sizeOf{P t a}[ah a](c:bR P t a)(b:bj):(Go.sizeOf t).run P b=.ok (ah.size a) b:=by
 obtain⟨i,d,aR⟩:=c.info;simp_all[Go.sizeOf,typeInfo]
def kD(a b c:Nat):(⟨a,b,Y⟩:Addr).add c=⟨a,b+c,Y⟩:=by simp_all[Addr.add]
def zL{P:cV}{b:bj}{e off:Nat}{c:bE bt}{j t:bH}{k:Nat×Nat}{au:aB}[ah au]{A:R Nat}{x:au}(ty:bR P t au)
 (n:b.heap[e]? =V (.cells c j k)) (aR:off+ah.size au<=c.size) (aF:ah.rep A b ((c.toList.drop off).take (ah.size au)) x):
 ∃a,(loadVar t ⟨e,off,Y⟩).run P b=.ok a b∧(J.of x).holds A b a:=by
 have h:=ah.len aF
 have l:∀f a,((c.toList.drop off).take (ah.size au))[f]? =V a->b.cell? ((⟨e,off,Y⟩:Addr).add f)=V a:=by
  intro f a d;rw[kD,FD b e (off+f) c j k n];rw[nh]at d;split at d
  ·rw[pr]at d;simpa using d
  cases d
 cases i:ah.agg au with
 | true=>
   have g:=Iz (P:=P) b ⟨e,off,Y⟩ _ l
   rw[h]at g
   refine⟨.agg ((c.toList.drop off).take (ah.size au)).toArray,?_,?_,?_⟩
   ·simp[loadVar,eH,ty.isAgg,ty.sizeOf,i,g]
   ·grind[shaped]
   simp_all[Value.cells]
 | false=>
   have g:ah.size au=1:=ah.flat i
   rw[g]at h
   obtain⟨a,d⟩:=SZ.1 h
   have m:=l 0 a (by simp_all)
   have o:a.oneCell'=Z:=ah.one aF a (by simp_all)
   refine⟨a,?_,?_,?_⟩
   ·rw[kD,bZ]at m
    simp[loadVar,eH,ty.isAgg,i,m]
   ·simp_all[shaped]
   simp_all[cells_one]
def h3(a:R bt)(b:Nat)(c:R bt):R bt:=a.take b++c++a.drop (b+U c)
def aiN{d e a}{b:aB}[ah b]{x:b}(c:(J.of x).holds d e a):U a.cells.toList=ah.size b∧∀f∈a.cells.toList,f.oneCell'=Z:=⟨ah.len c.2,ah.one c.2⟩
def JM{P:cV}{a:bj}{d off:Nat}{e:bE bt}{f t:bH}{b:aB}[ah b]{A:R Nat}{x:b}{c:bt}(ty:bR P t b)
 (g:a.heap[d]? =V (.cells e f (0,0))) (aR:off+ah.size b<=e.size) (h:(J.of x).holds A a c):
 (storeVar t ⟨d,off,Y⟩ c).run P a=.ok () (a.setRow d (h3 e.toList off c.cells.toList).toArray):=by
 obtain⟨l,i⟩:=aiN h
 have j:=EE P d off f c.cells.toList 0 e a g (by omega) i
 have k:c.cells.size=ah.size b:=by omega
 simp only[bZ]at j
 simp only[storeVar,eH,ty.sizeOf,a',k]
 grind[reduceIte,h3]
structure aG(b7 aY:Type)[ah b7][ah aY]where
 off:Nat
 get:b7->aY
 set:b7->aY->b7
 hD:off+ah.size aY<=ah.size b7
 jK:∀{A W cs b},ah.rep A W cs b->ah.rep A W ((cs.drop off).take (ah.size aY)) (get b)
 nt:∀{A W cs b ds g},ah.rep A W cs b->ah.rep A W ds g->ah.rep A W (cs.take off++ds++cs.drop (off+ah.size aY)) (set b g)
@[reducible] def aG.id (b7:aB) [ah b7]:aG b7 b7 where
  off:=0
  get b:=b
  set _ g:=g
  hD:=by simp
  jK h:=by
   have:=ah.len h;grind
  nt h nL:=by
   have h1:=ah.len h;grind
theorem Cr(c:R bt)(d e a b:Nat)(f:a+b<=e):(((c.drop d).take e).drop a).take b=(c.drop (d+a)).take b:=by
 apply ni;grind
def VM(a f:R bt)(b d c e:Nat)(g:c+e<=d)(h:b+d<=U a):
 a.take b++(((a.drop b).take d).take c++f++((a.drop b).take d).drop (c+e))++a.drop (b+d)=a.take (b+c)++f++a.drop (b+c+e):=by
 have j:a.take (b+c)=a.take b++((a.drop b).take d).take c:=by
  grind
 have k:a.drop (b+c+e)=((a.drop b).take d).drop (c+e)++a.drop (b+d):=by
  apply ni;intro i;simp only[Tb,pr,nh,qT,oz];grind
 simp_all
@[reducible] def aG.comp {au b7 aY:aB} [ah au] [ah b7] [ah aY] (l:aG au b7) (m:aG b7 aY):aG au aY where
  off:=l.off+m.off
  get b:=m.get (l.get b)
  set b g:=l.set b (m.set (l.get b) g)
  hD:=by have:=l.hD;have:=m.hD;omega
  jK h:=by
   have:=m.jK (l.jK h);rwa[Cr _ _ _ _ _ m.hD]at this
  nt h nL:=by
   have h1:=l.nt h (m.nt (l.jK h) nL);have fx:=ah.len h;have iX:=l.hD;rwa[VM _ _ _ _ _ _ m.hD (by omega)]at h1
def cu{a:aB}[Inhabited a]{b:Nat}(c:ck a b)(d:Nat):a:=c[d]?.getD b1
def fC{a:aB}{b:Nat}(c:ck a b)(d:Nat)(x:a):ck a b:=c.setIfInBounds d x
instance{au:aB}[Inhabited au]{n:Nat}:Inhabited (ck au n):=⟨c7 n b1⟩
instance{au:aB}[ah au][Inhabited au]{n:Nat}:ah (ck au n)where
 size:=n*ah.size au
 agg:=Z
 rep A W cs v:=hP A W cs v.toList
 len h:=by rw[h.1];simp
 one h:=by
  intro u hu;obtain⟨j,vn⟩:=ow.1 hu;have AP:=(lX.1 vn).1;have h1:=h.1;by_cases aR:ah.size au=0
  ·simp_all
  have aC:0<ah.size au:=Ey aR;have pg:j/ah.size au<_:=(S8 aC).2 (by rw[h1]at AP;exact AP);refine ah.one (h.2 _ pg) u (ow.2 ⟨j % ah.size au,?_⟩);rw[nh,bT (FJ _ aC),pr,vH,ET];exact vn
 flat h:=by cases h
 mono e h:=h.mono e
def agu{b:aB}[Inhabited b]{c:Nat}(d:ck b c){a:Nat}(e:a<c):cu d a=d.toList[a]'(by simp_all):=by grind[cu]
def Px{a:aB}[ah a]{d f}{b g:R bt}{c:R a}{x:a}{k:Nat}(j:hP d f b c)(m:k<U c)(aq:ah.rep d f g x):
 hP d f (b.take (k*ah.size a)++g++b.drop (k*ah.size a+ah.size a)) (c.set k x):=by
 have o:=j.1
 have p:=ah.len aq
 have n:(k+1)*ah.size a<=U c*ah.size a:=ij _ m
 rw[vI]at n
 refine⟨by grind,λi l=>?_⟩
 rw[vC]at l
 by_cases e:k=i
 ·grind
 have q:=j.2 i l
 have:((b.take (k*ah.size a)++g++b.drop (k*ah.size a+ah.size a)).drop (i*ah.size a)).take (ah.size a)=(b.drop (i*ah.size a)).take (ah.size a):=by
  apply ni;intro r;simp only[nh,pr];split
  ·rename_i A;simp only[Tb,lI,oz,nh,pr];rcases Nat.lt_or_gt_of_ne e with h|h
   ·have:(k+1)*ah.size a<=i*ah.size a:=ij _ h;grind
   have:(i+1)*ah.size a<=k*ah.size a:=ij _ h;grind
  rfl
 simp_all
@[reducible] def aG.idx {au:aB} [ah au] [Inhabited au] (n k:Nat) (hk:k<n):aG (ck au n) au where
  off:=k*ah.size au
  get v:=cu v k
  set v x:=fC v k x
  hD:=by
   show k*ah.size au+ah.size au<=n*ah.size au;rw[<-vI];exact ij _ hk
  jK h:=by
   rename_i b;rw[agu b hk];exact h.2 k (by simp_all)
  nt h aq:=by
   rename_i b ds g;have:=Px h (k:=k) (by simp_all) aq;show hP _ _ _ (fC b k g).toList;simp_all[fC]
def idx(a:Nat)(i:Int):aw Nat:=if 0<=i∧i<a then V i.toNat else Y
def cz{b:Nat}{i:Int}{a:Nat}(c:idx b i=V a):a<b∧i=a:=by
 grind[idx]
section
variable{c:cX}{E:R (Nat×J)}{L:R aK}{ops:bE bA}{Q:cK->cg->bj->Prop}
variable{d:aw Tmp}{ty:bH}{pos:String}{a1:bE Edge}{g:aw (Nat×aI)}
def cN{x:cx}{a:J}(b:aN c E L x a):aZ c E L ⟨d,.move x,ty,pos,a1,g⟩ a:=.pure λe f h=>⟨_,rfl,b e f h⟩
def cc{x:cx}{a:J}(b:aN c E L x a):aZ c E L ⟨d,.assign x,ty,pos,a1,g⟩ a:=.pure λe f h=>⟨_,rfl,b e f h⟩
def oY{x y:cx}{a e:aI}{b:Prop}(j:aN c E L x (.of a))(k:aN c E L y (.cond b (.of e)))(l:a=bi->b):
 aZ c E L ⟨d,.pick x (.const (.bool Z)) y,ty,pos,a1,g⟩ (.of (a||e)):=.pure λf h i=>by
 have m:=of_bool.1 (j f h i)
 cases a with
 |true=>exact⟨.bool Z,by simp only[execOp,m,asBool];rfl,of_bool.2 o⟩
 | false=>
   have n:=of_bool.1 ((k f h i).1 (l o))
   exact⟨.bool e,by simp_all[execOp,asBool],of_bool.2 o⟩
def mR{x y:cx}{a e:aI}{b:Prop}(j:aN c E L x (.of a))(k:aN c E L y (.cond b (.of e)))(l:a=Z->b):
 aZ c E L ⟨d,.pick x y (.const (.bool bi)),ty,pos,a1,g⟩ (.of (a&&e)):=.pure λf h i=>by
 have m:=of_bool.1 (j f h i)
 cases a with
 |false=>exact⟨.bool bi,by simp only[execOp,m,asBool];rfl,of_bool.2 o⟩
 | true=>
   have n:=of_bool.1 ((k f h i).1 (l o))
   exact⟨.bool e,by simp_all[execOp,asBool],of_bool.2 o⟩
def lr{x:cx}{a:aI}{t:bH}(b:aN c E L x (.of a)):aZ c E L ⟨d,.unOp .not t x,ty,pos,a1,g⟩ (.of (!a)):=.pure λe f h=>
 ⟨.bool (!a),by simp[execOp,Op.unary,of_bool.1 (b e f h)],of_bool.2 o⟩
def iq{x:cx}{t:bH}{i f ak:Nat}{a b:aB}[ah a][ah b]{h:a}(e:aG a b){j:b}(n:bR c.P t b)(o:aN c E L x (.eq (.pointer (V ⟨f,ak,Y⟩))))
 (p:L[i]? =V ⟨V f,.var h⟩) (q:ak=e.off) (aF:e.get h=j):aZ c E L ⟨d,.load t x,ty,pos,a1,g⟩ (.of j):=.pure λk r l=>by
 subst q
 subst aF
 obtain⟨G,B,C,H,rfl,m⟩:=l.own _ (fM p)
 have I:U C.toList=ah.size a:=ah.len m
 obtain⟨D,J,F⟩:=zL (A:=aP L++c.cv) n B (by have:=e.hD;simp_all) (e.jK m)
 refine⟨D,?_,F⟩
 have K:k.eval x=_:=o k r l
 simp_all[execOp,cr,bQ]
def hn{x:cx}{t:bH}{a:aB}[ah a]{b:a}(e:bR c.P t a)(f:aN c E L x (.ptr b)):aZ c E L ⟨d,.load t x,ty,pos,a1,g⟩ (.of b):=.pure λh i j=>by
 obtain⟨l,m,n,o,p,q,r,k,aR,aF⟩:=f h i j;obtain⟨A,B,C⟩:=zL e k aR aF;simp_all[execOp,cr,bQ]
structure yC(P:Program)(s:TypeId)(f ak:Nat):Prop where
 at_:∃iO fd i,P.underlying s=V (.struct iO)∧iO[f]? =V fd∧fd.offset=ak∧P.info? fd.type=V i∧i.size≠0
def U2{P:cV}{a:bH}{b ak:Nat}(f:yC P a b ak)(c d:Nat)(e:bj):
 (dR a (.pointer (V ⟨c,d,Y⟩)) b).run P e=.ok (.pointer (V ⟨c,d+ak,Y⟩)) e:=by
 obtain⟨m,n,i,g,h,j,k,l⟩:=f.at_
 simp[dR,dZ g,h,bQ,fieldPlace,Go.sizeOf,typeInfo,k,l,kD,j]
def bM{x:cx}{a b ak e f:Nat}(i:yC c.P a b ak)(j:aN c E L x (.eq (.pointer (V ⟨e,f,Y⟩)))):
 aZ c E L ⟨d,.fieldAddr a x b,ty,pos,a1,g⟩ (.eq (.pointer (V ⟨e,f+ak,Y⟩))):=.pure λh k l=>by
 have m:h.eval x=_:=j h k l
 exact⟨_,by simp[execOp,m,U2 i],rfl⟩
def oV{x:cx}{f h ak:Nat}{b e:aB}[ah b][ah e]{i:b}(a:aG b e){j:e}(m:yC c.P f h ak)(n:aN c E L x (.ptr i))(o:a.off=ak)(aF:a.get i=j):
 aZ c E L ⟨d,.fieldAddr f x h,ty,pos,a1,g⟩ (.ptr j):=.pure λp q r=>by
 subst o
 subst aF
 obtain⟨k,l,A,B,C,D,F,G,aR,H⟩:=n p q r
 refine⟨.pointer (V ⟨k,l+a.off,Y⟩),by simp[execOp,D,U2 m],k,l+a.off,A,B,C,rfl,F,G,by have:=a.hD;omega,?_⟩
 have:=a.jK H
 rwa[Cr _ _ _ _ _ a.hD]at this
class nO (P:cV) (t:bH) (n s:outParam Nat):Prop where
 at_:∃e i,P.underlying t=V (.array n e)∧P.info? e=V i∧i.size=s
def afp{P:cV}{t b c:Nat}(h:nO P t b c)(d f:Nat)(a:Nat)(j:a<b)(g:bj):
 (cA t (.pointer (V ⟨d,f,Y⟩)) (.int .i64 (a:Int))).run P g=.ok (.pointer (V ⟨d,f+a*c,Y⟩)) g:=by
 obtain⟨e,i,k,l,m⟩:=h.at_
 simp[cA,asIntOf,dZ k,bQ,Go.sizeOf,typeInfo,l,m,j,kD]
def hp{x y:cx}{t e f h j:Nat}{i:Int}{a:Nat}(p:nO c.P t e f)(m:aN c E L x (.eq (.pointer (V ⟨h,j,Y⟩))))(n:aN c E L y (.of i))(o:a<e∧i=a):
 aZ c E L ⟨d,.indexAddr t x y,ty,pos,a1,g⟩ (.eq (.pointer (V ⟨h,j+a*f,Y⟩))):=.pure λb k l=>by
 have q:b.eval x=_:=m b k l
 have r:=of_int.1 (n b k l)
 obtain⟨A,rfl⟩:=o
 exact⟨_,by simp_all[execOp,afp],rfl⟩
def aa.alloc{t:bH}{rest:R bA}{a8:Nat}{b:aB}[ah b]{a:b}(j:dn c.P t a)(aQ:bu a8 c.n=Z)
 (k:∀d,aa c ops Q rest ((a8,.eq (.pointer (V ⟨d,0,Y⟩)))::E) (⟨V d,.var a⟩::L)):aa c ops Q (⟨V a8,.alloc t,ty,pos,a1,Y⟩::rest) E L:=λq e l=>by
 obtain⟨i,f,r,A,m⟩:=j.zero
 refine jb o (hh:=λg h=>g=.pointer (V ⟨e.heap.size,0,Y⟩)∧h=e.alloc (.cells f.cells t)) (.lK ?_ ⟨rfl,rfl⟩) λg h ⟨n,p⟩=>?_
 ·simp_all[execOp,d5,zeroValue,typeInfo,newVar,newRow]
 subst n
 subst p
 exact k _ _ _ ((l.alloc (gg:=.var a) ⟨f.cells,t,rfl,(m _ _).2⟩).put (by simp_all) o)
def aa.box{t:bH}{x:cx}{rest:R bA}{a8:Nat}{b:aB}[ah b]{z:b}(i:aN c E L x (.of z))(aQ:bu a8 c.n=Z)
 (j:∀d,aa c ops Q rest ((a8,.eq (.pointer (V ⟨d,0,Y⟩)))::E) (⟨V d,.var z⟩::L)):aa c ops Q (⟨V a8,.box t x,ty,pos,a1,Y⟩::rest) E L:=λe a f=>by
 refine jb o (hh:=λg h=>g=.pointer (V ⟨a.heap.size,0,Y⟩)∧h=a.alloc (.cells (e.eval x).cells t)) (.lK ?_ ⟨rfl,rfl⟩) λg h ⟨k,l⟩=>?_
 ·rfl
 subst k
 subst l
 exact j _ _ _ ((f.alloc (gg:=.var z) ⟨_,t,rfl,(i e a f).2⟩).put (by simp_all) o)
def aa.store{x y:cx}{t:bH}{rest:R bA}{i p ak:Nat}{d e:aB}[ah d][ah e]{b et:d}{v:e}(a:aG d e)(r:bR c.P t e)(B:aN c E L x (.eq (.pointer (V ⟨p,ak,Y⟩))))
 (C:aN c E L y (.of v)) (k:L[i]? =V ⟨V p,.var b⟩) (D:ak=a.off) (F:a.set b v=et)
 (G:aa c ops Q rest E (L.set i ⟨V p,.var et⟩)):aa c ops Q (⟨Y,.store t x y,ty,pos,a1,Y⟩::rest) E L:=λf h g=>by
 subst D
 subst F
 obtain⟨J,l,m,H,rfl,n⟩:=g.own _ (fM k)
 have K:U m.toList=ah.size d:=ah.len n
 have M:=a.hD
 have j:=C f h g
 have N:=JM (A:=aP L++c.cv) r l (off:=a.off) (by simp_all) j
 have O:f.eval x=_:=B f h g
 refine jb o (hh:=λv q=>q=h.setRow p (h3 m.toList a.off (f.eval y).cells.toList).toArray) (.CP ?_ o) λv q I=>?_
 ·simp_all[execOp,cm,bQ]
 subst I
 refine G _ _ (g.store k l ?_)
 refine⟨_,H,rfl,?_⟩
 have:=a.nt n j.2
 simpa[h3,ah.len j.2]using this
def iu(c:cX)(E:R (Nat×J))(L:R aK):R cx->R J->Prop
 |[],[]=>True
 |x::a,b::d=>aN c E L x b∧iu c E L a d
 |_,_=>False
def iu.holds:∀{e:R cx} {f:R J},iu c E L e f->∀b d,b0 c E L b d->ha (aP L++c.cv) d f (e.map b.eval)
 |[],[],_,_,_,_=>.nil
 |x::e,h::f,a,b,d,g=>.cons (a.1 b d g) (a.2.holds b d g)
 |[],_::_,a,_,_,_=>a.elim
 |_::_,[],a,_,_,_=>a.elim
structure bk(P:Program)(f:FuncId):Prop where
 at_:∃ fn,P.funcs[f]? =V fn∧fn.body.isNone=bi∧ (fn.name== "runtime.NumGoroutine")=bi
theorem bk.run{P:cV}{a:FuncId}(d:bk P a)(b:bE bt)(c:bj):(callFunc a b).run P c=.ok (.enter a b) c:=by
 obtain⟨h,e,f,g⟩:=d.at_;simp only[callFunc,eH,run_program,a',e,g,f];rfl
def fP{a:FuncId}{b:R cx}{l:bE bH}{h:R J}{i:J}(m:bk c.P a)(n:cf c.P a h i)(o:iu c E L b h):
 aZ c E L ⟨d,.call ⟨.value (.func a),b.toArray,l⟩,ty,pos,a1,g⟩ i:=λj e k=>by
 refine .uD (f:=a) (args:=(b.map j.eval).toArray) (dE:=e) ?_ (n _ e _ k.Ap (o.holds j e k))
 simp[execOp,resolve,b',Act.eval,invoke,m.run]
def uE{P:cV}{W:bj}{t off:Nat}{cs:bE bt}{a:aB}[ah a]{A:R Nat}{x:a}(ty:bR P t a)(aR:off+ah.size a<=cs.size)
 (aF:ah.rep A W ((cs.toList.drop off).take (ah.size a)) x):∃c,(part t cs off).run P W=.ok c W∧(J.of x).holds A W c:=by
 have g:=ah.len aF
 cases b:ah.agg a with
 | true=>
   refine⟨.agg (cs.extract off (off+ah.size a)),?_,?_,?_⟩
   ·simp[part,ty.isAgg,ty.sizeOf,b]
   ·grind[shaped]
   simp_all[Value.cells,List.extract,Array.toList_extract]
 | false=>
   have d:ah.size a=1:=ah.flat b
   have e:off<cs.size:=by omega
   have f:(cs.toList.drop off).take (ah.size a)=[cs[off]]:=by
    rw[d];apply ni;grind
   rw[f]at aF
   have h:cs[off].oneCell'=Z:=ah.one aF _ (by simp)
   refine⟨cs[off],?_,?_,?_⟩
   ·simp[part,ty.isAgg,b,e]
   ·simp_all[shaped]
   simp_all[cells_one]
structure DW(P:Program)(s f t ak:Nat):Prop where
 at_:∃iO fd,P.underlying s=V (.struct iO)∧iO[f]? =V fd∧fd.offset=ak∧fd.type=t
def CM{x:cx}{h i t ak:Nat}{a e:aB}[ah a][ah e]{j:a}(b:aG a e){k:e}(o:DW c.P h i t ak)(p:bR c.P t e)(q:ah.agg a=Z)(r:aN c E L x (.of j))(B:b.off=ak)(aF:b.get j=k):
 aZ c E L ⟨d,.field h x i,ty,pos,a1,g⟩ (.of k):=.pure λC l D=>by
 subst B
 subst aF
 obtain⟨m,f⟩:=r C l D
 simp only[shaped,q,l7]at m
 obtain⟨n,F⟩:=m
 obtain⟨G,H,I,J,K,M⟩:=o.at_
 rw[F]at f
 simp only[Value.cells]at f
 have N:U n.toList=ah.size a:=ah.len f
 obtain⟨O,Q,R⟩:=uE (A:=aP L++c.cv) (P:=c.P) (W:=l) (cs:=n) (off:=b.off) p (by have:=b.hD;simp_all) (b.jK f)
 simp_all[execOp,Instr.field,dZ,asAgg]
def GL{x y:cx}{t e b:Nat}{i:Int}{k:Nat}{a:aB}[ah a][Inhabited a]{n:ck a b}(r:c.P.underlying t=V (.array b e))(o:bR c.P e a)(B:aN c E L x (.of n))(C:aN c E L y (.of i))(D:k<b∧i=k):
 aZ c E L ⟨d,.index t x y,ty,pos,a1,g⟩ (.of (cu n k)):=.pure λj l p=>by
 obtain⟨K,f⟩:=B j l p
 obtain⟨h,q⟩:∃h,j.eval x=.agg h:=by simp_all[shaped,ah.agg]
 have F:=of_int.1 (C j l p)
 obtain⟨m,rfl⟩:=D
 rw[q]at f
 simp only[Value.cells]at f
 have M:U h.toList=b*ah.size a:=ah.len f
 have G:=(aG.idx (au:=a) b k m).hD
 obtain⟨H,I,J⟩:=uE (A:=aP L++c.cv) (P:=c.P) (W:=l) (cs:=h) (off:=k*ah.size a) o
  (by
   have:k*ah.size a+ah.size a<=b*ah.size a:=G;simp_all) ((aG.idx (au:=a) b k m).jK f)
 refine⟨H,?_,J⟩
 simp[execOp,Instr.index,asIntOf,dZ r,q,F,m,o.sizeOf,I]
def yf{x:cx}{i:Nat}{a:R J}{b:J}(j:aN c E L x (.bO a))(k:a[i]? =V b):aZ c E L ⟨d,.extract x i,ty,pos,a1,g⟩ b:=.pure λl f m=>by
 obtain⟨e,n,o⟩:=j l f m;have p:∀{a:R J} {e:R bt},ha (aP L++c.cv) f a e->∀(i:Nat) (b:J),a[i]? =V b->∃h,e[i]? =V h∧b.holds (aP L++c.cv) f h:=by
  intro a e q;induction q with
  |nil=>simp_all
  | cons n _ r=>
    grind
 obtain⟨h,A,B⟩:=p o i b k;simp_all[execOp,Instr.extract]
end
def aV(x:Int):Int:=IntKind.i64.wrap x
theorem eU{x:Int}(a: -9223372036854775808<=x)(b:x<=9223372036854775807):aV x=x:=by
 grind[aV,IntKind.wrap_i64]
def Dv(a:Int)(b:Nat):Int:=a.fdiv (2^min b 64)
def Hs(b a:Int):aw Int:=if a=0 then Y else V (aV (b.tdiv a))
def rB(b a:Int):aw Int:=if a=0 then Y else V (b.tmod a)
def ahO{b a c:Int}(d:Hs b a=V c):a≠0∧aV (b.tdiv a)=c:=by simp_all[Hs]
def VF{b a c:Int}(d:rB b a=V c):a≠0∧b.tmod a=c:=by simp_all[rB]
def wrap_u8(a:Int):IntKind.u8.wrap a=a % 256:=by rfl
theorem wrap_u64(a:Int):IntKind.u64.wrap a=a % 18446744073709551616:=by rfl
def ako(P:cV)(c:bj)(a e:IntKind)(d b:Int)(f:0<=b):(Op.shift .shl a d e b).run P c=.ok (.int a (a.wrap (d*2^min b.toNat a.bits))) c:=by
 simp_all[Op.shift,bU]
def akp(P:cV)(c:bj)(a e:IntKind)(d b:Int)(f:0<=b):(Op.shift .shr a d e b).run P c=.ok (.int a (d.fdiv (2^min b.toNat a.bits))) c:=by
 simp_all[Op.shift,bU]
section
variable{c:cX}{E:R (Nat×J)}{L:R aK}
variable{d:aw Tmp}{ty:bH}{pos:String}{a1:bE Edge}{g:aw (Nat×aI)}{x y:cx}{t t2:bH}
def hc{a b:Int}(i:aN c E L x (.of a))(j:aN c E L y (.of b)):aZ c E L ⟨d,.binOp .add t x y t2,ty,pos,a1,g⟩ (.of (aV (a+b))):=.pure λe f h=>
 ⟨.int .i64 (aV (a+b)),by simp[execOp,eqGuard,binOp,Op.intArith,of_int.1 (i e f h),of_int.1 (j e f h),aV],of_int.2 o⟩
def sw{a b:Int}(i:aN c E L x (.of a))(j:aN c E L y (.of b)):aZ c E L ⟨d,.binOp .sub t x y t2,ty,pos,a1,g⟩ (.of (aV (a-b))):=.pure λe f h=>
 ⟨.int .i64 (aV (a-b)),by simp[execOp,eqGuard,binOp,Op.intArith,of_int.1 (i e f h),of_int.1 (j e f h),aV],of_int.2 o⟩
def aoQ{a b:Int}(i:aN c E L x (.of a))(j:aN c E L y (.of b)):aZ c E L ⟨d,.binOp .mul t x y t2,ty,pos,a1,g⟩ (.of (aV (a*b))):=.pure λe f h=>
 ⟨.int .i64 (aV (a*b)),by simp[execOp,eqGuard,binOp,Op.intArith,of_int.1 (i e f h),of_int.1 (j e f h),aV],of_int.2 o⟩
def aoR{a:Int}(b:aN c E L x (.of a)):aZ c E L ⟨d,.unOp .neg t x,ty,pos,a1,g⟩ (.of (aV (0-a))):=.pure λe f h=>
 ⟨.int .i64 (aV (0-a)),by simp[execOp,Op.unary,Op.intArith,of_int.1 (b e f h),aV],of_int.2 o⟩
def aoS{e a b:Int}(j:aN c E L x (.of e))(k:aN c E L y (.of a))(l:a≠0∧aV (e.tdiv a)=b):aZ c E L ⟨d,.binOp .quo t x y t2,ty,pos,a1,g⟩ (.of b):=.pure λf h i=>
 ⟨.int .i64 b,by obtain⟨m,rfl⟩:=l;simp[execOp,eqGuard,binOp,Op.intDiv,of_int.1 (j f h i),of_int.1 (k f h i),aV,m],of_int.2 o⟩
def Y1{e a b:Int}(j:aN c E L x (.of e))(k:aN c E L y (.of a))(l:a≠0∧e.tmod a=b):aZ c E L ⟨d,.binOp .rem t x y t2,ty,pos,a1,g⟩ (.of b):=.pure λf h i=>
 ⟨.int .i64 b,by obtain⟨m,rfl⟩:=l;simp[execOp,eqGuard,binOp,Op.intDiv,of_int.1 (j f h i),of_int.1 (k f h i),m],of_int.2 o⟩
def kj{a b:Int}(i:aN c E L x (.of a))(j:aN c E L y (.of b)):aZ c E L ⟨d,.binOp .lss t x y t2,ty,pos,a1,g⟩ (.of (bd (a<b))):=.pure λe f h=>
 ⟨.bool (bd (a<b)),by simp only[execOp,eqGuard,binOp,of_int.1 (i e f h),of_int.1 (j e f h)];rfl,of_bool.2 o⟩
def aoT{a b:Int}(i:aN c E L x (.of a))(j:aN c E L y (.of b)):aZ c E L ⟨d,.binOp .leq t x y t2,ty,pos,a1,g⟩ (.of (bd (a<=b))):=.pure λe f h=>
 ⟨.bool (bd (a<=b)),by simp only[execOp,eqGuard,binOp,of_int.1 (i e f h),of_int.1 (j e f h)];rfl,of_bool.2 o⟩
def oU{a b:Int}(i:aN c E L x (.of a))(j:aN c E L y (.of b)):aZ c E L ⟨d,.binOp .gtr t x y t2,ty,pos,a1,g⟩ (.of (bd (a>b))):=.pure λe f h=>
 ⟨.bool (bd (a>b)),by simp only[execOp,eqGuard,binOp,of_int.1 (i e f h),of_int.1 (j e f h)];rfl,of_bool.2 o⟩
def G8{a b:Int}(i:aN c E L x (.of a))(j:aN c E L y (.of b)):aZ c E L ⟨d,.binOp .geq t x y t2,ty,pos,a1,g⟩ (.of (bd (a>=b))):=.pure λe f h=>
 ⟨.bool (bd (a>=b)),by simp only[execOp,eqGuard,binOp,of_int.1 (i e f h),of_int.1 (j e f h)];rfl,of_bool.2 o⟩
def ir{a b:Int}(i:aN c E L x (.of a))(j:aN c E L y (.of b)):aZ c E L ⟨d,.binOp .eql t x y t2,ty,pos,a1,g⟩ (.of (a==b)):=.pure λe f h=>
 ⟨.bool (a==b),by simp only[execOp,eqGuard,binOp,of_int.1 (i e f h),of_int.1 (j e f h)];rfl,of_bool.2 o⟩
def Av{a b:Int}(i:aN c E L x (.of a))(j:aN c E L y (.of b)):aZ c E L ⟨d,.binOp .neq t x y t2,ty,pos,a1,g⟩ (.of (a !=b)):=.pure λe f h=>
 ⟨.bool (a !=b),by simp only[execOp,eqGuard,binOp,of_int.1 (i e f h),of_int.1 (j e f h)];rfl,of_bool.2 o⟩
def ajR{a:Int}{b:cE 64}(i:aN c E L x (.of a))(j:aN c E L y (.of b)):aZ c E L ⟨d,.binOp .shr t x y t2,ty,pos,a1,g⟩ (.of (Dv a b.toNat)):=.pure λe f h=>
 ⟨.int .i64 (Dv a b.toNat),by
   simp only[execOp,eqGuard,binOp,of_int.1 (i e f h),ga.1 (j e f h)];rfl,of_int.2 o⟩
def Ra{a b:aI}(k:c.P.underlying t=V .bool)(i:aN c E L x (.of a))(j:aN c E L y (.of b)):aZ c E L ⟨d,.binOp .eql t x y t2,ty,pos,a1,g⟩ (.of (a==b)):=.pure λe f h=>
 ⟨.bool (a==b),by
   simp only[execOp,eqGuard,binOp,of_bool.1 (i e f h),of_bool.1 (j e f h),Op.equal,Op.maxDepth];simp_all[run_equalIn_bool'],of_bool.2 o⟩
def Zl{a b:aI}(k:c.P.underlying t=V .bool)(i:aN c E L x (.of a))(j:aN c E L y (.of b)):aZ c E L ⟨d,.binOp .neq t x y t2,ty,pos,a1,g⟩ (.of (a !=b)):=.pure λe f h=>
 ⟨.bool (a !=b),by
   simp only[execOp,eqGuard,binOp,of_bool.1 (i e f h),of_bool.1 (j e f h),Op.equal,Op.maxDepth];simp_all[run_equalIn_bool',bne],of_bool.2 o⟩
def Zh{a b:Int}{i:bE bH}(j:aN c E L x (.of a))(k:aN c E L y (.of b)):aZ c E L ⟨d,.call ⟨.builtin .min,#[x,y],i⟩,ty,pos,a1,g⟩ (.of (min a b)):=.pure λe f h=>
 ⟨.int .i64 (min a b),by
   simp[execOp,resolve,invoke,builtin,d1,d2,of_int.1 (j e f h),of_int.1 (k e f h)];split <;> omega,of_int.2 o⟩
def LO{a b:Int}{i:bE bH}(j:aN c E L x (.of a))(k:aN c E L y (.of b)):aZ c E L ⟨d,.call ⟨.builtin .max,#[x,y],i⟩,ty,pos,a1,g⟩ (.of (max a b)):=.pure λe f h=>
 ⟨.int .i64 (max a b),by
   simp[execOp,resolve,invoke,builtin,Builtin.max_,Builtin.max2,of_int.1 (j e f h),of_int.1 (k e f h)];split <;> omega,of_int.2 o⟩
def alD(a b:cE 8):IntKind.u8.wrap ((a.toNat:Int)-(b.toNat:Int))=((a-b).toNat:Int):=by rw[wrap_u8,c8];omega
def Ak{a b:cE 8}(i:aN c E L x (.of a))(j:aN c E L y (.of b)):aZ c E L ⟨d,.binOp .sub t x y t2,ty,pos,a1,g⟩ (.of (a-b)):=.pure λe f h=>
 ⟨.int .u8 (a-b).toNat,by simp[execOp,eqGuard,binOp,Op.intArith,n2.1 (i e f h),n2.1 (j e f h),alD],n2.2 o⟩
def wb{a b:cE 8}(i:aN c E L x (.of a))(j:aN c E L y (.of b)):aZ c E L ⟨d,.binOp .leq t x y t2,ty,pos,a1,g⟩ (.of (bd (a<=b))):=.pure λe f h=>
 ⟨.bool (bd (a<=b)),by
   simp only[execOp,eqGuard,binOp,n2.1 (i e f h),n2.1 (j e f h)];have k:bd ((a.toNat:Int)<=(b.toNat:Int))=bd (a<=b):=by simp[zo,BO]
   rw[<-k];rfl,of_bool.2 o⟩
def wa{a b:cE 8}(i:aN c E L x (.of a))(j:aN c E L y (.of b)):aZ c E L ⟨d,.binOp .geq t x y t2,ty,pos,a1,g⟩ (.of (bd (a>=b))):=.pure λe f h=>
 ⟨.bool (bd (a>=b)),by
   simp only[execOp,eqGuard,binOp,n2.1 (i e f h),n2.1 (j e f h)];have k:bd ((a.toNat:Int)>=(b.toNat:Int))=bd (a>=b):=by simp[zo,BO]
   rw[<-k];rfl,of_bool.2 o⟩
def Lj{a b:cE 8}(j:aN c E L x (.of a))(k:aN c E L y (.of b)):aZ c E L ⟨d,.binOp .eql t x y t2,ty,pos,a1,g⟩ (.of (a==b)):=.pure λf h i=>
 ⟨.bool (a==b),by
   simp only[execOp,eqGuard,binOp,n2.1 (j f h i),n2.1 (k f h i)];have e:((a.toNat:Int)==(b.toNat:Int))=(a==b):=by
    rw[kW];simp[bne];exact⟨λe=>xc (by omega),λe=>by rw[e]⟩
   rw[<-e];rfl,of_bool.2 o⟩
def KU{a:cE 8}{b dst:bH}{e:TypeDesc}(aR:c.P.underlying b=V e)(aq:c.P.underlying dst=V (.int .u64))(f:aN c E L x (.of a)):aZ c E L ⟨d,.convert b dst x,ty,pos,a1,g⟩ (.of (a.setWidth 64)):=.pure λh i j=>
 ⟨.int .u64 (a.setWidth 64).toNat,by
   have k:IntKind.u64.wrap (a.toNat:Int)=((a.setWidth 64).toNat:Int):=by simp_all[wrap_u64,BitVec.toNat_setWidth]
   simp only[execOp,convert,eH,dZ aR,dZ aq,n2.1 (f h i j),Conv.intToInt,a',k];rfl,ga.2 o⟩
def aoU{a:cE 8}{b dst:bH}{e:TypeDesc}(aR:c.P.underlying b=V e)(aq:c.P.underlying dst=V (.int .i64))(f:aN c E L x (.of a)):aZ c E L ⟨d,.convert b dst x,ty,pos,a1,g⟩ (.of (a.toNat:Int)):=.pure λh i j=>
 ⟨.int .i64 a.toNat,by
   have k:IntKind.i64.wrap (a.toNat:Int)=(a.toNat:Int):=eU (by omega) (by omega);simp only[execOp,convert,eH,dZ aR,dZ aq,n2.1 (f h i j),Conv.intToInt,a',k];rfl,of_int.2 o⟩
def ofInt_u64(a:cE 64):b5 64 (a.toNat:Int)=a:=by simp
def akq(a b:cE 64):IntKind.u64.wrap ((a.toNat:Int)+(b.toNat:Int))=((a+b).toNat:Int):=by rfl
def PO{a b:cE 64}(i:aN c E L x (.of a))(j:aN c E L y (.of b)):aZ c E L ⟨d,.binOp .add t x y t2,ty,pos,a1,g⟩ (.of (a+b)):=.pure λe f h=>
 ⟨.int .u64 (a+b).toNat,by simp[execOp,eqGuard,binOp,Op.intArith,ga.1 (i e f h),ga.1 (j e f h),akq],ga.2 o⟩
def akr(a b:cE 64):IntKind.u64.wrap ((a.toNat:Int)-(b.toNat:Int))=((a-b).toNat:Int):=by rw[wrap_u64,c8];omega
def aks{a b:cE 64}(i:aN c E L x (.of a))(j:aN c E L y (.of b)):aZ c E L ⟨d,.binOp .sub t x y t2,ty,pos,a1,g⟩ (.of (a-b)):=.pure λe f h=>
 ⟨.int .u64 (a-b).toNat,by simp[execOp,eqGuard,binOp,Op.intArith,ga.1 (i e f h),ga.1 (j e f h),akr],ga.2 o⟩
def akt(a b:cE 64):IntKind.u64.wrap ((a.toNat:Int)*(b.toNat:Int))=((a*b).toNat:Int):=by rfl
def GI{a b:cE 64}(i:aN c E L x (.of a))(j:aN c E L y (.of b)):aZ c E L ⟨d,.binOp .mul t x y t2,ty,pos,a1,g⟩ (.of (a*b)):=.pure λe f h=>
 ⟨.int .u64 (a*b).toNat,by simp[execOp,eqGuard,binOp,Op.intArith,ga.1 (i e f h),ga.1 (j e f h),akt],ga.2 o⟩
def Xw{a b:cE 64}(i:aN c E L x (.of a))(j:aN c E L y (.of b)):aZ c E L ⟨d,.binOp .and t x y t2,ty,pos,a1,g⟩ (.of (a&&&b)):=.pure λe f h=>
 ⟨.int .u64 (a&&&b).toNat,by
   simp only[execOp,eqGuard,binOp,ga.1 (i e f h),ga.1 (j e f h)];have k:IntKind.u64.wrap ((a&&&b).toNat:Int)=((a&&&b).toNat:Int):=by rw[wrap_u64];omega
   rw[<-k];conv=>rhs;rw[<-ofInt_u64 a,<-ofInt_u64 b]
   rfl,ga.2 o⟩
def Qq{a b:cE 64}(i:aN c E L x (.of a))(j:aN c E L y (.of b)):aZ c E L ⟨d,.binOp .or t x y t2,ty,pos,a1,g⟩ (.of (a|||b)):=.pure λe f h=>
 ⟨.int .u64 (a|||b).toNat,by
   simp only[execOp,eqGuard,binOp,ga.1 (i e f h),ga.1 (j e f h)];have k:IntKind.u64.wrap ((a|||b).toNat:Int)=((a|||b).toNat:Int):=by rw[wrap_u64];omega
   rw[<-k];conv=>rhs;rw[<-ofInt_u64 a,<-ofInt_u64 b]
   rfl,ga.2 o⟩
def aku{a b:cE 64}(i:aN c E L x (.of a))(j:aN c E L y (.of b)):aZ c E L ⟨d,.binOp .xor t x y t2,ty,pos,a1,g⟩ (.of (a ^^^ b)):=.pure λe f h=>
 ⟨.int .u64 (a ^^^ b).toNat,by
   simp only[execOp,eqGuard,binOp,ga.1 (i e f h),ga.1 (j e f h)];have k:IntKind.u64.wrap ((a ^^^ b).toNat:Int)=((a ^^^ b).toNat:Int):=by rw[wrap_u64];omega
   rw[<-k];conv=>rhs;rw[<-ofInt_u64 a,<-ofInt_u64 b]
   rfl,ga.2 o⟩
def ajV{a:cE 64}(b:aN c E L x (.of a)):aZ c E L ⟨d,.unOp .xor t x,ty,pos,a1,g⟩ (.of (~~~a)):=.pure λe f h=>
 ⟨.int .u64 (~~~a).toNat,by
   have i:IntKind.u64.wrap ((b5 64 18446744073709551615 ^^^ b5 64 (a.toNat:Int)).toNat:Int)=((~~~a).toNat:Int):=by
    rw[ofInt_u64 a,show b5 64 18446744073709551615=BitVec.allOnes 64 from rfl,BitVec.allOnes_xor,wrap_u64];omega
   rw[<-i];simp only[execOp,Op.unary,ga.1 (b e f h)];rfl,ga.2 o⟩
def akv(b:cE 64)(a:Nat):IntKind.u64.wrap ((b.toNat:Int)*2^min a 64)=((b <<< a).toNat:Int):=by
 rw[wrap_u64,SX,Nat.shiftLeft_eq];rcases Fv a 64 with c|c
 ·grind
 rw[NF c];have e:(b.toNat*2^a) % 2^64=0:=by
  rw[show a=64+(a-64) by omega,Nat.pow_add];grind
 omega
def akw(a:cE 64)(b:Nat):(a.toNat:Int).fdiv (2^min b 64)=((a >>> b).toNat:Int):=by
 rw[SU,Nat.shiftRight_eq_div_pow];have e:∀d:Nat,(a.toNat:Int).fdiv (2^d)=((a.toNat/2^d:Nat):Int):=by
  grind
 rw[e];rcases Fv b 64 with c|c
 ·grind
 rw[NF c];have f:a.toNat/2^64=0:=NJ a.isLt;have g:a.toNat/2^b=0:=NJ (qQ a.isLt (Nat.pow_le_pow_right (by omega) c));omega
def PN{a:cE 64}{b:cE 64}(i:aN c E L x (.of a))(j:aN c E L y (.of b)):aZ c E L ⟨d,.binOp .shl t x y t2,ty,pos,a1,g⟩ (.of (a <<< b.toNat)):=.pure λf e h=>
 ⟨.int .u64 (a <<< b.toNat).toNat,by
   simp only[execOp,eqGuard,binOp,ga.1 (i f e h),ga.1 (j f e h)];have k:=ako c.P e .u64 .u64 a.toNat b.toNat (by omega);simp_all[ce,IntKind.bits,akv],ga.2 o⟩
def Xy{a:cE 64}{b:cE 64}(i:aN c E L x (.of a))(j:aN c E L y (.of b)):aZ c E L ⟨d,.binOp .shr t x y t2,ty,pos,a1,g⟩ (.of (a >>> b.toNat)):=.pure λf e h=>
 ⟨.int .u64 (a >>> b.toNat).toNat,by
   simp only[execOp,eqGuard,binOp,ga.1 (i f e h),ga.1 (j f e h)];have k:=akp c.P e .u64 .u64 a.toNat b.toNat (by omega);simp_all[ce,IntKind.bits,akw],ga.2 o⟩
def akx{a b:cE 64}(i:aN c E L x (.of a))(j:aN c E L y (.of b)):aZ c E L ⟨d,.binOp .lss t x y t2,ty,pos,a1,g⟩ (.of (bd (a<b))):=.pure λe f h=>
 ⟨.bool (bd (a<b)),by
   simp only[execOp,eqGuard,binOp,ga.1 (i e f h),ga.1 (j e f h)];have k:bd ((a.toNat:Int)<(b.toNat:Int))=bd (a<b):=by simp[zo,BO]
   rw[<-k];rfl,of_bool.2 o⟩
def aky{a b:cE 64}(i:aN c E L x (.of a))(j:aN c E L y (.of b)):aZ c E L ⟨d,.binOp .geq t x y t2,ty,pos,a1,g⟩ (.of (bd (a>=b))):=.pure λe f h=>
 ⟨.bool (bd (a>=b)),by
   simp only[execOp,eqGuard,binOp,ga.1 (i e f h),ga.1 (j e f h)];have k:bd ((a.toNat:Int)>=(b.toNat:Int))=bd (a>=b):=by simp[zo,BO]
   rw[<-k];rfl,of_bool.2 o⟩
def Xz{a b:cE 64}(j:aN c E L x (.of a))(k:aN c E L y (.of b)):aZ c E L ⟨d,.binOp .eql t x y t2,ty,pos,a1,g⟩ (.of (a==b)):=.pure λf h i=>
 ⟨.bool (a==b),by
   simp only[execOp,eqGuard,binOp,ga.1 (j f h i),ga.1 (k f h i)];have e:((a.toNat:Int)==(b.toNat:Int))=(a==b):=by
    rw[kW];simp[bne];exact⟨λe=>xc (by omega),λe=>by rw[e]⟩
   rw[<-e];rfl,of_bool.2 o⟩
def Xt{a b:cE 64}(k:aN c E L x (.of a))(l:aN c E L y (.of b)):aZ c E L ⟨d,.binOp .neq t x y t2,ty,pos,a1,g⟩ (.of (a !=b)):=.pure λh i j=>
 ⟨.bool (a !=b),by
   simp only[execOp,eqGuard,binOp,ga.1 (k h i j),ga.1 (l h i j)];have f:((a.toNat:Int) !=(b.toNat:Int))=(a !=b):=by
    rw[kW];simp[bne];exact⟨λf=>λe=>f (by rw[e]),λf=>by intro e;exact f (xc (by omega))⟩
   rw[<-f];rfl,of_bool.2 o⟩
def CV{a:Int}{b dst:bH}{e:TypeDesc}(aR:c.P.underlying b=V e)(aq:c.P.underlying dst=V (.int .u64))(f:aN c E L x (.of a)):aZ c E L ⟨d,.convert b dst x,ty,pos,a1,g⟩ (.of (b5 64 a)):=.pure λh i j=>
 ⟨.int .u64 (b5 64 a).toNat,by
   have k:IntKind.u64.wrap a=((b5 64 a).toNat:Int):=by grind[wrap_u64,BitVec.toNat_ofInt]
   simp[execOp,convert,dZ aR,dZ aq,of_int.1 (f h i j),Conv.intToInt,k],ga.2 o⟩
def ajL{a:cE 64}{b dst:bH}{e:TypeDesc}(aR:c.P.underlying b=V e)(aq:c.P.underlying dst=V (.int .u8))(f:aN c E L x (.of a)):aZ c E L ⟨d,.convert b dst x,ty,pos,a1,g⟩ (.of (a.setWidth 8)):=.pure λh i j=>
 ⟨.int .u8 (a.setWidth 8).toNat,by
   have k:IntKind.u8.wrap (a.toNat:Int)=((a.setWidth 8).toNat:Int):=by rfl
   simp only[execOp,convert,eH,dZ aR,dZ aq,ga.1 (f h i j),Conv.intToInt,a',k];rfl,n2.2 o⟩
def alE{a:cE 64}{b dst:bH}{e:TypeDesc}(aR:c.P.underlying b=V e)(aq:c.P.underlying dst=V (.int .i64))(f:aN c E L x (.of a)):aZ c E L ⟨d,.convert b dst x,ty,pos,a1,g⟩ (.of (aV a.toNat)):=.pure λh i j=>
 ⟨.int .i64 (aV a.toNat),by
   simp only[execOp,convert,eH,dZ aR,dZ aq,ga.1 (f h i j),Conv.intToInt,a'];rfl,of_int.2 o⟩
end
def Aq(a:bE bt):ResultVar->Sem bt
 | .tmp t=>pure (a.getD t undef)
 | .cell b t=>do loadVar t (<-asAddr (a.getD b undef))
def zT(a:Func)(b:bE bt):results a b=(do
 let gY <-a.results.mapM (Aq b)
 pure (if c:gY.size=1 then gY[0]else .tuple gY)):=by
 rfl
section
variable{c:cX}{E:R (Nat×J)}{L:R aK}{ops:bE bA}{Q:cK->cg->bj->Prop}
def pX(c:cX)(E:R (Nat×J))(L:R aK)(e:ResultVar)(f:J):Prop:=
 ∀b a,b0 c E L b a->∃d,(Aq b.tmps e).run c.P a=.ok d a∧f.holds c.cv a d
def hd{t:Nat}{a:J}(b:look E t=V a):pX c E L (.tmp t) a:=λh i d=>by
 obtain⟨e,f,g⟩:=d.env t a b;exact⟨e,by simp[Aq,f],Vj g⟩
def aaX{t:Nat}{ty:bH}{i b:Nat}{a:aB}[ah a]{x:a}(g:bR c.P ty a)(h:look E t=V (.eq (.pointer (V ⟨b,0,Y⟩))))(j:L[i]? =V ⟨V b,.var x⟩):pX c E L (.cell t ty) (.of x):=λp q d=>by
 obtain⟨e,r,k⟩:=d.env t _ h;subst k;obtain⟨B,l,f,C,rfl,m⟩:=d.own _ (fM j);have n:U f.toList=ah.size a:=ah.len m;have D:f.size=ah.size a:=by omega
 obtain⟨e,F,o⟩:=zL (A:=aP L++c.cv) (off:=0) g l (by omega) (by rw[xp,<-n,mJ];omega);exact⟨e,by simp_all[Aq,asAddr],Vj o⟩
def pN(c:cX)(d:J):Ending->bj->Prop:=λe a=> ∃b,e=.returned b∧Fr c.X c.pV a∧d.holds c.cv a b
def af.Ds{b:Func}{d:ResultVar}{e:J}(aF:b.results= #[d])(h:pX c E L d e)(g:c.ds=[]:=by rfl):af c (bodyPost c.P b (pN c e)) .ret E L:=λi j a=>by
 obtain⟨f,l,k⟩:=h i j a;exact⟨a.Ad g,f,by simp_all[zT],f,rfl,a.ey,k⟩
def af.RG{b:Func}{d e:ResultVar}{f g:J}(aF:b.results= #[d,e])(h:pX c E L d f)(k:pX c E L e g)(l:c.ds=[]:=by rfl):af c (bodyPost c.P b (pN c (.bO [f,g]))) .ret E L:=λi j a=>by
 obtain⟨m,q,n⟩:=h i j a;obtain⟨o,r,p⟩:=k i j a;exact⟨a.Ad l,.tuple #[m,o],by simp_all[zT],_,rfl,a.ey,_,rfl,.cons n (.cons p .nil)⟩
def af.pM{e:Func}{f g i:ResultVar}{j k l:J}(aF:e.results= #[f,g,i])(h:pX c E L f j)(m:pX c E L g k)(n:pX c E L i l)(o:c.ds=[]:=by rfl):af c (bodyPost c.P e (pN c (.bO [j,k,l]))) .ret E L:=λb d a=>by
 obtain⟨p,D,q⟩:=h b d a;obtain⟨r,F,A⟩:=m b d a;obtain⟨B,G,C⟩:=n b d a;exact⟨a.Ad o,.tuple #[p,r,B],by simp_all[zT],_,rfl,a.ey,_,rfl,.cons q (.cons A (.cons C .nil))⟩
def cf.of{P:cV}{d:FuncId}{a:Func}{e:ec}{b:Nat}{c:R J}{f:J}(i:P.funcs[d]? =V a)(j:a.body=V e)(aQ:a.ntmps=b)(k:cd (U c) b=Z)
 (l:∀g h,ar ⟨P,b,g,[],h,Y,[]⟩ (bodyPost P a (pN ⟨P,b,g,[],h,Y,[]⟩ f)) e (params 0 c) []):cf P d c f:=cf.enter i j aQ k l
def cf.ak{P:cV}{d:FuncId}{a:Func}{e:ec}{b:Nat}{c:R J}{f:J}
 (h:∀g i,ar ⟨P,b,g,[],i,Y,[]⟩ (bodyPost P a (pN ⟨P,b,g,[],i,Y,[]⟩ f)) e (params 0 c) [])
 (j:P.funcs[d]? =V a:=by rfl) (ax:a.body=V e:=by rfl) (aQ:a.ntmps=b:=by conv=>lhs;whnf) (k:cd (U c) b=Z:=by rfl):cf P d c f:=.of j ax aQ k h
end
structure j8(P:Program)(t:TypeId)(au:Type)[ah au][DecidableEq au](k:Nat):Prop where
 run:∀d,k<=d->∀A W u v (x y:au),(J.of x).holds A W u->(J.of y).holds A W v->(Op.equalIn d t u v).run P W=.ok (decide (x=y)) W
def XK{P t K}(h:P.underlying t=V (.int K)):j8 P t Int 1 where
 run d aq A W u v x y k5 la:=by
  obtain⟨d,rfl⟩:∃e,d=e+1:=⟨d-1,by omega⟩;rw[of_int.1 k5,of_int.1 la,run_equalIn_int W d t .i64 K x y h];congr 1
def akz{P t K}(h:P.underlying t=V (.int K)):j8 P t (cE 64) 1 where
 run d aq A W u v x y k5 la:=by
  obtain⟨d,rfl⟩:∃e,d=e+1:=⟨d-1,by omega⟩;rw[ga.1 k5,ga.1 la,run_equalIn_int W d t .u64 K _ _ h];congr 1;rw[kW];simp only[l1,ik];exact⟨λh=>xc (by omega),λh=>by rw[h]⟩
def aiO{P t}(h:P.underlying t=V .bool):j8 P t aI 1 where
 run d aq A W u v x y k5 la:=by
  obtain⟨d,rfl⟩:∃e,d=e+1:=⟨d-1,by omega⟩;rw[of_bool.1 k5,of_bool.1 la,run_equalIn_bool' W d t x y h];congr 1
def OJ{P:cV}{W:bj}(b:Nat->Sem aI)(a:Nat->aI):∀(c:R Nat),(∀i∈c,(b i).run P W=.ok (a i) W)->
 (forIn (m:=Sem) c ((Y,()):aw aI×bG) (λi _=>do
  let __do_lift <-b i
  if (!__do_lift)=Z then pure (ForInStep.done (V bi,()))else
   pure (ForInStep.yield (Y,())))).run P W=.ok (if c.all a then(Y,())else(V bi,())) W
 |[],_=>by simp
 | i::e,d=>by
   have h:=d i (by simp);have j:=OJ (P:=P) (W:=W) b a e (λf g=>d f (by simp[g]));cases k:a i with
   |false=>simp_all
   | true=>
     simp_all
def PX{P t e n k}{au:aB}[ah au][Inhabited au][DecidableEq au](h:P.underlying t=V (.array n e))(DX:bR P e au)(he:j8 P e au k):j8 P t (ck au n) (k+1)where
 run d aq A W u v x y k5 la:=by
  obtain⟨d,rfl⟩:∃e,d=e+1:=⟨d-1,by omega⟩;obtain⟨h1,fx⟩:=k5;obtain⟨iX,nJ⟩:=la;obtain⟨xs,rfl⟩:∃cs,u=.agg cs:=by simp_all[shaped,ah.agg]
  obtain⟨ek,rfl⟩:∃cs,v=.agg cs:=by simp_all[shaped,ah.agg]
  simp only[Value.cells]at fx nJ;have asX:U xs.toList=n*ah.size au:=ah.len fx;have asY:U ek.toList=n*ah.size au:=ah.len nJ;have aoV:∀i∈d6 0 n,((do
   let a <-part e xs (i*ah.size au)
   let b <-part e ek (i*ah.size au)
   Op.equalIn d e a b):Sem aI).run P W=.ok (bd (cu x i=cu y i)) W:=by
   intro i pg
   have R7:i<n:=by simp_all
   have asW:i*ah.size au+ah.size au<=n*ah.size au:=(aG.idx (au:=au) n i R7).hD
   obtain⟨a,sU,arZ⟩:=uE (A:=A) (P:=P) (W:=W) (cs:=xs) (off:=i*ah.size au) DX (by simp_all) ((aG.idx (au:=au) n i R7).jK fx)
   obtain⟨b,ax,ar0⟩:=uE (A:=A) (P:=P) (W:=W) (cs:=ek) (off:=i*ah.size au) DX (by simp_all) ((aG.idx (au:=au) n i R7).jK nJ)
   simp only[eH,sU,ax,a']
   exact he.run d (by omega) A W a b _ _ arZ ar0
  have pW:=OJ (P:=P) (W:=W) _ _ _ aoV;have aqO:(d6 0 n).all (λi=>decide (cu x i=cu y i))=bd (x=y):=by
   rw[kW,qd,ik];constructor
   ·intro h;apply Vector.ext;simp_all[cu]
   simp_all
  rw[aqO]at pW;simp only[Op.equalIn,eH,dZ h,a',DX.sizeOf,MW];simp only[Std.Legacy.Range.size,d3,Nat.add_one_sub_one,Nat.div_one]at pW⊢;simp only[bind_assoc]at pW;rw[pW];by_cases ar1:x=y
  ·simp[ar1]
  simp_all
section
variable{c:cX}{E:R (Nat×J)}{L:R aK}{ops:bE bA}{Q:cK->cg->bj->Prop}
variable{d:aw Tmp}{ty:bH}{pos:String}{a1:bE Edge}{g:aw (Nat×aI)}{x y:cx}{t t2:bH}
def Q9{a:aB}[ah a][DecidableEq a]{j:Nat}{b e:a}(p:j8 c.P t a j)(q:cd j 10000=Z)(F:c.P.eqGuardType c.P.depth t=bi)(k:ah.agg a=Z)(r:aN c E L x (.of b))(A:aN c E L y (.of e)):
 aZ c E L ⟨d,.binOp .eql t x y t2,ty,pos,a1,g⟩ (.of (bd (b=e))):=.pure λf h l=>by
 have m:=r f h l
 have n:=A f h l
 obtain⟨G,B⟩:∃i,f.eval x=.agg i:=by simpa[shaped,k]using m.1
 obtain⟨H,C⟩:∃i,f.eval y=.agg i:=by simpa[shaped,k]using n.1
 have D:=p.run 10000 (pq q) _ h _ _ b e m n
 rw[B,C]at D
 refine⟨.bool (bd (b=e)),?_,of_bool.2 o⟩
 simp_all[execOp,eH,NP,a',run_eql_struct,bm]
def aoW{a:aB}[ah a][DecidableEq a]{j:Nat}{b e:a}(p:j8 c.P t a j)(q:cd j 10000=Z)(F:c.P.eqGuardType c.P.depth t=bi)(k:ah.agg a=Z)(r:aN c E L x (.of b))(A:aN c E L y (.of e)):
 aZ c E L ⟨d,.binOp .neq t x y t2,ty,pos,a1,g⟩ (.of (!Decidable.decide (b=e))):=.pure λf h l=>by
 have m:=r f h l
 have n:=A f h l
 obtain⟨G,B⟩:∃i,f.eval x=.agg i:=by simpa[shaped,k]using m.1
 obtain⟨H,C⟩:∃i,f.eval y=.agg i:=by simpa[shaped,k]using n.1
 have D:=p.run 10000 (pq q) _ h _ _ b e m n
 rw[B,C]at D
 refine⟨.bool (!Decidable.decide (b=e)),?_,of_bool.2 o⟩
 simp_all[execOp,eH,NP,a',run_neq_struct,bm]
end
def xS{P:cV}{a:bj}{d:Nat}{b c:bE bt}:(Op.eqFields d b c []).run P a=.ok Z a:=rfl
def mc{P:cV}{f:R Nat}{b:bj}{d:Nat}{g h:bE bt}{i j:aB}[ah i][ah j][DecidableEq j](a:aG i j){k l:i}{c:Field}{m:R Field}{n:Nat}{o:aI}(p:bR P c.type j)(B:c.offset=a.off)(aQ:(c.name== "_")=bi)
 (C:j8 P c.type j n) (aq:n<=d) (q:ah.rep f b g.toList k) (r:ah.rep f b h.toList l) (aF:(Op.eqFields d g h m).run P b=.ok o b):
 (Op.eqFields d g h (c::m)).run P b=.ok (bd (a.get k=a.get l)&&o) b:=by
 have K:U g.toList=ah.size i:=ah.len q
 have L:U h.toList=ah.size i:=ah.len r
 have M:=a.hD
 obtain⟨D,E,F⟩:=uE (A:=f) (P:=P) (W:=b) (cs:=g) (off:=a.off) p (by simp_all) (a.jK q)
 obtain⟨G,H,I⟩:=uE (A:=f) (P:=P) (W:=b) (cs:=h) (off:=a.off) p (by simp_all) (a.jK r)
 have J:c.name≠ "_" :=fun e=>by simp_all
 simp only[Op.eqFields,bT J,eH,B,E,H,a',C.run d aq f b D G _ _ F I]
 by_cases N:a.get k=a.get l
 ·simp_all
 simp_all
def xI{P:cV}{t:bH}{b7:aB}[ah b7][DecidableEq b7]{k:Nat}{iO:bE Field}(sU:ah.agg b7=Z)(hu:P.underlying t=V (.struct iO))(aC:P.stoodInHeld t=bi)
 (h:∀d,k<=d->∀A W (xs ek:bE bt) (x y:b7),ah.rep A W xs.toList x->ah.rep A W ek.toList y->(Op.eqFields d xs ek iO.toList).run P W=.ok (bd (x=y)) W):j8 P t b7 (k+1)where
 run d aq A W u v x y k5 la:=by
  obtain⟨d,rfl⟩:∃e,d=e+1:=⟨d-1,by omega⟩;obtain⟨xs,rfl⟩:∃cs,u=.agg cs:=by simpa[shaped,sU]using k5.1
  obtain⟨ek,rfl⟩:∃cs,v=.agg cs:=by simpa[shaped,sU]using la.1
  have pW:P.fieldsOf t=iO:=by grind[Program.fieldsOf]
  rw[run_equalIn_struct W d t xs ek (by simp_all) aC,pW];exact h d (by omega) A W xs ek x y (by simpa[Value.cells]using k5.2) (by simpa[Value.cells]using la.2)
def UF{P:cV}{c:bj}(d:bE Field)(e:d.all (λa=>(P.info? a.type).isSome)=Z):
 (d.mapM (m:=Sem) λa=>do pure (a.offset,<-Go.sizeOf a.type)).run P c=.ok (d.map λa=>(a.offset,P.cellsOf a.type)) c:=by
 obtain⟨b⟩:=d
 have g:∀(b:R Field),b.all (λa=>(P.info? a.type).isSome)=Z->(b.mapM (m:=Sem) λa=>do pure (a.offset,<-Go.sizeOf a.type)).run P c=.ok (b.map λa=>(a.offset,P.cellsOf a.type)) c:=by
  intro b;induction b with
  |nil=>simp_all
  | cons a h j=>
    intro e
    simp only[List.all_cons,hx]at e
    obtain⟨i,f⟩:=Bd.1 e.1
    rw[List.mapM_cons]
    simp only[eH,Go.sizeOf,typeInfo,run_program,a',f,bm]
    simp_all[eH,Go.sizeOf,typeInfo,Program.cellsOf]
 simp_all
def agv(e:R bt)(d:Nat):∀(a:Nat) (b:bE bt),d+a+U e<=b.size->
 (e.zipIdx a).foldl (λb (c,a)=>b.setIfInBounds (d+a) c) b=(b.toList.take (d+a)++e++b.toList.drop (d+a+U e)).toArray:=by
 induction e with
 |nil=>simp_all
 | cons f g h=>
   intro a b i
   simp only[cM]at i
   rw[List.zipIdx_cons,dh,h (a+1) _ (by grind)]
   simp only[Array.toList_setIfInBounds]
   have:=list_seg_step b.toList (d+a) f g (by omega)
   rw[show d+(a+1)=d+a+1 by omega]
   simp_all
def KE{d:Nat->aw (Nat×Nat)}{a:bE bt}{i b rL:Nat}{c:bt}{rest:R (Nat×bt)}(e:d i=V (b,rL))(f:c.cells.size=rL)(g:b+rL<=a.size):
 ct d a ((i,c)::rest)=ct d (h3 a.toList b c.cells.toList).toArray rest:=by
 simp only[ct,e]
 rw[bU (by simp_all)]
 have:=agv c.cells.toList b 0 a (by simp_all)
 simp only[bZ]at this
 congr 1
 rw[<-Array.foldl_toList]
 simp_all[h3]
section
variable{c:cX}{E:R (Nat×J)}{L:R aK}{ops:bE bA}{Q:cK->cg->bj->Prop}
variable{d:aw Tmp}{ty:bH}{pos:String}{a1:bE Edge}{g:aw (Nat×aI)}{x y:cx}{t t2:bH}
inductive tC(c:cX)(E:List (Nat×J))(L:List aK)(place:Nat->Option (Nat×Nat)){b7:Type}[ah b7]:b7->List (Nat×Operand)->b7->Prop
 |nil {b}:tC c E L place b [] b
 |cons {b pY et:b7} {aY:Type} [ah aY] {v:aY} {i:Nat} {x:Operand} {r:List (Nat×Operand)} (l:aG b7 aY):place i=V (l.off,ah.size aY)->aN c E L x (.of v)->l.set b v=pY->tC c E L place pY r et->tC c E L place b ((i,x)::r) et
theorem tC.run{j:Nat->aw (Nat×Nat)}{e:aB}[ah e]{f g:e}{k:R (Nat×cx)}(o:tC c E L j f k g):∀a b,b0 c E L a b->∀d:bE bt,ah.rep (aP L++c.cv) b d.toList f->
 ∃l,ct j d (k.map λ(i,x)=>(i,a.eval x))=V l∧ah.rep (aP L++c.cv) b l.toList g:=by
 induction o with
 |nil=>intro a b h d aF;exact⟨d,rfl,aF⟩
 | @cons f D g p _ F i x G m q r A _ B=>
   intro a b h d aF
   subst A
   have n:=r a b h
   have C:(a.eval x).cells.size=ah.size p:=by have:=ah.len n.2;omega
   have H:U d.toList=ah.size e:=ah.len aF
   have I:=m.hD
   rw[pv,KE q C (by simp_all)]
   refine B a b h _ ?_
   have:=m.nt aF n.2
   simp_all[h3,ah.len]
class fi (P:cV) (t:bH) (pl:outParam (bE (Nat×Nat))):Prop where
 at_:∃iO,P.underlying t=V (.struct iO)∧iO.all (λf=>(P.info? f.type).isSome)=Z∧(iO.map λf=>(f.offset,P.cellsOf f.type))=pl
def iI{e:aB}[ah e]{h b:e}{a:R (Nat×cx)}{j:bE (Nat×Nat)}(F:ah.agg e=Z)(k:fi c.P t j)(l:dn c.P t h)
 (m:tC c E L (j[·]?) h a b):aZ c E L ⟨d,.build t a.toArray,ty,pos,a1,g⟩ (.of b):=.pure λf n o=>by
 obtain⟨p,q,aR,rfl⟩:=k.at_
 obtain⟨i,r,A,B,C⟩:=l.zero
 obtain⟨D,G,H⟩:=m.run f n o r.cells (C _ _).2
 refine⟨.agg D,?_,by grind[shaped],by simp_all[Value.cells]⟩
 have I:(a.toArray.map λ(x:Nat×cx)=>(x.1,f.eval x.2)).toList=a.map λ(i,x)=>(i,f.eval x):=by simp
 simp only[execOp,c9,eH,zeroValue,typeInfo,run_program,a',A,B,bm,dZ q,UF p aR]
 simp_all
def Pu{f:aB}[ah f]{k b:f}{a:R (Nat×cx)}{l e rL:Nat}(H:ah.agg f=Z)(m:c.P.underlying t=V (.array l e))(aR:(c.P.info? e).map (·.size)=V rL)(n:dn c.P t k)
 (o:tC c E L (λi=>V (i*rL,rL)) k a b):aZ c E L ⟨d,.build t a.toArray,ty,pos,a1,g⟩ (.of b):=.pure λh p q=>by
 obtain⟨i,r,A,B,C⟩:=n.zero
 obtain⟨j,D,F⟩:∃j,c.P.info? e=V j∧j.size=rL:=by
  simp_all
 obtain⟨G,I,J⟩:=o.run h p q r.cells (C _ _).2
 refine⟨.agg G,?_,by grind[shaped],by simp_all[Value.cells]⟩
 have K:(a.toArray.map λ(x:Nat×cx)=>(x.1,h.eval x.2)).toList=a.map λ(i,x)=>(i,h.eval x):=by simp
 simp only[execOp,c9,eH,zeroValue,typeInfo,run_program,a',A,B,bm,dZ m,Go.sizeOf,D,F]
 simp_all
end
def qJ{b:aB}[ah b](f:R Nat)(g:bj)(h:bt)(a:R b):Prop:=
 (h=.slice Y 0 0∧a=[])∨
 ∃ c d i e j k,h=.slice (V ⟨c,d,Y⟩) (U a) i∧c∉f∧g.heap[c]? =V (.cells e j k)∧U a<=i∧U a<=maxLen∧d+U a*ah.size b<=e.size∧
   hP f g ((e.toList.drop d).take (U a*ah.size b)) a
def qJ.mono{d:aB}[ah d]{f b g h i}{j:R d}(e:Ext f b g h)(c:qJ f b i j):qJ g h i j:=by
 rcases c with c|⟨a,n,o,p,q,r,A,k,l,B,C,D,E⟩
 ·exact .inl c
 have m:a<b.heap.size:=(Bc.1 l).1;exact .inr ⟨a,n,o,p,q,r,A,λF=>k (e.new a F m),by rw[e.block a m k];exact l,B,C,D,E.mono e⟩
instance{au:aB}[ah au]:ah (R au)where
 size:=1
 agg:=bi
 rep A W cs xs:=∃v,cs=[v]∧qJ A W v xs
 len h:=by grind
 one h:=by
  obtain⟨v,rfl,h⟩:=h;intro u hu;rw[mF.1 hu];rcases h with⟨rfl,_⟩|⟨b,off,cap,cur,T,DT,rfl,_⟩ <;> rfl
 flat _:=rfl
 mono e h:=let⟨v,h1,fx⟩:=h; ⟨v,h1,fx.mono e⟩
def qJ.one{a:aB}[ah a]{c d b}{e:R a}(f:qJ c d b e):b.oneCell'=Z:=by
 rcases f with⟨rfl,_⟩|⟨g,h,i,j,k,l,rfl,_⟩ <;> rfl
def oO{b:aB}[ah b]{A W v}{xs:R b}:(J.of xs).holds A W v↔qJ A W v xs:=by
 constructor
 ·rintro ⟨c,d,e,f⟩;have:v=d:=lJ c e;simp_all
 intro a;exact⟨a.one,v,by rw[cells_one a.one],a⟩
def al{a:aB}[Inhabited a](b:R a)(c:Nat):a:=b[c]?.getD b1
theorem dI{c:aB}[Inhabited c](a:R c){b:Nat}(d:b<U a):al a b=a[b]:=by grind[al]
def kF{c:aB}(d:R c)(a b:Int):aw (R c):=if 0<=a∧a<=b∧b<=U d then V ((d.drop a.toNat).take (b.toNat-a.toNat))else Y
def agw{h:aB}{d g:R h}{e f:Int}(a:kF d e f=V g):∃b c:Nat,e=b∧f=c∧b<=c∧c<=U d∧g=(d.drop b).take (c-b):=by
 unfold kF at a;split at a
 ·rename_i i;simp only[iG]at a;exact⟨e.toNat,f.toNat,by omega,by omega,by omega,by omega,a.symm⟩
 grind
def dA{c:aB}(d:Nat)(a b:R c):aw (R c):=if (U a+U b)*d<=140737488355328∧U a+U b<=maxLen then V (a++b)else Y
def VN{e:aB}{c:Nat}{a b d:R e}(f:dA c a b=V d):(U a+U b)*c<=140737488355328∧U a+U b<=maxLen∧d=a++b:=by
 simp_all[dA,iG]
section
variable{c:cX}{E:R (Nat×J)}{L:R aK}{ops:bE bA}{Q:cK->cg->bj->Prop}
variable{d:aw Tmp}{ty:bH}{pos:String}{a1:bE Edge}{g:aw (Nat×aI)}{x y:cx}{t t2:bH}
def look_nil{au:aB}[ah au]:aN c E L (.const (.slice Y 0 0)) (.of ([]:R au)):=λ_ _ _=>oO.2 (.inl ⟨rfl,rfl⟩)
def qJ.len{a:aB}[ah a]{e f b}{c:R a}(g:qJ e f b c):∃h d,b=.slice h (U c) d:=by
 rcases g with⟨rfl,rfl⟩|⟨i,j,d,k,l,m,rfl,_⟩
 ·simp_all
 simp_all
def mT{b:aB}[ah b]{a:R b}{e:bH}(f:c.P.underlying t=V (.slice e))(h:aN c E L x (.of a)):aZ c E L ⟨d,.call ⟨.builtin .len,#[x],#[t]⟩,ty,pos,a1,g⟩ (.of (U a:Int)):=.pure λi j k=>by
 obtain⟨m,n,l⟩:=(oO.1 (h i j k)).len;exact⟨.int .i64 (U a),by simp[execOp,resolve,invoke,builtin,cO,l,dZ f,goInt],of_int.2 o⟩
def C0{a:cC}(b:c.P.underlying t=V .string)(e:aN c E L x (.of a)):aZ c E L ⟨d,.call ⟨.builtin .len,#[x],#[t]⟩,ty,pos,a1,g⟩ (.of (a.size:Int)):=.pure λf h i=>
 ⟨.int .i64 a.size,by simp[execOp,resolve,invoke,builtin,cO,rm.1 (e f h i),dZ b,goInt],of_int.2 o⟩
def jy{a:aB}[ah a][Inhabited a]{b:R a}{e:bH}{i:Int}{k:Nat}(o:c.P.underlying t=V (.slice e))(p:bR c.P e a)(q:aN c E L x (.of b))(r:aN c E L y (.of i))(A:k<U b∧i=k):
 aZ c E L ⟨d,.indexAddr t x y,ty,pos,a1,g⟩ (.ptr (al b k)):=.pure λh j l=>by
 obtain⟨f,rfl⟩:=A
 have B:=of_int.1 (r h j l)
 rcases oO.1 (q h j l)with⟨_,rfl⟩|⟨m,n,O,C,D,F,G,H,I,P,Q,aa,J⟩
 ·grind
 obtain⟨ab,K,M⟩:=p.info
 have N:(k+1)*ah.size a<=U b*ah.size a:=ij _ f
 rw[vI]at N
 refine⟨.pointer (V ⟨m,n+k*ah.size a,Y⟩),?_,m,n+k*ah.size a,C,D,F,rfl,H,I,by omega,?_⟩
 ·simp[execOp,cA,asIntOf,dZ o,G,B,f,Go.sizeOf,typeInfo,K,M,kD]
 have:=J.2 k f
 simp_all[Cr,dI]
def qi{P:cV}{a:bj}{b:bt}{c:IntKind}{n m:Nat}{d:BoundsCode}(e:n<=m)(f:b=.int c n):(bK b m d).run P a=.ok n a:=by
 simp_all[bK,asIntOf]
def akA{b:aB}[ah b]{k l}{d:R b}{f g h:Nat}{j:bE bt}{m:bH}{n:Nat×Nat}{a c:Nat}(p:f∉k)(q:l.heap[f]? =V (.cells j m n))(E:U d<=h)(F:U d<=maxLen)
 (G:g+U d*ah.size b<=j.size) (r:hP k l ((j.toList.drop g).take (U d*ah.size b)) d) (A:a<=c) (B:c<=U d):
 qJ k l (.slice (V (if h=a then⟨f,g,Y⟩else⟨f,g+a*ah.size b,Y⟩)) (c-a) (h-a)) ((d.drop a).take (c-a)):=by
 have o:U ((d.drop a).take (c-a))=c-a:=by grind
 have H:c*ah.size b<=U d*ah.size b:=ij _ B
 have I:a*ah.size b<=c*ah.size b:=ij _ A
 have aq:(c-a)*ah.size b=c*ah.size b-a*ah.size b:=d7 _ _ _
 by_cases e:h=a
 ·subst e
  have C:c=h:=by omega
  subst C
  refine .inr ⟨f,g,c-c,j,m,n,by simp,p,q,by simp,by simp,by grind,?_⟩
  simp only[Nat.sub_self,dL,di,zA]
  exact⟨by simp,λi c=>by grind⟩
 rw[bU e]
 refine .inr ⟨f,g+a*ah.size b,h-a,j,m,n,by rw[o],p,q,by omega,by omega,by grind,?_⟩
 rw[o]
 refine⟨by grind,λi D=>?_⟩
 rw[o]at D
 have J:=r.2 (a+i) (by omega)
 have K:(a+i+1)*ah.size b<=U d*ah.size b:=ij _ (by omega)
 have L:(i+1)*ah.size b<=(c-a)*ah.size b:=ij _ (by omega)
 grind[d0,Cr,d4]
inductive vp(c:cX)(E:List (Nat×J))(L:List aK):Option Operand->Int->Int->Prop
 |none {n}:vp c E L .none n n
 |some {x i n}:aN c E L x (.of (i:Int))->vp c E L (.some x) i n
def vW{l:aB}[ah l]{m Q:R l}{e:bH}{K M:aw cx}{i aa:Int}(A:c.P.underlying t=V (.slice e))(ae:bR c.P e l)(af:aN c E L x (.of m))(B:vp c E L K i 0)(n:vp c E L M aa (U m))
 (ag:kF m i aa=V Q):aZ c E L ⟨d,.slice t x K M Y,ty,pos,a1,g⟩ (.of Q):=.pure λh a o=>by
 obtain⟨b,j,rfl,rfl,ab,aQ,rfl⟩:=agw ag
 obtain⟨au,F,G⟩:=ae.info
 rcases oO.1 (af h a o)with⟨p,rfl⟩|⟨q,r,C,av,ax,ay,p,ai,aj,ak,al,am,an⟩
 ·have ao:j=0:=by simp_all
  have H:b=0:=by omega
  subst ao
  subst H
  refine⟨.slice Y 0 0,?_,oO.2 (.inl ⟨rfl,by simp⟩)⟩
  have N:(match K.map h.eval with |some f=>bK f 0 .sliceB|none=>pure 0:Sem Nat).run c.P a=.ok 0 a:=by
   cases B with
   |none=>rfl
   |some k=>exact qi (jT _) (of_int.1 (k h a o))
  have I:(match M.map h.eval,(Y:aw bt) with | some f,V _=>bK f 0 .slice3B | some f,Y=>bK f 0 .sliceAcap | none,Y=>pure 0 | none,V _=>stuck "Slice: max without high" :Sem Nat).run c.P a= .ok 0 a:=by
   cases n with
   |none=>rfl
   |some k=>exact qi (jT _) (of_int.1 (k h a o))
  cases B <;> cases n
  all_goals
   simp only[execOp,bL,bS,bx,p,eH,dZ A,a',cn,co,cb,qP,nV,l7,bm]at N I⊢
   simp_all[a',Go.sizeOf,typeInfo,eH,run_program,bm]
 refine⟨.slice (V (if C=b then⟨q,r,Y⟩else⟨q,r+b*ah.size l,Y⟩)) (j-b) (C-b),?_,oO.2 (akA ai aj ak al am an ab aQ)⟩
 have N:∀f,f=Value.int .i64 b->(bK f j .sliceB).run c.P a=.ok b a:=λf O=>qi ab O
 have I:∀f,f=Value.int .i64 j->(bK f C .sliceAcap).run c.P a=.ok j a:=λf O=>qi (by omega) O
 have az:(if C=b then(V ⟨q,r,Y⟩:aw Addr)else(V (Addr.add ⟨q,r,Y⟩ (b*ah.size l))))=V (if C=b then⟨q,r,Y⟩else⟨q,r+b*ah.size l,Y⟩):=by
  split <;> simp[kD]
 generalize ac:(j:Int)=Sx at n
 generalize ap:(b:Int)=Sy at B
 generalize aA:(U m:Int)=Sz at n
 generalize aC:(0:Int)=SA at B
 cases B with
 | none=>
   have H:b=0:=by omega
   cases n with
   | none=>
     have P:j=U m:=by omega
     subst P
     subst H
     simp[execOp,bL,bS,bx,p,dZ A,Go.sizeOf,typeInfo,F,G,kD]
   | some k=>
     have D:=of_int.1 (k h a o)
     rw[<-ac]at D
     have J:=I _ D
     subst H
     simp[execOp,bL,bS,bx,p,dZ A,Go.sizeOf,typeInfo,F,G,kD,J]
 | some k=>
   have D:=of_int.1 (k h a o)
   rw[<-ap]at D
   have J:=N _ D
   cases n with
   | none=>
     have P:j=U m:=by omega
     subst P
     simp only[execOp,bL,bS,bx,p,eH,dZ A,a',cn,co,cb,qP,nV,l7,bm,J,Go.sizeOf,typeInfo,run_program,F,G]
     simp_all
   | some aq=>
     have ad:=of_int.1 (aq h a o)
     rw[<-ac]at ad
     have ar:=I _ ad
     simp only[execOp,bL,bS,bx,p,eH,dZ A,a',cn,co,cb,qP,nV,l7,bm,J,ar,Go.sizeOf,typeInfo,run_program,F,G]
     simp_all
end
def aH:aw Nat->Nat->Nat->bt
 |some a,b,c=>.slice (V ⟨a,0,Y⟩) b c
 |none,_,_=>.slice Y 0 0
def agx{L:R aK}{i:Nat}{c:ft}:∀b∈aP (L.set i ⟨Y,c⟩),∃a e,a≠i∧L[a]? =V e∧e.key=V b:=by
 intro b d;obtain⟨e,f,g⟩:=tv.1 d;obtain⟨a,h⟩:=ow.1 f;grind
def Cb{L:R aK}{i:Nat}{gg:ft}:aP (L.set i ⟨Y,gg⟩) |>.Sublist (aP L):=by
 induction L generalizing i with
 |nil=>simp[aP]
 | cons x a b=>
   cases i with
   | zero=>
     grind[aP]
   | succ i=>
     grind[aP]
def b0.kill{c E L l h}(b:b0 c E L l h)(i:Nat):b0 c E (L.set i ⟨Y,.dead⟩) l h:=by
 have m:=Cb (L:=L) (i:=i) (gg:=.dead);have g:∀a∈aP (L.set i ⟨Y,.dead⟩),a∈aP L:=λa g=>m.subset g;have n:Ext (aP L++c.cv) h (aP (L.set i ⟨Y,.dead⟩)++c.cv) h:=.drop λa d=>by
  grind
 exact
 {defers:=b.defers
  size:=b.size
  env:=λt o p=>let⟨q,j,k⟩:=b.env t o p; ⟨q,j,o.mono n k⟩
  ey:=b.ey
  own:=λe r=>by
   obtain⟨D,f⟩:=ow.1 r;rw[Bu]at f;split at f
   ·split at f
    ·simp only[iG]at f;subst f;trivial
    simp_all
   have j:=b.own e (fM f);unfold aK.ok at *;split at j
   ·obtain⟨A,B,C⟩:=j;exact⟨A,B,ft.mono _ n C⟩
   omega
  nodup:=b.nodup.sublist m
  lt:=λa d=>b.lt a (g a d)
  gl:=λa d=>b.gl a (g a d)
  eW:=λa d=>⟨(b.eW a d).1,λk=>(b.eW a d).2 (g a k)⟩}
def b0.GD{c E L g h}(d:b0 c E L g h){i b:Nat}{j:ft}(f:L[i]? =V ⟨V b,j⟩):b∉aP (L.set i ⟨Y,.dead⟩)++c.cv:=by
 intro a;rcases eN.1 a with a|a
 ·obtain⟨n,e,k,l,m⟩:=agx b a;exact k (QA d.nodup l f m o)
 exact(d.eW b a).2 (tv.2 ⟨_,fM f,rfl⟩)
def OX{a:aB}[ah a]{d e}{c:bE bt}{b:R a}{f:Nat}(g:c.size=f*ah.size a)(aQ:U b<=f)(aF:hP d e (c.toList.take (U b*ah.size a)) b):
 0+U b*ah.size a<=c.size∧hP d e ((c.toList.drop 0).take (U b*ah.size a)) b:=by
 refine⟨?_,by simp_all⟩
 rw[g,kx];exact ij _ aQ
section
variable{c:cX}{E:R (Nat×J)}{L:R aK}{ops:bE bA}{Q:cK->cg->bj->Prop}
variable{d:aw Tmp}{ty:bH}{pos:String}{a1:bE Edge}{g:aw (Nat×aI)}{x y:cx}{t t2:bH}
def b0.freeze{j:cg}{k:bj}{au:aB}[ah au]{i b d l:Nat}{f:aw Nat}{g:R au}(h:b0 c E L j k)(q:look E b=V (.eq (aH f (U g) d)))(m:L[i]? =V ⟨f,.row l g d⟩):
 b0 c ((b,.of g)::E) (L.set i ⟨Y,.dead⟩) j k:=by
 have n:=h.kill i
 refine {n with env:=λt r a=>?_}
 simp only[look]at a
 by_cases e:be b t=Z
 ·rw [e]at a
  simp only[cond_true,iG]at a
  subst a
  have:=kb.1 e
  subst this
  obtain⟨o,A,B⟩:=h.env b _ q
  refine⟨o,A,oO.2 ?_⟩
  have C:o=aH f (U g) d:=B
  subst C
  have p:=h.own _ (fM m)
  cases f with
  |none=>exact .inl ⟨rfl,p.1⟩
  | some D=>
    obtain⟨ak,F,G,rfl,H,aQ,K,aF⟩:=p
    obtain⟨I,J⟩:=OX H aQ aF
    refine .inr ⟨D,0,d,G,l,(0,0),rfl,h.GD m,F,aQ,by omega,I,?_⟩
    have M:=Cb (L:=L) (i:=i) (gg:=.dead)
    exact J.mono (.drop λN O=>by
     grind)
 simp only[qc]at e
 rw[e]at a
 exact n.env t r a
def ar.freeze{b:ec}{au:aB}[ah au]{d:aw Nat}{a:R au}{e g:Nat}(i f:Nat)(h:look E f=V (.eq (aH d (U a) e)))(j:L[i]? =V ⟨d,.row g a e⟩)
 (k:ar c Q b ((f,.of a)::E) (L.set i ⟨Y,.dead⟩)):ar c Q b E L:=λl m n=>k l m (n.freeze h j)
def b0.alF{b:cg}{d:bj}{f:aB}[ah f](h:bH)(g:b0 c E L b d):b0 c E (⟨Y,.row h ([]:R f) 0⟩::L) b d:=
 {g with
  own:=λe a=>by
   rcases fj.1 a with rfl|a
   ·exact⟨rfl,rfl⟩
   exact g.own e a}
def aa.own{a:R bA}{au:aB}[ah au](b:bH)(d:aa c ops Q a E (⟨Y,.row b ([]:R au) 0⟩::L)):aa c ops Q a E L:=λe f g=>d e f (g.alF b)
def h7:aN c E L (.const (.slice Y 0 0)) (.eq (aH Y 0 0)):=λ_ _ _=>rfl
def nv{a:aw Nat}{b f:Nat}{e i n:Nat}{h:aB}[ah h]{xs:R h}(j:c.P.underlying t=V (.slice e))(p:aN c E L x (.eq (aH a b f)))(aQ:b=U xs)(q:L[i]? =V ⟨a,.row n xs f⟩):aZ c E L ⟨d,.call ⟨.builtin .len,#[x],#[t]⟩,ty,pos,a1,g⟩ (.of (b:Int)):=.pure λk r l=>by
 subst aQ;have m:k.eval x=_:=p k r l;have A:=l.own _ (fM q);cases a with
 | none=>
   have:xs=[]:=A.1
   subst this
   exact⟨.int .i64 0,by simp[execOp,resolve,invoke,builtin,cO,m,aH,dZ j,goInt],of_int.2 o⟩
 |some B=>exact⟨.int .i64 (U xs),by simp[execOp,resolve,invoke,builtin,cO,m,aH,dZ j,goInt],of_int.2 o⟩
def hP.one{a:aB}[ah a]{i j}{c:R bt}{k:R a}(d:hP i j c k):∀b∈c,b.oneCell'=Z:=by
 intro b l;obtain⟨e,f⟩:=ow.1 l;have g:=(lX.1 f).1;have m:=d.1;by_cases aR:ah.size a=0
 ·simp_all
 have h:0<ah.size a:=Ey aR;have n:e/ah.size a<_:=(S8 h).2 (by rw[m]at g;exact g);refine ah.one (d.2 _ n) b (ow.2 ⟨e % ah.size a,?_⟩);rw[nh,bT (FJ _ h),pr,vH,ET];exact f
def xG{a:aB}[ah a]{f g}{c h:R bt}{b j:R a}(d:hP f g c b)(k:hP f g h j):hP f g (c++h) (b++j):=by
 refine⟨by rw[lI,d.1,k.1,lI,oE],λi m=>?_⟩;rw[lI]at m;by_cases l:i<U b
 ·have n:=d.2 i l;have o:(i+1)*ah.size a<=U b*ah.size a:=ij _ l;rw[vI]at o;have p:=d.1;grind
 have n:=k.2 (i-U b) (by omega);have e:i*ah.size a=U c+(i-U b)*ah.size a:=by
  rw[d.1,<-oE];grind
 rw[e,List.drop_append,List.drop_of_length_le (by omega),dk,show U c+(i-U b)*ah.size a-U c=(i-U b)*ah.size a by omega];grind
def qJ.cells{i:aB}[ah i]{m f j}{c:R i}(n:qJ m f j c):
 (j=.slice Y 0 0∧c=[])∨∃(d e k:Nat) (g:R bt),j=.slice (V ⟨d,e,Y⟩) (U c) k∧U g=U c*ah.size i∧(∀(h:Nat) (a:bt),g[h]? =V a->f.cell? ((⟨d,e,Y⟩:Addr).add h)=V a)∧
  (∀a∈g,a.oneCell'=Z)∧hP m f g c:=by
 rcases n with n|⟨d,e,k,o,p,q,r,B,A,C,D,E,l⟩
 ·simp_all
 refine .inr ⟨d,e,k,_,r,l.1,λh a b=>?_,λa b=>?_,l⟩
 ·rw[nh]at b
  split at b
  ·rw[kD,FD f d (e+h) o p q A]
   rw[pr]at b
   simpa using b
  cases b
 exact l.one a b
def b0.grow{f:cg}{b:bj}(d:b0 c E L f b){i:Nat}{k:aK}(A:L[i]? =V k){ak:Obj}{gg:ft}(l:gg.holds (aP L++c.cv) b ak):
 b0 c E (L.set i ⟨V b.heap.size,gg⟩) f (b.alloc ak):=by
 have m:=d.alloc l
 refine m.sub (λe B=>?_) ?_
 ·grind
 have n:b.heap.size∉aP L:=λo=>Fk _ (d.lt _ o)
 have p:∀(L:R aK) (i:Nat) (a:Nat),a∉aP L->(aP L).Nodup->(aP (L.set i ⟨V a,gg⟩)).Nodup∧∀g∈aP (L.set i ⟨V a,gg⟩),g=a∨g∈aP L:=by
  intro L;induction L with
  |nil=>simp_all
  | cons x h C=>
    intro i a q aQ
    cases j:x.key with
    | none=>
      have D:a∉aP h:=by simp_all[aP]
      have r:(aP h).Nodup:=by simp_all[aP]
      cases i with
      |zero=>simp_all[c4,aP,fj]
      | succ i=>
        grind[aP]
    | some F=>
      simp only[aP,j,fj,Cq]at q
      simp only[aP,j]at aQ
      obtain⟨G,r⟩:=s7.1 aQ
      cases i with
      |zero=>simp_all[c4,aP,fj]
      | succ i=>
        grind[aP]
 exact(p L i _ n d.nodup).1
def PY{d:aB}[ah d]{g h}{e ds:R bt}{a:R d}{T b:Nat}(f:hP g h e a)(i:U ds=(b-U a)*ah.size d)(aQ:U a<=b)(j:b<=maxLen){c:bE bt}(k:c.toList=e++ds):
 (ft.row T a b).holds g h (.cells c T (0,0)):=by
 refine⟨c,rfl,?_,aQ,j,?_⟩
 ·have:c.size=U (e++ds):=by grind
  rw[this,lI,f.1,i,<-oE];simp_all
 rw[k,<-f.1,I6];exact f
def aa.app{d:aB}[ah d]{rest:R bA}{a8 i e bytes b:Nat}{N:aw Nat}{xs ek r:R d}{aA:d}(q:c.P.underlying t=V (.slice e))(aC:bR c.P e d)(aD:dn c.P e aA)
 (a0:(c.P.info? e).map (·.bytes)=V bytes) (aR:aN c E L x (.eq (aH N (U xs) b))) (A:L[i]? =V ⟨N,.row e xs b⟩) (aE:aN c E L y (.of ek)) (aG:dA bytes xs ek=V r) (aQ:bu a8 c.n=Z)
 (aI:∀g h,aa c ops Q rest ((a8,.eq (aH g (U r) h))::E) (L.set i ⟨g,.row e r h⟩)):
 aa c ops Q (⟨V a8,.call ⟨.builtin .append,#[x,y],#[t,t]⟩,ty,pos,a1,Y⟩::rest) E L:=λl a B=>by
 obtain⟨ai,O,rfl⟩:=VN aG
 obtain⟨m,n,C,aj,aJ⟩:=aD.zero
 have al:m.size=ah.size d:=by
  obtain⟨a2,D,a3⟩:=aC.info;simp_all
 have aK:m.bytes=bytes:=by simp_all
 have a4:n.cells.size=ah.size d:=by have:=ah.len (aJ [] a).2;omega
 subst aK
 have D:l.eval x=_:=aR l a B
 have am:=B.own _ (fM A)
 have aL:a8<c.n:=by simp_all
 have an:=(oO.1 (aE l a B)).cells
 have a5:maxLen=9223372036854775807:=rfl
 have aM:∃g h F,(cp #[t,t] ty #[l.eval x,l.eval y]).run c.P a=.ok (aH g (U (xs++ek)) h) F∧b0 c E (L.set i ⟨g,.row e (xs++ek) h⟩) l F:=by
  cases N with
  | none=>
    obtain⟨aO,aP⟩:xs=[]∧b=0:=am
    subst aO
    subst aP
    have a6:L.set i ⟨Y,.row e ([]:R d) 0⟩=L:=by
     obtain⟨ab,ac⟩:=lX.1 A;rw[<-ac];exact S7 ab
    rcases an with⟨f,rfl⟩|⟨G,H,I,j,f,ao,J,ap,K⟩
    ·refine⟨Y,0,a,?_,by simp_all⟩
     simp[D,f,aH,cp,dZ q,Go.sizeOf,typeInfo,C,cF,b2]
    by_cases aS:U ek=0
    ·have:ek=[]:=MY aS
     subst this
     refine⟨Y,0,a,?_,by simp_all⟩
     simp[D,f,aH,cp,dZ q,Go.sizeOf,typeInfo,C,cF,b2,loadCells,loadCellsFrom]
    simp only[di,kx]at ai O
    have aF:=run_append_nil (P:=c.P) a t ty e m n q C aj ⟨G,H,Y⟩ (U ek) I j (by simp_all) J (by omega) (by omega) (by omega)
    refine⟨V a.heap.size,grownCap a (U ek) 0 e,_,by rw[D,f];simpa[aH]using aF,?_⟩
    have aq:=grownCap_ge a (U ek) 0 e
    have ad:=grownCap_le_maxLen a (U ek) 0 e O
    have:=(B.world (Fr.drew a)).grow A (ak:=.cells (j.toArray++bB n.cells (grownCap a (U ek) 0 e-U ek)) e) (gg:=.row e ([]++ek) (grownCap a (U ek) 0 e))
     (PY (T:=e) (K.mono (Ext.ey (Fr.drew a))) (ds:=(bB n.cells (grownCap a (U ek) 0 e-U ek)).toList) (by grind[cw,size_zeroCells]) aq ad (by simp))
    simp_all
  | some k=>
    obtain⟨a7,ae,p,rfl,aT,aU,aV,ar⟩:=am
    have af:l.eval x=.slice (V ⟨k,0,Y⟩) (U xs) b:=D
    rcases an with⟨f,rfl⟩|⟨G,H,I,j,f,ao,J,ap,K⟩
    ·refine⟨V k,b,a,?_,?_⟩
     ·simp[af,f,aH,cp,dZ q,Go.sizeOf,typeInfo,C,cF,b2,storeCells,aU]
     have:L.set i ⟨V k,.row e (xs++[]) b⟩=L:=by
      obtain⟨ab,ac⟩:=lX.1 A;rw[qe,<-ac];exact S7 ab
     simp_all
    by_cases au:U xs+U ek<=b
    ·have aW:U xs*m.size+U j<=p.size:=by rw[al,ao,aT,<-oE];exact ij _ au
     have aF:=run_append_room (P:=c.P) a t ty e m q C k (U xs) b p ae ⟨G,H,Y⟩ (U ek) I j (by simp_all) J ap au aW
     refine⟨V k,b,_,by rw[af,f];simpa[aH]using aF,?_⟩
     refine B.store A ae ⟨_,rfl,?_,by simp_all,aV,?_⟩
     ·grind
     have a9:U (p.toList.take (U xs*m.size))=U xs*ah.size d:=by simp_all
     have av:=xG ar K
     rw[al]
     have a_:U (xs++ek)*ah.size d=U (p.toList.take (U xs*ah.size d)++j):=by grind
     grind
    have aX:∀(M:Nat) ag,(p.toList.take (U xs*ah.size d))[M]? =V ag->a.cell? ((⟨k,0,Y⟩:Addr).add M)=V ag:=by
     intro M ag ax;rw[nh]at ax;split at ax
     ·rw[kD,kx,FD a k M p e (0,0) ae];simp_all
     simp_all
    have aF:=run_append_grow (P:=c.P) a t ty e m n q C aj ⟨k,0,Y⟩ (U xs) b _ (by simp_all) aX ⟨G,H,Y⟩ (U ek) I j (by simp_all) J (by omega) (by omega) (growslice_fits (by omega) ai)
    have aq:=grownCap_ge a (U xs+U ek) b e
    have ad:=grownCap_le_maxLen a (U xs+U ek) b e O
    refine⟨V a.heap.size,grownCap a (U xs+U ek) b e,_,by rw[af,f];simpa[aH]using aF,?_⟩
    have av:=(xG ar K).mono (Ext.ey (Fr.drew a))
    have:=(B.world (Fr.drew a)).grow A (ak:=.cells ((p.toList.take (U xs*ah.size d)).toArray++j.toArray++bB n.cells (grownCap a (U xs+U ek) b e-(U xs+U ek))) e)
     (gg:=.row e (xs++ek) (grownCap a (U xs+U ek) b e))
     (PY (T:=e) av (ds:=(bB n.cells (grownCap a (U xs+U ek) b e-(U xs+U ek))).toList) (by grind[cw,size_zeroCells,c3]) (by simp_all) ad (by simp))
    simp_all
 obtain⟨g,h,F,ba,aY⟩:=aM
 refine jb o (hh:=λay az=>ay=aH g (U (xs++ek)) h∧az=F) (.lK ?_ ⟨rfl,rfl⟩) λay az ⟨f,aZ⟩=>?_
 ·simp only[execOp,resolve,invoke,builtin,eH,bm,a']
  simp_all
 subst f
 subst aZ
 exact aI g h _ _ (aY.put aL o)
inductive pF(c:cX)(E:List (Nat×J))(L:List aK){au:Type}[ah au]:List au->List (Nat×Operand)->List au->Prop
 |nil {b}:pF c E L b [] b
 |cons {b et:List au} {v:au} {i:Nat} {x:Operand} {r:List (Nat×Operand)}:i<b.length->aN c E L x (.of v)->pF c E L (b.set i v) r et->pF c E L b ((i,x)::r) et
theorem pF.run{a:aB}[ah a]{f g:R a}{k:R (Nat×cx)}(n:pF c E L f k g):∀b d,b0 c E L b d->∀e:bE bt,hP (aP L++c.cv) d e.toList f->
 ∃h,ct (λi=>V (i*ah.size a,ah.size a)) e (k.map λ(i,x)=>(i,b.eval x))=V h∧hP (aP L++c.cv) d h.toList g∧U g=U f:=by
 induction n with
 |nil=>intro b d j e aF;exact⟨e,rfl,aF,rfl⟩
 | @cons f g B i x C l p _ q=>
   intro b d j e aF
   have m:=p b d j
   have r:(b.eval x).cells.size=ah.size a:=by have:=ah.len m.2;omega
   have D:=aF.1
   have A:(i+1)*ah.size a<=U f*ah.size a:=ij _ l
   rw[vI]at A
   rw[pv,KE o r (by simp_all)]
   obtain⟨h,F,G,H⟩:=q b d j (h3 e.toList (i*ah.size a) (b.eval x).cells.toList).toArray (by
    have:=Px aF l m.2;simp_all[h3,ah.len])
   simp_all
def Gw{a:aB}[ah a]{e f}{g:a}{b:bt}(h:(J.of g).holds e f b)(c:Nat)(aR:ah.size a≠0):hP e f ((b3 (c*ah.size a)).map (b.cells[· % b.cells.size]!)).toList (bv c g):=by
 have m:b.cells.size=ah.size a:=by have:=ah.len h.2;omega
 have n:0<ah.size a:=Ey aR;refine⟨by simp,λi o=>?_⟩;have j:i<c:=by simp_all
 have k:(i+1)*ah.size a<=c*ah.size a:=ij _ j;rw[vI]at k;have:((((b3 (c*ah.size a)).map (b.cells[· % b.cells.size]!)).toList.drop (i*ah.size a)).take (ah.size a))=b.cells.toList:=by
  apply ni;intro d;rw[nh];split
  ·rename_i l;rw[pr];have p:i*ah.size a+d<c*ah.size a:=by omega
   have q:(i*ah.size a+d) % ah.size a=d:=by rw[vH,Nat.mul_add_mod];exact IQ l
   simp_all
  simp_all
 rw[this];simpa using h.2
def tx{b:aB}[ah b]{e a:Nat}{n:b}{r:R b}{h:R (Nat×cx)}(D:c.P.underlying t=V (.slice e))(F:bR c.P e b)(G:dn c.P e n)(aR:be (ah.size b) 0=bi)(aQ:cd (a*ah.size b) 16777216=Z)
 (H:pF c E L (bv a n) h r):aZ c E L ⟨d,.buildSlice t a h.toArray,ty,pos,a1,g⟩ (.of r):=λj f o=>by
 obtain⟨I,p,q,J,K⟩:=G.zero
 have M:I.size=ah.size b:=by
  obtain⟨ae,af,ag⟩:=F.info;simp_all
 have N:ah.size b≠0:=λk=>by simp_all
 have O:=Gw (K (aP L++c.cv) f) a N
 obtain⟨l,A,m,ai⟩:=H.run j f o _ O
 have B:U r=a:=by simp_all
 have P:(h.toArray.map λ(x:Nat×cx)=>(x.1,j.eval x.2)).toList=h.map λ(i,x)=>(i,j.eval x):=by simp
 have aj:=pq aQ
 refine .lK (v:=.slice (V ⟨f.heap.size,0,Y⟩) a a) (dE:=f.alloc (.cells l e)) ?_ ⟨Fr.alloc f _,oO.2 ?_⟩
 ·simp only[execOp,c',eH,dZ D,a',Go.sizeOf,typeInfo,run_program,q,bm,M]
  rw[bU (by omega)]
  try simp only[bm,a',eH]
  by_cases C:a*ah.size b=0
  ·have Q:a=0:=by
    rcases Nat.mul_eq_zero.1 C with k|k
    ·exact k
    omega
   subst Q
   simp only[zA,l7,bm,a']
   try simp only[zA]at A
   have aa:((b3 0).map (λx=>(#[]:bE bt)[x % (#[]:bE bt).size]!))=((b3 0).map (p.cells[· % p.cells.size]!)):=by simp
   simp only[pure_bind]
   rw[aa,P,A]
   rfl
  simp only[C,nV,eH,zeroValue,typeInfo,run_program,a',q,J,bm]
  simp_all[newRow]
 have ab:Ext (aP L++c.cv) f (aP L++c.cv) (f.alloc (.cells l e)):=Ext.ey (Fr.alloc f _)
 refine .inr ⟨f.heap.size,0,a,l,e,(0,0),by rw[B],λac=>Fk _ (o.Ap _ ac),Yv f _,by omega,?_,?_,?_⟩
 ·have:U r*1<=a*ah.size b:=by rw[B];exact Iu _ (by omega)
  have:maxLen=9223372036854775807:=rfl
  omega
 ·have:=m.1;simp_all
 have ad:=m.1
 rw[xp,<-ad,mJ]
 exact m.mono ab
end
def vZ{a:R bt}{ak s:Nat}{b:bt}(c:b∈a.drop ak):b∈(a.drop ak).take s∨b∈a.drop (ak+s):=by
 grind[ci,dt]
def PZ{a:R bt}{b ak:Nat}{c:bt}{d:Prop}(e:U a=b)(f:ak=b)(g:c∈a.drop ak):d:=by
 grind
def alG{a d:R bt}{ak b c:Nat}(e:U a=c)(aq:U d=b)(f:ak+b<=c):U (a.take ak++d++a.drop (ak+b))=c:=by
 grind
def XL{b c:R bt}{ak a d:Nat}(e:U b=d)(aq:U c=a)(f:ak+a<=d):((b.take ak++c++b.drop (ak+a)).drop ak).take a=c:=by
 grind
theorem Wy{a e:R bt}{ak b f c d:Nat}(g:U a=f)(aq:U e=b)(h:ak+b<=f)(j:c+d<=ak∨ak+b<=c):((a.take ak++e++a.drop (ak+b)).drop c).take d=(a.drop c).take d:=by
 apply ni;intro i;simp only[nh,pr];grind
structure tS(P:Type)where
 size:Nat
 rep:List Nat->World->List Value->Nat->P->Prop
 one:∀{A W cs ak x n},rep A W cs ak x->cs.length=n->ak+size=n->∀u∈cs.drop ak,u.oneCell'=Z
 mono:∀{A W fh dE cs ak x},Ext A W fh dE->rep A W cs ak x->rep fh dE cs ak x
 kS:∀{A W cs ak x n ds p s},rep A W cs ak x->cs.length=n->ds.length=s->p+s<=n->p+s<=ak->rep A W (cs.take p++ds++cs.drop (p+s)) ak x
@[reducible] def fw (B:aB) [ah B]:tS B where
  size:=ah.size B
  rep A W cs ak x:=ah.rep A W ((cs.drop ak).take (ah.size B)) x
  one h jq oh u hu:=by
   rcases vZ (s:=ah.size B) hu with h1|iN
   ·exact ah.one h u h1
   grind
  mono e h:=ah.mono e h
  kS h jq aq aQ aC:=by grind[Wy]
@[reducible] def cT (B:aB) [ah B] {P:aB} (S:tS P):tS (B×P)where
  size:=ah.size B+S.size
  rep A W cs ak x:=ah.rep A W ((cs.drop ak).take (ah.size B)) x.1∧S.rep A W cs (ak+ah.size B) x.2
  one h jq oh u hu:=by
   rcases vZ (s:=ah.size B) hu with h1|iN
   ·exact ah.one h.1 u h1
   exact S.one h.2 jq (by omega) u iN
  mono e h:=⟨ah.mono e h.1,S.mono e h.2⟩
  kS h jq aq aQ aC:=⟨by grind[Wy],S.kS h.2 jq aq aQ (by omega)⟩
@[reducible] def ah.str {T P:aB} (S:tS P) (to:T->P) (N:Nat) (as9:S.size=N:=by rfl):ah T where
  size:=N
  agg:=Z
  rep A W cs x:=cs.length=N∧S.rep A W cs 0 (to x)
  len h:=h.1
  one h:=λu hu=>S.one h.2 h.1 (by omega) u (by simp_all)
  flat h:=by cases h
  mono e h:=⟨h.1,S.mono e h.2⟩
structure HI{P:Type}(S:tS P)(G:Type)[ah G]where
 off:Nat
 get:P->G
 set:P->G->P
 hD:off+ah.size G<=S.size
 jK:∀{A W cs ak b},S.rep A W cs ak b->ah.rep A W ((cs.drop (ak+off)).take (ah.size G)) (get b)
 nt:∀{A W cs n ak b ds g},cs.length=n->ak+S.size<=n->S.rep A W cs ak b->ah.rep A W ds g->S.rep A W (cs.take (ak+off)++ds++cs.drop (ak+off+ah.size G)) ak (set b g)
def fD{B:aB}[ah B]:HI (fw B) B where
 off:=0
 get b:=b
 set _ g:=g
 hD:=by simp_all
 jK h:=h
 nt jq oh _ nL:=by
  have h:=XL jq (ah.len nL) oh;simp_all
def cW{B:aB}[ah B]{P:aB}{S:tS P}:HI (cT B S) B where
 off:=0
 get b:=b.1
 set b g:=(g,b.2)
 hD:=by simp_all
 jK h:=h.1
 nt {A W cs n ak b ds g} jq oh h nL:=by
  have oh:ak+(ah.size B+S.size)<=n:=oh;refine⟨?_,S.kS h.2 jq (ah.len nL) (by omega) (by omega)⟩;rw[bZ,XL jq (ah.len nL) (by omega)];exact nL
def bh{B:aB}[ah B]{P:aB}{S:tS P}{G:aB}[ah G](l:HI S G):HI (cT B S) G where
 off:=ah.size B+l.off
 get b:=l.get b.2
 set b g:=(b.1,l.set b.2 g)
 hD:=by have:=l.hD;grind
 jK h:=by rw[<-dQ];exact l.jK h.2
 nt {A W cs n ak b ds g} jq oh h nL:=by
  have oh:ak+(ah.size B+S.size)<=n:=oh;have pg:=l.hD;have fx:=l.nt jq (by omega) h.2 nL;grind
@[reducible] def aG.str {c P d:aB} [ah d] {f:tS P} {e:c->P} {i:Nat} (a:HI f d) (j:Nat) (k:c->d) (l:c->d->c) (m:f.size=i:=by rfl) (p:a.off=j:=by rfl) (C:∀b,a.get (e b)=k b:=by intro b;rfl) (q:∀b g,a.set (e b) g=e (l b g):=by intro b g;rfl): @aG c d (ah.str f e i m) _:=
  @aG.mk c d (ah.str f e i m) _ j k l (by have:=a.hD;grind)
   (λ{r A B b} h=>by have:=a.jK h.2;simp_all)
   (λ{r A B b D g} h n=>by
    have o:=a.nt h.1 (by omega) h.2 n;rw[kx,p,q]at o;have E:=a.hD;exact⟨alG h.1 (ah.len n) (by omega),o⟩)
class dH (au:aB) [ah au] [Inhabited au]where
 cells:R bt
 ok:∀A W,ah.rep A W cells (b1:au)
instance:dH aI:=⟨[.bool bi],λ_ _=>rfl⟩
instance:dH Int:=⟨[.int .i64 0],λ_ _=>rfl⟩
instance:dH (cE 64):=⟨[.int .u64 0],λ_ _=>rfl⟩
instance:dH (cE 32):=⟨[.int .u32 0],λ_ _=>rfl⟩
instance:dH (cE 16):=⟨[.int .u16 0],λ_ _=>rfl⟩
instance:dH (cE 8):=⟨[.int .u8 0],λ_ _=>rfl⟩
instance:dH cC:=⟨[.string ByteArray.empty],λ_ _=>rfl⟩
instance{au:aB}[ah au]:dH (R au):=⟨[.slice Y 0 0],λ_ _=>⟨_,rfl,.inl ⟨rfl,rfl⟩⟩⟩
abbrev bN:=aw Nat×Nat
structure DY{P:Type}(S:tS P)where
 z:P
 cells:List Value
 len:World->cells.length=S.size
 ok:∀A W (q:List Value),S.rep A W (q++cells) q.length z
def DY.a{a:aB}[ah a][Inhabited a][dH a]:DY (fw a):=⟨b1,dH.cells a,λb=>ah.len (dH.ok [] b),λc b d=>by
 have e:=dH.ok (au:=a) c b;show ah.rep c b (((d++dH.cells a).drop (U d)).take (ah.size a)) b1;rwa[NX,rS (Nat.le_of_eq (ah.len e))]⟩
def DY.b{a P:aB}[ah a][Inhabited a][dH a]{e:tS P}(c:DY e):DY (cT a e):=⟨(b1,c.z),dH.cells a++c.cells,λb=>by rw[lI,ah.len (dH.ok [] b),c.len b],λf b h=>by
 have d:=dH.ok (au:=a) f b;have g:=c.ok f b (h++dH.cells a);rw[lI,ah.len d,mI]at g;exact⟨by rw[NX,<-ah.len d,I6];exact d,g⟩⟩
@[reducible] def dH.str {a P:aB} [Inhabited a] {b:tS P} {d:a->P} {e:Nat} (c:DY b) (f:b.size=e:=by rfl) (h:d b1=c.z:=by rfl): @dH a (ah.str b d e f) _:=
  @dH.mk a (ah.str b d e f) _ c.cells λi g=>⟨(c.len g).trans f,by rw[h];exact c.ok i g []⟩
def Wz{g:aB}[ah g]{c d}{e:R bt}{f:g}(a:ah.rep c d e f):∀b,hP c d (bv b e).flatten (bv b f)
 |0=>⟨by simp,λi h=>by grind⟩
 | b+1=>by
   have j:=Wz a b;have k:hP c d e [f]:=⟨by simp[ah.len a],λi h=>by
    have:i=0:=by simp_all
    subst this;rw[zA,xp,<-ah.len a,mJ];exact a⟩
   have:=xG k j;grind
instance{au:aB}[ah au][Inhabited au][dH au]{n:Nat}:dH (ck au n):=⟨(bv n (dH.cells au)).flatten,λA W=>by
 have:=Wz (dH.ok (au:=au) A W) n;show hP A W _ (c7 n b1).toList;simp_all⟩
def Mo(a:aB)[ah a][Inhabited a][dH a]:bt:=if ah.agg a=Z then .agg (dH.cells a).toArray else(dH.cells a).headD undef
theorem dn.of{P:cV}{t:bH}{au:aB}[ah au][Inhabited au][dH au](h:(P.info? t).bind (·.zero)=V (Mo au)):dn P t (b1:au)where
 zero:=by
  cases pg:P.info? t with
  |none=>simp_all
  | some i=>
    refine⟨i,Mo au,rfl,by simp_all,λA W=>?_⟩
    have ok:=dH.ok (au:=au) A W
    unfold Mo
    cases sU:ah.agg au with
    |true=>simp only[l7];exact⟨by grind[shaped],by simp_all[Value.cells]⟩
    | false=>
      have h1:=ah.len ok
      rw[ah.flat sU]at h1
      obtain⟨v,sV⟩:=SZ.1 h1
      have iX:v.oneCell'=Z:=ah.one ok v (by simp_all)
      simp only[qP,nV,sV,List.headD_cons]
      exact⟨by simp_all[shaped],by simp_all[cells_one]⟩
theorem bR.of{P:cV}{t:bH}{a:aB}[ah a]{d:TypeDesc}(b:(match d with | .struct _| .array _ _=>Z|_=>bi)=ah.agg a)(c:P.underlying t=V d)(aR:(P.info? t).map (·.size)=V (ah.size a)):bR P t a:=⟨aR,d,c,b⟩
def yC.of{P:cV}{d e ak:Nat}{b:bE Field}{a:Field}{c:aB}[ah c](f:P.underlying d=V (.struct b))(g:b[e]? =V a)(h:a.offset=ak)(j:bR P a.type c)(aR:be (ah.size c) 0=bi):yC P d e ak:=by
 obtain⟨i,k,l⟩:=j.info;exact⟨b,a,i,f,g,h,k,λm=>by simp_all⟩
theorem nO.of{P:cV}{t b e c:Nat}{a:aB}[ah a](d:P.underlying t=V (.array b e))(f:bR P e a)(aR:ah.size a=c):nO P t b c:=by
 obtain⟨i,g,h⟩:=f.info;exact⟨e,i,d,g,by omega⟩
def bind_some{a b:aB}{c:aw a}{d:a->aw b}{e:b}(f:c.bind d=V e):∃y,c=V y∧d y=V e:=xb.1 f
def da{a:aB}{b:aI}{c e:aw a}{d:a}(f:b=Z)(g:cond b c e=V d):c=V d:=by simp_all
def db{a:aB}{b:aI}{e c:aw a}{d:a}(f:b=bi)(g:cond b e c=V d):c=V d:=by simp_all
def dz{c:aB}{a b:c}(d:V a=V b):a=b:=I0 d
def bs{a:aB}[Inhabited a](b c:aI)(d:aw a):aw a:=if b=c then d else V b1
def dT{a:aB}[Inhabited a]{b c:aI}{d:aw a}{y:a}(e:bs b c d=V y)(ax:b=c):d=V y:=by simp_all[bs,bT]
def bX:Nat:=2^80
def b0.sA{c E L d f}(g:b0 c E L d f)(a:Nat):b0 c E (L.drop a) d f:=
 g.sub (fun e h=>Td h) (by
   have:(aP (L.drop a)).Sublist (aP L):=by
    induction L generalizing a with
    |nil=>simp
    | cons x b i=>
      cases a with
      |zero=>simp
      | succ a=>
        have aF:∀a,(aP (b.drop a)).Sublist (aP b):=by
         intro a;have j:∀(b:R aK) a,(aP (b.drop a)).Sublist (aP b):=by
          intro b;induction b with
          |nil=>simp_all
          | cons y b k=>
            intro a
            cases a with
            |zero=>simp
            | succ a=>
              grind[aP]
         simp_all
        grind[aP]
   exact g.nodup.sublist this)
section
variable{c:cX}{E:R (Nat×J)}{L:R aK}{ops:bE bA}{Q:cK->cg->bj->Prop}
def dr(Q:cK->cg->bj->Prop):cK->cg->bj->Prop:=Q
theorem ar.bs{aY:aB}{x:cx}{a:aI}{y e:ec}(b:aY->R (Nat×J))(d:aY->R aK)(h:aN c E L x (.of a))(f:∀g,af c Q .normal (b g) (d g))
 (i:(∀g,af c (dr Q) .normal (b g) (d g))->a=Z->ar c (dr Q) y E L) (j:(∀g,af c (dr Q) .normal (b g) (d g))->a=bi->ar c (dr Q) e E L):ar c Q (.cond x y e) E L:=
 ar.cond h (i f) (j f)
def af.meet{x:cK}{a:R (Nat×J)}{b:R aK}(d:Nat)(e:L.drop d=b)(f:gp E a)(g:af c Q x a b):af c Q x E L:=λh i j=>g h i (by rw[<-e];exact(j.sA d).less f.look)
def dP{b a h aX:aB}(c:cX)(E:b->h->R (Nat×J))(L:b->h->R aK)(j:a->cK)(ig:a->aX->R (Nat×J))(k:a->aX->R aK):b⊕a->cK->cg->bj->Prop
 | .inl i,x,d,f=>x=.normal∧∃g,b0 c (E i g) (L i g) d f
 | .inr e,x,d,f=>x≠ .normal∧x=j e∧∃g,b0 c (ig e g) (k e g) d f
def af.alH{a b d aX:aB}{f:a->d->R (Nat×J)}{h:a->d->R aK}{j:b->cK}{ig:b->aX->R (Nat×J)}{k:b->aX->R aK}{e:a}(g:d)(i:Nat)
 (l:L.drop i=h e g) (m:gp E (f e g)):af c (dP c f h j ig k (.inl e)) .normal E L:=λo p n=>⟨rfl,g,by rw[<-l];exact(n.sA i).less m.look⟩
def af.alI{b a d aX:aB}{j:b->d->R (Nat×J)}{k:b->d->R aK}{f:a->cK}{ig:a->aX->R (Nat×J)}{h:a->aX->R aK}{e:a}{x:cK}(g:aX)(i:Nat)
 (l:x=f e) (aQ:x≠ .normal) (m:L.drop i=h e g) (n:gp E (ig e g)):af c (dP c j k f ig h (.inr e)) x E L:=λp q o=>⟨aQ,l,g,by rw[<-m];exact(o.sA i).less n.look⟩
def ar.LZ{bb bp aY aX:aB}{p:ec}{q:Nat}{j:bb->aw (bb⊕bp)}{k:bb}{e:bp}(r:cj q j k=V e)
 (h:bb->aY->R (Nat×J)) (i:bb->aY->R aK) (l:bp->cK) (ig:bp->aX->R (Nat×J)) (m:bp->aX->R aK) (n:aY) (A:L=i k n) (B:gp E (h k n))
 (C:∀d f,j d=V f->∀g,ar c (dP c h i l ig m f) p (h d g) (i d g))
 (D:∀g,af c Q (l e) (ig e g) (m e g)):ar c Q (.loop p) E L:=λa b F=>by
 subst A
 exact ahN j (λd a b=> ∃g,b0 c (h d g) (i d g) a b) (λe x a b=>x=l e∧∃g,b0 c (ig e g) (m e g) a b)
  (λd f aR a b ⟨g,G⟩=>wpIn_mono (C d f aR g a b G) (λx a b o=>by
   cases f with
   |inl I=>exact o
   |inr K=>exact⟨o.1,o.2⟩)) Q e (λx a b ⟨H,g,aR⟩=>by subst H;exact D g a b aR) r ⟨n,F.less B.look⟩
end
def aZ.sT{c E L ak}{a:aB}[ah a]{b d:a}(f:aZ c E L ak (.of b))(e:b=d):aZ c E L ak (.of d):=by simp_all
def J.nE{au b7:aB}[ah au][ah b7](P:cV)(F:au->aw b7):J where
 holds A W v:=∃f fst cap,v=.func (.func f) fst cap∧bk P f∧∀fh dE,Ext A W fh dE->(∀k∈fh,k<dE.heap.size)->∀x r yJ,F x=V r->(J.of x).holds fh dE yJ->
  Calls P f (fst++ #[yJ]++cap) dE λe tT=> ∃v,e=.returned v∧Fr [] dE tT∧(J.of r).holds fh tT v
 mono e h:=let⟨f,fst,cap,h1,fx,iX⟩:=h; ⟨f,fst,cap,h1,fx,λfh dE vo=>iX fh dE (e.trans vo)⟩
def J.wS{au b7 aY:aB}[ah au][ah b7][ah aY](P:cV)(F:au->b7->aw aY):J where
 holds A W v:=∃f fst cap,v=.func (.func f) fst cap∧bk P f∧∀fh dE,Ext A W fh dE->(∀k∈fh,k<dE.heap.size)->∀x y r yJ H7,F x y=V r->(J.of x).holds fh dE yJ->(J.of y).holds fh dE H7->
  Calls P f (fst++ #[yJ,H7]++cap) dE λe tT=> ∃v,e=.returned v∧Fr [] dE tT∧(J.of r).holds fh tT v
 mono e h:=let⟨f,fst,cap,h1,fx,iX⟩:=h; ⟨f,fst,cap,h1,fx,λfh dE vo=>iX fh dE (e.trans vo)⟩
section
variable{c:cX}{E:R (Nat×J)}{L:R aK}{d:aw Tmp}{ty:bH}{pos:String}{a1:bE Edge}{g:aw (Nat×aI)}
def Ws{d e:aB}[ah d][ah e]{f:d->aw e}{a:FuncId}(g:bk c.P a)(h:∀x b,f x=V b->cf c.P a [.of x] (.of b)):aN c E L (.func a) (.nE c.P f):=λo p q=>
 ⟨a,#[],#[],rfl,g,λi j _ k x b l m n=>by simpa using h x b m i j [l] k (.cons n .nil)⟩
def Ww{d e f:aB}[ah d][ah e][ah f]{g:d->e->aw f}{a:FuncId}(h:bk c.P a)(i:∀x y b,g x y=V b->cf c.P a [.of x,.of y] (.of b)):aN c E L (.func a) (.wS c.P g):=λr A B=>
 ⟨a,#[],#[],rfl,h,λj k _ l x y b m n o p q=>by simpa using i x y b o j k [m,n] l (.cons p (.cons q .nil))⟩
def Ac{b e:aB}[ah b][ah e]{j:b->aw e}{k x:cx}{n:bE bH}{l:b}{m:e}(o:aN c E L k (.nE c.P j))(p:aN c E L x (.of l))(q:j l=V m):
 aZ c E L ⟨d,.call ⟨.value k,#[x],n⟩,ty,pos,a1,g⟩ (.of m):=λh a i=>by
 obtain⟨r,A,B,C,D,F⟩:=o h a i
 refine .uD (f:=r) (args:=A++ #[h.eval x]++B) (dE:=a) ?_ (F _ a (Ext.refl _ _) i.Ap _ _ _ q (p h a i))
 simp[execOp,resolve,b',C,invoke,D.run]
def KC{h i j:aB}[ah h][ah i][ah j]{k:h->i->aw j}{l x y:cx}{p:bE bH}{m:h}{n:i}{o:j}(q:aN c E L l (.wS c.P k))(r:aN c E L x (.of m))(A:aN c E L y (.of n))(B:k m n=V o):
 aZ c E L ⟨d,.call ⟨.value l,#[x,y],p⟩,ty,pos,a1,g⟩ (.of o):=λa b e=>by
 obtain⟨C,D,F,G,H,I⟩:=q a b e
 refine .uD (f:=C) (args:=D++ #[a.eval x,a.eval y]++F) (dE:=b) ?_ (I _ b (Ext.refl _ _) e.Ap _ _ _ _ _ B (r a b e) (A a b e))
 simp[execOp,resolve,b',G,invoke,H.run]
end
end Gv
namespace Gv
open Go Go.ChangeShapes Go.WideShapes Go.RowKit
open Option renaming some->V
open Bool renaming true->Z,false->bi
open BitVec renaming ofInt->b5
structure Arg(P:Program)(t:TypeId)(au:Type)[ah au]:Prop where
 cells:P.cellsOf t=ah.size au
 read:∀{H:Type} {enc:TypeId×Value->H} {W:World} {n:Nat} {cs:List Value} {x:DataW H×List MemPlace},DataW.trod enc P W 0 (λ_=>Z) Z n t cs=V x->∃a:au,ah.rep [] W cs a
 form:∀{W:World} {b:Nat} {v:Value},Value.okWide P W .any b t v->shaped (ah.agg au) v
variable{P:cV}{t e:bH}
def aiP{a:IntKind}(i:P.underlying t=V (.int a)){d:aB}{g:bH×bt->d}{h:bj}{b:Nat}{e:R bt}{x:DataW d×R MemPlace}(f:DataW.trod g P h 0 (λ_=>Z) Z b t e=V x):
 ∃c:Int,e=[.int a c]∧a.min<=c∧c<=a.max:=by
 cases b with
 |zero=>simp[DataW.trod]at f
 | succ b=>
   unfold DataW.trod at f
   grind[Lit.wf]
def aiQ{d:IntKind}(c:P.underlying t=V (.int d)){e:bj}{f:Nat}{b:bt}(a:Value.okWide P e .any f t b):b.oneCell'=Z:=by
 unfold Value.okWide Cell.okWide at a;simp only[c]at a;unfold Cell.ok at a;rw[c]at a;cases b <;> first|rfl|simp at a
def Arg.u8(hu:P.underlying t=V (.int .u8))(nH:P.cellsOf t=1):Arg P t (cE 8)where
 cells:=nH
 read h:=by
  obtain⟨z,rfl,h1,fx⟩:=aiP hu h;simp[IntKind.min,IntKind.max,IntKind.signed,IntKind.bits]at h1 fx;exact⟨b5 8 z,by show [_]=[_];simp;omega⟩
 form h:=aiQ hu h
def VO{g:aB}{h:bH×bt->g}{i j:bj}(k:laidOutB P=Z){l:Nat->aI}:∀{e:R bH} {m:R bt} {n:R (DataW g)} {c:R MemPlace},
 (∀t∈e,P.readableRec t=Z∧t<P.types.size)->DataW.TrodAll h P i 0 (λ_=>Z) Z e m n c->(∀b∈c,i.sameAt j b)->(∀b∈c,l b.block=Z)->DataW.TrodAll h P j 0 l Z e m n c
 | [],_,_,_,_,f,_,_=>by
   obtain⟨rfl,rfl,rfl⟩:=trodAll_nil f;exact rfl
 | _::_,_,_,_,o,f,aR,p=>by
   obtain⟨D,E,d,F,b,r,rfl,rfl,rfl,A,B⟩:=trodAll_cons f;have q:=o _ (jS ..);exact⟨b,r,WideElems.Trod_stays k q.1 q.2 A (λx a=>aR x (by simp[a])) (λx a=>p x (by simp[a])),
    VO k (λt C=>o t (gO _ C)) B (λx a=>aR x (by simp[a])) (λx a=>p x (by simp[a])),rfl⟩
def Fr.below{b c:bj}(a:Fr [] b c):Below b.heap.size b c:=⟨a.os,a.tape,a.output,a.size,λd e=>a.block d e (by simp)⟩
def aiR{h:aB}{i:bH×bt->h}{a:Func}{c:ChangeSpec}{b d:bj}{args:bE bt}{e p:R (DataW h)}{q:R MemPlace}{ju:bH}
 (r:laidOutB P=Z) (A:∀t∈a.params.toList,P.readableRec t=Z∧t<P.types.size) (aF:a.resultTypes= #[ju]) (B:P.underlying ju=V .bool) (k:c.vars=[])
 (aR:c.fn h e= {results:=[.lit (.bool Z)],args:=e})
 (j:DataW.Whole i P a.params.toList c.vars bi b args.toList e p q) (C:Fr [] b d):
 c.post i P a bi Z bi bi b args (.bool Z) d:=by
 have D:=j
 obtain⟨f,I,E,l,rfl,J,aQ⟩:=D
 rw[k]at l
 obtain⟨rfl,rfl⟩:=trodVars_none l
 have F:∀x∈f,x.block<b.heap.size:=λx g=>j.lt x (by simp_all)
 have m:=C.below
 have G:∀x∈f,b.sameAt d x:=λx g=>m.same (F x g)
 have K:∀(n:Nat) (o:Nat->aI) (aq:aI),DataW.TrodAll i P d n o aq a.resultTypes.toList ((Value.bool Z).resultList a.resultTypes.size) [.lit (.bool Z)] []:=by
  intro n o aq;rw[aF];exact⟨[],[],shut_bool B Z,rfl,rfl⟩
 refine⟨e,[],f++[],[],f,[],j,?_,?_,?_,World.keptBut_mono (λx g=>?_) (m.frame λ_=>False),λH=>by cases H⟩
 ·simp_all
 ·rw[qe,aR];exact VO r A E G (λx g=>by simp_all)
 ·rw[qe,aR,k];rfl
 simp_all
end Gv
namespace Gv
open Go Go.ChangeShapes Go.WideShapes Go.RowKit
open List renaming length->U
open Option renaming some->V
open Bool renaming true->Z,false->bi
open Nat renaming beq->be
def aiS{P:cV}{f:bH->aI}{d:Nat}{e:bH}{b c g:Nat}(a:rowAt P f d e b c g=Z):c<=b*P.cellsOf e:=by
 cases d with
 |zero=>cases a
 | succ d=>
   unfold rowAt at a
   simp only at a
   split at a
   ·cases a
   rename_i aR
   have h:0<P.cellsOf e:=Ey aR
   have i:=ET c (P.cellsOf e)
   rw[qV]at a
   rcases a with a|a
   ·simp only[hx,l1,ik]at a
    have:P.cellsOf e*(c/P.cellsOf e)<=P.cellsOf e*b:=Iu _ (by omega)
    rw[vH b];omega
   simp only[hx,ik]at a
   have j:=FJ c h
   have:P.cellsOf e*(c/P.cellsOf e+1)<=P.cellsOf e*b:=Iu _ (by omega)
   rw[Nat.mul_add]at this
   rw[vH b];omega
def VP{P:cV}:∀{d:Nat} {e:bH} {b c:Nat} {f:bH} {g:Nat},liesAt P d e b c f g=Z->c<=b*P.cellsOf e
 |0,_,_,_,_,_,a=>by cases a
 | d+1,e,b,c,f,g,a=>by
   unfold liesAt at a;rw[qV]at a;rcases a with a|a
   ·exact aiS a
   split at a
   ·exact VP a
   cases a
structure Ht(P:Program)(t:TypeId)(au:Type)[ah au]:Prop where
 top:∀{H:Type} {enc:TypeId×Value->H} {W:World} {n b:Nat} {v:Value} {x:DataW H×List MemPlace},DataW.trod enc P W 0 (λ_=>Z) Z n t v.cells.toList=V x->Value.okWide P W .any b t v->∃a:au,(J.of a).holds [] W v
variable{P:cV}{t e:bH}
def aiT{a:aB}[ah a](q:P.underlying t=V (.slice e))(F:Arg P e a)(G:be (ah.size a) 0=bi){H:aB}{ab:bH×bt->H}{j:bj}{ac ad:Nat}{r:bt}{x:DataW H×R MemPlace}
 (o:DataW.trod ab P j 0 (λ_=>Z) Z ac t [r]=V x) (m:Cell.okWide P j .any ad t r):∃g:R a,(J.of g).holds [] j r:=by
 have ay:ah.size a≠0:=λo=>by rw[o]at G;cases G
 rcases DataW.trod_slice q o with⟨A,_⟩|⟨g,c,ae,az,rest,aA,_,A,_,_,aC,aD,aE,af,aF,_⟩
 ·have:=Tq.1 A
  subst this
  exact⟨[],oO.2 (.inl ⟨rfl,rfl⟩)⟩
 have:=Tq.1 A
 subst this
 unfold Cell.okWide at m
 simp only[q]at m
 unfold Cell.ok at m
 rw[q]at m
 obtain⟨_,_,_,I,ag,ai,k,aj⟩:=m
 obtain⟨K,b,aG⟩:=g
 simp only at I
 subst I
 unfold World.shape? at k
 cases p:j.heap[K]? with
 |none=>rw[p]at k;cases k
 | some ak=>
   rw[p]at k
   cases ak <;> simp at k
   rename_i d al am
   obtain⟨aH,aI⟩:=k
   have aJ:b<=d.size:=by
    have B:b<=_:=VP aj;have C:=Nat.div_mul_le_self ai (P.cellsOf ag);omega
   have an:=F.cells
   have D:∀i,i<c->∃g:a,ah.rep [] j ((d.toList.drop (b+i*ah.size a)).take (ah.size a)) g∧b+(i+1)*ah.size a<=d.size:=λi l=>by
    have B:=af i l;rw[vt (by omega)]at B;obtain⟨E,C,ao⟩:=xb.1 B;obtain⟨_,ap,L⟩:=World.cells?_some C;rw[an]at ap L C;have M:∀f,f<ah.size a->d[b+i*ah.size a+f]? =E[f]? :=λf n=>by
     rw[<-L f n,kD,kD];unfold World.cell?;simp[p]
    have aq:(d.toList.drop (b+i*ah.size a)).take (ah.size a)=E:=by
     apply ni;intro f;rw[nh];by_cases n:f<ah.size a
     ·rw[bT n,pr,Nd];exact M f n
     rw[bU n];symm;exact List.getElem?_eq_none (by omega)
    obtain⟨g,ar⟩:=F.read ao;refine⟨g,by rw[aq];exact ar,?_⟩;have N:=M (ah.size a-1) (by omega);rw[vt (show ah.size a-1<U E by omega)]at N;have:=(Bc.1 N).1;rw[oE];omega
   have au:∃h:R a,U h=c∧∀i (o:i<U h),ah.rep [] j ((d.toList.drop (b+i*ah.size a)).take (ah.size a)) h[i]:=by
    refine⟨List.ofFn λi:Fin c=>(D i.1 i.2).choose,by simp,λi l=>?_⟩;have av:i<c:=by simpa using l
    rw[List.getElem_ofFn];exact(D i av).choose_spec.1
   obtain⟨h,O,aw⟩:=au
   have ax:b+U h*ah.size a<=d.size:=by
    rw[O];rcases Nat.eq_zero_or_pos c with Q|Q
    ·rw[Q];omega
    have:=(D (c-1) (by omega)).choose_spec.2;rw[show c-1+1=c by omega]at this;exact this
   refine⟨h,oO.2 (.inr ⟨K,b,ae,d,al,am,by rw[O],by simp,p,by omega,by omega,ax,?_,λi l=>?_⟩)⟩
   ·rw[oz,qT];simp;omega
   have aa:(i+1)*ah.size a<=U h*ah.size a:=ij _ l
   rw[vI]at aa
   rw[Cr _ _ _ _ _ aa]
   exact aw i l
def Ht.ar2{au:aB}[ah au](hu:P.underlying t=V (.slice e))(he:Arg P e au)(MH:be (ah.size au) 0=bi):Ht P t (R au)where
 top {H enc W n b v x} h Sb:=by
  have Dy:Cell.okWide P W .any b t v:=by
   unfold Value.okWide at Sb;simp only[hu]at Sb;exact Sb
  have aqP:v.oneCell'=Z:=by
   unfold Cell.okWide at Dy;simp only[hu]at Dy;unfold Cell.ok at Dy;rw[hu]at Dy;cases v <;> first|rfl|simp at Dy
  rw[cells_one aqP]at h;exact aiT hu he MH h Dy
def Vk{f:aB}{l:bH×bt->f}{e:bj}{g:R bH}{h:R bt}{m:R (DataW f)}{r:R MemPlace}{i:aB}[ah i]{n:Nat}(A:Ht P t i)
 (B:DataW.TrodAll l P e 0 (λ_=>Z) Z (t::g) h m r) (p:∀(b:Nat) c a,(t::g)[b]? =V c->h[b]? =V a->Value.okWide P e .any n c a):
 ∃ (j:i) (a:bt) (k:R bt) (q:R (DataW f)) (C:R MemPlace) (d:DataW f),h=a::k∧m=d::q∧(J.of j).holds [] e a∧DataW.TrodAll l P e 0 (λ_=>Z) Z g k q C∧
   (∀(b:Nat) c w,g[b]? =V c->k[b]? =V w->Value.okWide P e .any n c w):=by
 obtain⟨a,D,d,E,M,F,rfl,rfl,rfl,⟨N,G⟩,H⟩:=trodAll_cons B
 obtain⟨j,I⟩:=A.top G (p 0 t a o o)
 exact⟨j,a,D,E,F,d,rfl,rfl,I,H,λb c w K L=>p (b+1) c w (by simpa using K) (by simpa using L)⟩
end Gv
namespace Gv
open Go
open List renaming length->U,replicate->bv,getElem?_cons_zero->bW,toList_toArray->bY,getElem?_cons_succ->b4,take_append_drop->ci,length_cons->cM,getElem_cons_drop->c0,append_assoc->c5,nil_append->dk,take_zero->dL
open Option renaming some->V,none->Y,isSome_none->cb,bind_some->cl,map_none->cn,map_some->co,some->c1,getD_some->df,any_some->dl
open Bool renaming true->Z,false->bi
open Go.Result renaming andThen_ok->a'
open Decidable renaming decide->bd
open Nat renaming beq->be,blt->bu,add_zero->bZ,ble->cd,sub_zero->d3,sub_mul->d7,blt_eq->d8,ble_eq->d9
open Go.Sem renaming run_pure->bm
open Go.Instr renaming sliceBounds->bx,sliceBound->bK,sliceAt->bL,sureAddr->bQ,slice->bS,storeAt->cm,loadAt->cr,fill->ct,indexAt->cA,build->c9,buildSlice->c',alloc->d5
open Go.Builtin renaming zeroCells->bB,firstCells->b2,lenOf->cF,clear_->c2,min_->d1,min2->d2
open Inhabited renaming default->b1
open _root_.Array renaming range->b3,length_toList->cw
open Go.Deferred renaming ofValue->b'
open Int renaming toNat_natCast->ce
open BitVec renaming le_def->dN
def agZ{c L:R aK}(d:c.Sublist L):(aP c).Sublist (aP L):=by
 induction d with
 |slnil=>simp[aP]
 |cons e _ a=>cases b:e.key <;> simp only[aP,b] <;> first|exact a|simp_all
 |cons_cons e _ a=>cases b:e.key <;> simp only[aP,b] <;> first|exact a|simp_all
def aK.v7{e:aK}{d f b c}(g:e.ok d b)(x:Ext d b f c)(j:∀a,e.key=V a->c.heap[a]? =b.heap[a]?):e.ok f c:=by
 unfold aK.ok at *;cases h:e.key with
 |none=>simp_all
 | some a=>
   rw[h]at g
   obtain⟨ak,k,i⟩:=g
   exact⟨ak,by simp_all,ft.mono _ x i⟩
def j4(g f:R Nat)(h:bj){aX:aB}(j:aX->J)(a:aX->R aK):Ending->bj->Prop:=λe b=>
 ∃i d,e=.returned i∧Fr g h b∧(aP (a d)).Nodup∧(∀c∈aP (a d),c<b.heap.size∧(c<h.heap.size->c∈g)∧c∉f)∧(∀e∈a d,e.ok (aP (a d)++f) b)∧(j d).holds (aP (a d)++f) b i
def bn(P:cV)(g:FuncId)(h:R J)(a:R aK){aX:aB}(i:aX->J)(j:aX->R aK):Prop:=
 ∀ (c:R Nat) (b:bj) (f:R bt),(∀d∈c,d<b.heap.size∧d∉aP a)->(aP a).Nodup->(∀d∈aP a,d<b.heap.size)->(∀e∈a,e.ok (aP a++c) b)->ha (aP a++c) b h f->
   Calls P g f.toArray b (j4 (aP a) c b i j)
def bn.of{P:cV}{g:FuncId}{a:Func}{h:ec}{b:Nat}{c:R J}{d:R aK}{aX:aB}{i:aX->J}{j:aX->R aK}(l:P.funcs[g]? =V a)(m:a.body=V h)(aQ:a.ntmps=b)(n:cd c.length b=Z)
 (o:∀e f,ar ⟨P,b,e,aP d,f,Y,[]⟩ (bodyPost P a (j4 (aP d) f e i j)) h (params 0 c) d):bn P g c d i j:=by
 intro f e E p q r A k
 refine Jr l m (wpIn_wide.1 (o e f _ _ ?_))
 have F:=k.length
 have G:c.length<=b:=pq n
 exact
 {defers:=rfl
  size:=by simp_all
  env:=λt B C=>by
   obtain⟨_,H,I,K⟩:=zR k 0 t B C;grind
  ey:=.refl _ _
  own:=A
  nodup:=q
  lt:=r
  gl:=λL D _=>D
  eW:=p}
def bn.ak{P:cV}{e:FuncId}{a:Func}{f:ec}{c:Nat}{d:R J}{b:R aK}{aX:aB}{g:aX->J}{i:aX->R aK}
 (h:∀j k,ar ⟨P,c,j,aP b,k,Y,[]⟩ (bodyPost P a (j4 (aP b) k j g i)) f (params 0 d) b)
 (l:P.funcs[e]? =V a:=by rfl) (ax:a.body=V f:=by rfl) (aQ:a.ntmps=c:=by conv=>lhs;whnf) (m:cd (U d) c=Z:=by rfl):bn P e d b g i:=.of l ax aQ m h
section
variable{c:cX}{E:R (Nat×J)}{L:R aK}{ops:bE bA}{Q:cK->cg->bj->Prop}
variable{d:aw Tmp}{ty:bH}{pos:String}{a1:bE Edge}{g:aw (Nat×aI)}{x y:cx}{t t2:bH}
def qG(c:cX)(E:R (Nat×J))(L:R aK)(e:ResultVar)(f:J):Prop:=
 ∀b a,b0 c E L b a->∃d,(Aq b.tmps e).run c.P a=.ok d a∧f.holds (aP L++c.cv) a d
def dO{t:Nat}{a:J}(b:look E t=V a):qG c E L (.tmp t) a:=λe f d=>by
 obtain⟨g,h,i⟩:=d.env t a b;simp_all[Aq]
def mU{t:Nat}{ty:bH}{i b:Nat}{a:aB}[ah a]{x:a}(f:bR c.P ty a)(g:look E t=V (.eq (.pointer (V ⟨b,0,Y⟩))))(h:L[i]? =V ⟨V b,.var x⟩):qG c E L (.cell t ty) (.of x):=λo p d=>by
 obtain⟨j,q,k⟩:=d.env t _ g;subst k;obtain⟨r,l,e,B,rfl,m⟩:=d.own _ (fM h);have n:U e.toList=ah.size a:=ah.len m;have C:e.size=ah.size a:=by omega
 obtain⟨j,D,F⟩:=zL (A:=aP L++c.cv) (off:=0) f l (by omega) (by rw[xp,<-n,mJ];omega);simp_all[Aq,asAddr]
def b0.ends{k:cg}{d:bj}(b:b0 c E L k d){aX:aB}{gS:aX->J}{nP:aX->R aK}(a8:aX)(aR:(nP a8).Sublist L){h:bt}(l:(gS a8).holds (aP L++c.cv) d h):j4 c.X c.cv c.pV gS nP (.returned h) d:=by
 have i:=agZ aR;have f:∀a∈aP (nP a8),a∈aP L:=λa f=>i.subset f;have j:Ext (aP L++c.cv) d (aP (nP a8)++c.cv) d:=.drop λa g=>by
  grind
 exact⟨h,a8,rfl,b.ey,b.nodup.sublist i,λa g=>⟨b.lt a (f a g),b.gl a (f a g),λm=>(b.eW a m).2 (f a g)⟩,
  λe n=>aK.v7 (b.own e (aR.subset n)) j λ_ _=>rfl,J.mono _ j l⟩
def fv{L aD:R aK}(a:Nat)(h:L.drop a=aD:=by rfl):aD.Sublist L:=h▸List.drop_sublist a L
def af.fa{b:Func}{d:ResultVar}{e:J}{aX:aB}{f:aX->J}{g:aX->R aK}(a8:aX)(aR:(g a8).Sublist L)(aF:b.results= #[d])(i:f a8=e)(h:qG c E L d e)(j:c.ds=[]:=by rfl):af c (bodyPost c.P b (j4 c.X c.cv c.pV f g)) .ret E L:=λk l a=>by
 subst i;obtain⟨m,o,n⟩:=h k l a;exact⟨a.Ad j,m,by simp_all[zT],a.ends a8 aR n⟩
def af.mo{b:Func}{d e:ResultVar}{f g:J}{aX:aB}{i:aX->J}{j:aX->R aK}(a8:aX)(aR:(j a8).Sublist L)(aF:b.results= #[d,e])(m:i a8=.bO [f,g])(h:qG c E L d f)(n:qG c E L e g)(o:c.ds=[]:=by rfl):af c (bodyPost c.P b (j4 c.X c.cv c.pV i j)) .ret E L:=λk l a=>by
 obtain⟨p,B,q⟩:=h k l a;obtain⟨r,C,A⟩:=n k l a;exact⟨a.Ad o,.tuple #[p,r],by simp_all[zT],a.ends a8 aR (by rw[m];exact⟨_,rfl,.cons q (.cons A .nil)⟩)⟩
def af.ZQ{e:Func}{f g i:ResultVar}{j k l:J}{aX:aB}{m:aX->J}{n:aX->R aK}(a8:aX)(aR:(n a8).Sublist L)(aF:e.results= #[f,g,i])(o:m a8=.bO [j,k,l])(h:qG c E L f j)(p:qG c E L g k)(q:qG c E L i l)(r:c.ds=[]:=by rfl):af c (bodyPost c.P e (j4 c.X c.cv c.pV m n)) .ret E L:=λb d a=>by
 obtain⟨A,H,B⟩:=h b d a;obtain⟨C,I,D⟩:=p b d a;obtain⟨F,K,G⟩:=q b d a;exact⟨a.Ad r,.tuple #[A,C,F],by simp_all[zT],a.ends a8 aR (by rw[o];exact⟨_,rfl,.cons B (.cons D (.cons G .nil))⟩)⟩
def xJ:∀{L:R aK} {i:Nat} {e:aK},L[i]? =V e->L.Perm (e::L.eraseIdx i)
 |[],i,e,a=>by simp at a
 |x::b,0,e,a=>by simp_all
 | x::b,i+1,e,a=>by
   simp only[b4]at a;exact((xJ a).cons x).trans (.swap e x _)
def b0.aO{a:cg}{b:bj}(d:b0 c E L a b){i:Nat}{e:aK}(f:L[i]? =V e):b0 c E (e::L.eraseIdx i) a b:=d.perm (xJ f)
def aa.aO{a:R bA}(i:Nat){e:aK}(b:L[i]? =V e)(d:aa c ops Q a E (e::L.eraseIdx i)):aa c ops Q a E L:=λf g h=>d f g (h.aO b)
def af.aO{a:cK}(i:Nat){e:aK}(b:L[i]? =V e)(d:af c Q a E (e::L.eraseIdx i)):af c Q a E L:=λf g h=>d f g (h.aO b)
def b0.after{p:cg}{h j:bj}{k b9:R aK}(d:b0 c E (k++b9) p h){i:R aK}(f:Fr (aP k) h j)(N:(aP i).Nodup)
 (H:∀a∈aP i,a<j.heap.size∧(a<h.heap.size->a∈aP k)∧a∉aP b9++c.cv) (O:∀e∈i,e.ok (aP i++(aP b9++c.cv)) j):b0 c E (i++b9) p j:=by
 have q:Ext (aP (k++b9)++c.cv) h (aP (i++b9)++c.cv) j:=
  ⟨f.size,λa g I=>f.block a g λb=>I (by simp_all[fF]),λa b g=>by
   rw[fF]at b⊢;simp only[eN]at b⊢;rcases b with(b|b)|b
   ·exact .inl (.inl ((H a b).2.1 g))
   ·exact .inl (.inr b)
   exact .inr b⟩
 have r:=d.nodup
 rw[fF]at r
 obtain⟨P,Q,J⟩:=rZ.1 r
 have A:∀a∈aP b9,a<h.heap.size∧a∉aP k:=λa b=>⟨d.lt a (by simp_all[fF]),λB=>J a B a b o⟩
 exact
 {defers:=d.defers
  size:=d.size
  env:=λt C K=>let⟨L,m,D⟩:=d.env t C K; ⟨L,m,C.mono q D⟩
  ey:=⟨f.os.trans d.ey.os,f.tape.trans d.ey.tape,f.output.trans d.ey.output,mK d.ey.drawn f.drawn,mK d.ey.size f.size,λa g F=>
   (f.block a (qQ g d.ey.size) λb=>F (d.gl a (by simp_all[fF]) g)).trans (d.ey.block a g F)⟩
  own:=λe l=>by
   rcases eN.1 l with l|l
   ·simp_all[fF,eN]
   exact aK.v7 (d.own e (eN.2 (.inr l))) q λG M=>by
    have:=A G (tv.2 ⟨e,l,M⟩);exact f.block G this.1 this.2
  nodup:=by
   grind[fF]
  lt:=λa b=>by
   rw[fF]at b;rcases eN.1 b with b|b
   ·simp_all
   exact qQ (A a b).1 f.size
  gl:=λa b n=>by
   rw[fF]at b;have g:a<h.heap.size:=qQ n d.ey.size;rcases eN.1 b with b|b
   ·exact d.gl a (by simp_all[fF]) n
   exact d.gl a (by simp_all[fF]) n
  eW:=λa b=>by
   obtain⟨m,D⟩:=d.eW a b;refine⟨qQ m f.size,λB=>?_⟩;simp_all[fF]}
def iu.Yx{d:R cx}{e:R J}(f:iu c E L d e){a:cg}{b:bj}(g:b0 c E L a b):ha (aP L++c.cv) b e (d.map a.eval):=f.holds a b g
def Gq{i:cg}{b:bj}{k:FuncId}{l:R cx}{j7:bE bH}{B:R J}{dJ b9:R aK}{aX:aB}{m:aX->J}{n:aX->R aK}(H:bk c.P k)(p:bn c.P k B dJ m n)
 (j:b0 c E (dJ++b9) i b) (I:ha (aP (dJ++b9)++c.cv) b B (l.map i.eval)):
 hr c.P ⟨d,.call ⟨.value (.func k),l.toArray,j7⟩,ty,pos,a1,g⟩ i b λq r=> ∃a8,b0 c E (n a8++b9) i r∧(m a8).holds (aP (n a8++b9)++c.cv) r q:=by
 have C:=j.nodup
 rw[fF]at C
 obtain⟨K,aa,L⟩:=rZ.1 C
 have D:Ext (aP (dJ++b9)++c.cv) b (aP dJ++(aP b9++c.cv)) b:=.drop λa h=>by
  simp_all[fF,eN]
 have M:∀a∈aP b9++c.cv,a<b.heap.size∧a∉aP dJ:=λa h=>by
  rcases eN.1 h with h|h
  ·exact⟨j.lt a (by simp_all[fF]),λp=>L a p a h o⟩
  obtain⟨F,G⟩:=j.eW a h;simp_all[fF]
 have N:∀a∈aP dJ,a<b.heap.size:=λa h=>j.lt a (by simp_all[fF])
 refine .uD (f:=k) (args:=(l.map i.eval).toArray) (dE:=b) (by simp[execOp,resolve,b',Act.eval,invoke,H.run]) ?_
 refine(p (aP b9++c.cv) b (l.map i.eval) M K N (λe A=>aK.v7 (j.own e (eN.2 (.inl A))) D λ_ _=>rfl) (I.mono D)).mono λe r ⟨q,a8,A,O,F,G,P,Q⟩=>?_
 refine⟨q,A,a8,j.after O F G P,(m a8).mono (.drop λa h=>?_) Q⟩
 simp_all[fF,eN]
def aa.kG{rest:R bA}{a8:Nat}{b:FuncId}{xs:R cx}{j7:bE bH}{d:R J}{dJ b9:R aK}{aX:aB}{e:aX->J}{f:aX->R aK}(h:bk c.P b)(i:bn c.P b d dJ e f)
 (j:iu c E (dJ++b9) xs d) (aQ:bu a8 c.n=Z) (k:∀a,aa c ops Q rest ((a8,e a)::E) (f a++b9)):
 aa c ops Q (⟨V a8,.call ⟨.value (.func b),xs.toArray,j7⟩,ty,pos,a1,Y⟩::rest) E (dJ++b9):=λl m g=>
 jb o (Gq h i g (j.holds l m g)) λq r ⟨a,n,p⟩=>k a _ _ (n.put (by simp_all) p)
end
def eZ{a:aB}(b:R a)(c:Nat)(d:a):R a:=b.set c d
section
variable{c:cX}{E:R (Nat×J)}{L:R aK}{ops:bE bA}{Q:cK->cg->bj->Prop}
variable{d:aw Tmp}{ty:bH}{pos:String}{a1:bE Edge}{g:aw (Nat×aI)}{x y:cx}{t t2:bH}
def b0.rowAt{l:cg}{f:bj}(m:b0 c E L l f){i:Nat}{g:aw Nat}{j b:Nat}{d:aB}[ah d]{a:R d}(n:L[i]? =V ⟨g,.row j a b⟩)(o:0<U a):
 ∃h e,g=V h∧f.heap[h]? =V (.cells e j (0,0))∧e.size=b*ah.size d∧U a<=b∧b<=maxLen∧hP (aP L++c.cv) f (e.toList.take (U a*ah.size d)) a:=by
 have k:=m.own _ (fM n)
 cases g with
 |none=>have:a=[]:=k.1;simp_all
 | some h=>
   obtain⟨ak,p,e,rfl,q,r,A,B⟩:=k
   simp_all
def jx{e i k n j:Nat}{b:aw Nat}{a:aB}[ah a]{xs:R a}{l:Int}(o:c.P.underlying t=V (.slice e))(p:bR c.P e a)(q:aN c E L x (.eq (aH b (U xs) j)))(r:aN c E L y (.of l))
 (A:L[i]? =V ⟨b,.row n xs j⟩) (B:k<U xs∧l=k):aZ c E L ⟨d,.indexAddr t x y,ty,pos,a1,g⟩ (.eq (.pointer (V ⟨b.getD 0,k*ah.size a,Y⟩))):=.pure λf m h=>by
 obtain⟨C,rfl⟩:=B
 obtain⟨I,J,rfl,_⟩:=h.rowAt A (by omega)
 have D:f.eval x=_:=q f m h
 have F:=of_int.1 (r f m h)
 obtain⟨K,G,H⟩:=p.info
 exact⟨_,by simp[execOp,cA,asIntOf,dZ o,D,F,C,Go.sizeOf,typeInfo,G,H,kD,aH];rfl,by rfl⟩
def C5{a b s:Nat}(c:a<b):a*s+s<=b*s:=by rw[<-vI];exact ij _ c
def mh{i k p j ak:Nat}{l:aw Nat}{a f:aB}[ah a][Inhabited a][ah f]{e:R a}(b:aG a f){r:f}(q:bR c.P t f)(B:aN c E L x (.eq (.pointer (V ⟨l.getD 0,ak,Y⟩))))
 (C:L[i]? =V ⟨l,.row p e j⟩) (h:k<U e) (D:ak=k*ah.size a+b.off) (aF:b.get (al e k)=r):aZ c E L ⟨d,.load t x,ty,pos,a1,g⟩ (.of r):=.pure λm F n=>by
 subst D;subst aF
 obtain⟨J,K,rfl,G,M,H,N,I⟩:=n.rowAt C (by omega)
 have O:=C5 (s:=ah.size a) h
 have P:=b.hD
 have Q:U e*ah.size a<=j*ah.size a:=ij _ H
 have o:=b.jK (I.2 k h)
 rw[Cr _ _ _ _ _ b.hD,vD,sb,qU (by omega)]at o
 rw[dI e h]
 obtain⟨aa,ab,ac⟩:=zL (A:=aP L++c.cv) q G (off:=k*ah.size a+b.off) (by omega) o
 have ad:m.eval x=_:=B m F n
 simp_all[df,execOp,cr,bQ]
def aa.uJ{rest:R bA}{i k B j ak:Nat}{m:aw Nat}{a h:aB}[ah a][Inhabited a][ah h]{d r:R a}{v:h}(b:aG a h)(H:bR c.P t h)(I:aN c E L x (.eq (.pointer (V ⟨m.getD 0,ak,Y⟩))))(J:aN c E L y (.of v))
 (C:L[i]? =V ⟨m,.row B d j⟩) (n:k<U d) (K:ak=k*ah.size a+b.off) (aF:eZ d k (b.set (al d k) v)=r)
 (M:aa c ops Q rest E (L.set i ⟨m,.row B r j⟩)):aa c ops Q (⟨Y,.store t x y,ty,pos,a1,Y⟩::rest) E L:=λg p l=>by
 subst K;subst aF
 obtain⟨N,f,rfl,D,am,O,P,F⟩:=l.rowAt C (by omega)
 have an:=C5 (s:=ah.size a) n
 have ao:=b.hD
 have ap:U d*ah.size a<=j*ah.size a:=ij _ O
 have q:=J g p l
 have ab:U (g.eval y).cells.toList=ah.size h:=ah.len q.2
 have aq:=JM (A:=aP L++c.cv) H D (off:=k*ah.size a+b.off) (by omega) q
 have ac:g.eval x=_:=I g p l
 simp only[df]at ac
 refine jb o (hh:=λv G=>G=p.setRow N (h3 f.toList (k*ah.size a+b.off) (g.eval y).cells.toList).toArray) (.CP ?_ o) λar G ad=>?_
 ·simp_all[execOp,cm,bQ]
 subst ad
 refine M _ _ (l.store C D ?_)
 have au:U f.toList=j*ah.size a:=by omega
 have av:U (h3 f.toList (k*ah.size a+b.off) (g.eval y).cells.toList)=U f.toList:=by
  grind[h3]
 refine⟨_,rfl,by simp_all,by simp_all[eZ],P,?_⟩
 have ae:=F.2 k n
 have af:=b.nt ae q.2
 have ag:=Px F n af
 have ax:U (f.toList.take (U d*ah.size a))=U d*ah.size a:=by simp_all
 rw[VM _ _ _ _ _ _ b.hD (by omega)]at ag
 have ai:U (eZ d k (b.set (al d k) v))=U d:=by simp[eZ]
 rw[ai,bY]
 have e:(h3 f.toList (k*ah.size a+b.off) (g.eval y).cells.toList).take (U d*ah.size a)=
  (f.toList.take (U d*ah.size a)).take (k*ah.size a+b.off)++(g.eval y).cells.toList++(f.toList.take (U d*ah.size a)).drop (k*ah.size a+b.off+ah.size h):=by
  have ay:U (f.toList.take (k*ah.size a+b.off))=k*ah.size a+b.off:=by grind
  have aj:U (f.toList.take (k*ah.size a+b.off)++(g.eval y).cells.toList)=k*ah.size a+b.off+ah.size h:=by simp_all
  rw[h3,ab,IP,aj,rS (by omega),sb,qU (by omega),vD]
 simp_all[eZ,dI]
def jf(d:aw Nat)(a e b f:Nat):bt:=match d with
 |some c=>.slice (V (if b=a then⟨c,0,Y⟩else⟨c,a*f,Y⟩)) e (b-a)
 |none=>.slice Y 0 0
def CD{a:aw Nat}{b c d:Nat}:jf a 0 b c d=aH a b c:=by
 cases a <;> simp[jf,aH]
def GC{i aa r:Nat}{A:aw Nat}{B:aB}[ah B]{xs:R B}{e:bH}{I J:aw cx}{m n:Nat}{N O:Int}(o:c.P.underlying t=V (.slice e))(ab:bR c.P e B)(ac:aN c E L x (.eq (aH A (U xs) r)))
 (j:L[i]? =V ⟨A,.row aa xs r⟩) (p:vp c E L I N 0) (k:vp c E L J O (U xs)) (ad:N=m) (aQ:O=n) (ae:m<=n∧n<=U xs):
 aZ c E L ⟨d,.slice t x I J Y,ty,pos,a1,g⟩ (.eq (jf A m (n-m) r (ah.size B))):=.pure λf a h=>by
 subst ad;subst aQ
 obtain⟨af,C⟩:=ae
 obtain⟨al,D,F⟩:=ab.info
 have q:f.eval x=_:=ac f a h
 have P:=h.own _ (fM j)
 cases A with
 | none=>
   have ag:xs=[]:=P.1
   subst ag
   have ai:n=0:=by simp_all
   have G:m=0:=by omega
   subst ai
   subst G
   refine⟨.slice Y 0 0,?_,rfl⟩
   have j:(match I.map f.eval with |some b=>bK b 0 .sliceB|none=>pure 0:Sem Nat).run c.P a=.ok 0 a:=by
    cases p with
    |none=>rfl
    |some l=>exact qi (jT _) (of_int.1 (l f a h))
   have H:(match J.map f.eval,(Y:aw bt) with | some b,V _=>bK b 0 .slice3B | some b,Y=>bK b 0 .sliceAcap | none,Y=>pure 0 | none,V _=>stuck "Slice: max without high" :Sem Nat).run c.P a= .ok 0 a:=by
    cases k with
    |none=>rfl
    |some l=>exact qi (jT _) (of_int.1 (l f a h))
   cases p <;> cases k
   all_goals
    simp only[aH,execOp,bL,bS,bx,q,eH,dZ o,a',cn,co,cb,qP,nV,l7,bm]at j H⊢
    simp_all[a',Go.sizeOf,typeInfo,eH,run_program,bm]
 | some am=>
   obtain⟨ak,an,ao,rfl,ap,aq,ar,au⟩:=P
   refine⟨_,?_,rfl⟩
   simp only[jf]
   have j:∀b,b=Value.int .i64 m->(bK b n .sliceB).run c.P a=.ok m a:=λb K=>qi af K
   have H:∀b,b=Value.int .i64 n->(bK b r .sliceAcap).run c.P a=.ok n a:=λb K=>qi (by omega) K
   generalize Q:(n:Int)=Sx at k
   generalize aj:(m:Int)=Sy at p
   generalize av:(U xs:Int)=Sz at k
   generalize ax:(0:Int)=SA at p
   cases p with
   | none=>
     have G:m=0:=by omega
     cases k with
     | none=>
       have C:n=U xs:=by omega
       subst C
       subst G
       simp[execOp,bL,bS,bx,q,aH,dZ o,Go.sizeOf,typeInfo,D,F,kD]
     | some M=>
       subst Q
       subst G
       simp[execOp,bL,bS,bx,q,aH,dZ o,Go.sizeOf,typeInfo,D,F,kD,H _ (of_int.1 (M f a h))]
   | some l=>
     subst aj
     cases k with
     | none=>
       have C:n=U xs:=by omega
       subst C
       simp[execOp,bL,bS,bx,q,aH,dZ o,Go.sizeOf,typeInfo,D,F,kD,j _ (of_int.1 (l f a h))]
       split <;> rfl
     | some M=>
       subst Q
       simp[execOp,bL,bS,bx,q,aH,dZ o,Go.sizeOf,typeInfo,D,F,kD,j _ (of_int.1 (l f a h)),H _ (of_int.1 (M f a h))]
       split <;> rfl
def b0.again{j:cg}{f:bj}(a:b0 c E L j f){i:Nat}{g:aw Nat}{h iv:ft}(k:L[i]? =V ⟨g,h⟩)(n:∀l f ak,h.holds l f ak->iv.holds l f ak)(aQ:h.oX->iv.oX):b0 c E (L.set i ⟨g,iv⟩) j f:=by
 have b:aP (L.set i ⟨g,iv⟩)=aP L:=Ln (e:=⟨g,h⟩) (gg:=iv) k;exact
 {defers:=a.defers
  size:=a.size
  env:=λt o p=>by rw[b];exact a.env t o p
  ey:=a.ey
  own:=λe q=>by
   rw[b];obtain⟨B,d⟩:=ow.1 q;rw[Bu]at d;split at d
   ·split at d
    ·simp only[iG]at d;subst d;have m:=a.own _ (fM k);cases g with
     |none=>exact aQ m
     |some C=>obtain⟨ak,r,A⟩:=m;exact⟨ak,r,n _ _ _ A⟩
    simp_all
   exact a.own e (fM d)
  nodup:=by rw[b];exact a.nodup
  lt:=by rw[b];exact a.lt
  gl:=by rw[b];exact a.gl
  eW:=by rw[b];exact a.eW}
def KD{d c n:Nat}{a:aB}[ah a]{b:R a}(aQ:n<=U b){e f ak}(h:(ft.row d b c).holds e f ak):(ft.row d (b.take n) c).holds e f ak:=by
 obtain⟨g,rfl,j,k,l,m⟩:=h;have o:U (b.take n)=n:=by simp_all
 have q:n*ah.size a<=U b*ah.size a:=ij _ aQ;have r:U b*ah.size a<=c*ah.size a:=ij _ k;refine⟨g,rfl,j,by omega,l,?_⟩;rw[o];have A:U g.toList=c*ah.size a:=by omega
 refine⟨by grind,λi B=>?_⟩;have p:i<n:=by omega
 have C:=C5 (s:=ah.size a) p;have:=m.2 i (by omega);rw[vD,sb,qU (by omega)]at this⊢;rw[EC];exact this
def aa.aoA{j:R bA}{i f b n:Nat}{d:aw Nat}{g:aB}[ah g]{xs r:R g}(a8:Nat)(q:look E a8=V (.eq (jf d 0 (n-0) b (ah.size g))))(A:L[i]? =V ⟨d,.row f xs b⟩)(aQ:n<=U xs)(aF:xs.take n=r)
 (B:aa c ops Q j ((a8,.eq (aH d (U r) b))::E) (L.set i ⟨d,.row f r b⟩)):aa c ops Q j E L:=λC D k=>by
 subst aF
 have F:U (xs.take n)=n:=by simp_all
 have l:=k.again A (λ_ _ _ G=>KD aQ G) (iv:=.row f (xs.take n) b) (λ⟨m,h⟩=>⟨by simp_all,h⟩)
 refine B C D {l with env:=λt H a=>?_}
 simp only[look]at a
 by_cases e:be a8 t=Z
 ·rw[e]at a
  simp only[cond_true,iG]at a
  subst a
  have:=kb.1 e
  subst this
  obtain⟨o,m,h⟩:=k.env a8 _ q
  refine⟨o,m,?_⟩
  have p:o=_:=h
  rw[d3,CD]at p
  rw[F]
  exact p
 simp only[qc]at e
 rw[e]at a
 exact l.env t H a
end
def uN{a:aB}[Inhabited a](b:R a)(c d:Nat):R a:=b.take c++bv d b1++b.drop (c+d)
def VQ{a:aB}[ah a]{d f}{g h:R bt}{b c:R a}{dK:Nat}(j:hP d f g b)(k:hP d f h c)(p:dK+U c<=U b):
 hP d f (g.take (dK*ah.size a)++h++g.drop (dK*ah.size a+U h)) (b.take dK++c++b.drop (dK+U c)):=by
 have q:=j.1
 have r:dK*ah.size a<=U b*ah.size a:=ij _ (by omega)
 have m:hP d f (g.take (dK*ah.size a)) (b.take dK):=by
  have e:U (b.take dK)=dK:=by grind
  refine⟨by simp_all,λi l=>?_⟩;have n:i<dK:=by omega
  have:=j.2 i (by omega);have A:=C5 (s:=ah.size a) n;rw[vD,sb,qU (by omega),EC];exact this
 have o:hP d f (g.drop (dK*ah.size a+U h)) (b.drop (dK+U c)):=by
  have e:dK*ah.size a+U h=(dK+U c)*ah.size a:=by rw[k.1,oE]
  rw[e];refine⟨by simp_all[qT,d7],λi l=>?_⟩;rw[qT]at l;have:=j.2 (dK+U c+i) (by omega);simp_all[TZ,oE,List.getElem_drop]
 exact xG (xG m k) o
section
variable{c:cX}{E:R (Nat×J)}{L:R aK}{ops:bE bA}{Q:cK->cg->bj->Prop}
variable{d:aw Tmp}{ty:bH}{pos:String}{a1:bE Edge}{g:aw (Nat×aI)}{x y:cx}{t t2:bH}
def aa.clear{rest:R bA}{i e r g dK n:Nat}{h:aw Nat}{a:aB}[ah a][Inhabited a]{xs J:R a}(A:c.P.underlying t=V (.slice e))(ay:bR c.P e a)(ac:dn c.P e (b1:a))(az:be (ah.size a) 0=bi)
 (ad:aN c E L x (.eq (jf h dK n g (ah.size a)))) (B:L[i]? =V ⟨h,.row r xs g⟩) (aQ:dK+n<=U xs) (aF:uN xs dK n=J)
 (m:aa c ops Q rest E (L.set i ⟨h,.row r J g⟩)):aa c ops Q (⟨Y,.call ⟨.builtin .clear,#[x],#[t]⟩,ty,pos,a1,Y⟩::rest) E L:=λp d k=>by
 subst aF
 have C:p.eval x=_:=ad p d k
 have ae:=k.own _ (fM B)
 have aA:∀K,L.set i ⟨h,K⟩=L.set i ⟨h,K⟩:=λ_=>rfl
 by_cases f:n=0∨h=Y
 ·have af:uN xs dK n=xs:=by
   rcases f with f|f
   ·simp_all[uN]
   subst f;have:xs=[]:=ae.1;simp_all[uN]
  have F:(execOp p.eval ⟨Y,.call ⟨.builtin .clear,#[x],#[t]⟩,ty,pos,a1,Y⟩).run c.P d=.ok (.value (.tuple #[])) d:=by
   rcases f with f|f
   ·subst f;cases h <;> simp[execOp,resolve,invoke,builtin,c2,C,jf,dZ A]
   subst f;simp[execOp,resolve,invoke,builtin,c2,C,jf,dZ A]
  refine jb o (hh:=λG l=>l=d) (.lK F o) λG l H=>?_
  subst H
  rw[af]at m
  have:L.set i ⟨h,.row r xs g⟩=L:=by
   apply ni;grind
  rw[this]at m
  exact m _ _ k
 have aC:0<n:=by
  omega
 obtain⟨I,b,rfl,M,aD,ag,ai,aj⟩:=k.rowAt B (by omega)
 obtain⟨aE,j,ak,al,am⟩:=ac.zero
 have N:=am (aP L++c.cv) d
 have aG:U j.cells.toList=ah.size a:=ah.len N.2
 have an:ah.size a≠0:=λaH=>by simp_all
 have q:=Gw N n an
 have aI:j.cells.size=ah.size a:=by omega
 have ao:bB j.cells n=(b3 (n*ah.size a)).map (j.cells[· % j.cells.size]!):=by grind[bB]
 rw[<-ao]at q
 generalize ap:(bB j.cells n).toList=D at q
 have aJ:U D=n*ah.size a:=by grind
 have aq:g≠dK:=by omega
 have ar:(dK+n)*ah.size a<=g*ah.size a:=ij _ (by omega)
 rw[oE]at ar
 have O:=EE (P:=c.P) I (dK*ah.size a) _ D 0 b d M (by omega) q.one
 have F:(execOp p.eval ⟨Y,.call ⟨.builtin .clear,#[x],#[t]⟩,ty,pos,a1,Y⟩).run c.P d=.ok (.value (.tuple #[])) (d.setRow I (h3 b.toList (dK*ah.size a) D).toArray):=by
  obtain⟨ab,rfl⟩:∃ab,n=ab+1:=⟨n-1,by omega⟩;simp only[bZ]at O;simp[execOp,resolve,invoke,builtin,c2,C,jf,dZ A,aq,zeroValue,typeInfo,run_program,ak,al,ap,O,h3]
 refine jb o (hh:=λG l=>l=d.setRow I (h3 b.toList (dK*ah.size a) D).toArray) (.lK F o) λG l H=>?_
 subst H
 refine m _ _ (k.store B M ?_)
 have aK:U b.toList=g*ah.size a:=by omega
 have au:U (uN xs dK n)=U xs:=by grind[uN]
 have aL:U (b.toList.take (U xs*ah.size a))=U xs*ah.size a:=by
  simp_all
 have av:(dK+n)*ah.size a<=U xs*ah.size a:=ij _ aQ
 rw[oE]at av
 have aM:U xs*ah.size a<=g*ah.size a:=ij _ ag
 refine⟨_,rfl,?_,by omega,ai,?_⟩
 ·grind[h3]
 rw[au,bY]
 have aO:=VQ (dK:=dK) aj q (by simp_all)
 have e:(h3 b.toList (dK*ah.size a) D).take (U xs*ah.size a)=(b.toList.take (U xs*ah.size a)).take (dK*ah.size a)++D++(b.toList.take (U xs*ah.size a)).drop (dK*ah.size a+U D):=by
  have aR:U (b.toList.take (dK*ah.size a))=dK*ah.size a:=by grind
  have ax:U (b.toList.take (dK*ah.size a)++D)=dK*ah.size a+U D:=by simp_all
  rw[h3,IP,ax,rS (by omega),sb,qU (by omega),vD]
 simp_all[uN]
def b0.share{g:cg}{h:bj}(b:b0 c E L g h){i d f:Nat}{au:aB}[ah au]{j:au}(n:look E d=V (.eq (.pointer (V ⟨f,0,Y⟩))))(k:L[i]? =V ⟨V f,.var j⟩):b0 c ((d,.ptr j)::E) (L.set i ⟨Y,.dead⟩) g h:=by
 have l:=b.kill i;refine {l with env:=λt o a=>?_};simp only[look]at a;by_cases e:be d t=Z
 ·rw[e]at a;simp only[cond_true,iG]at a;subst a;have:=kb.1 e;subst this;obtain⟨p,q,r⟩:=b.env d _ n;have A:p=_:=r;subst A;obtain⟨ak,B,m,C,rfl,aF⟩:=b.own _ (fM k);have D:U m.toList=ah.size au:=ah.len aF;refine⟨_,q,f,0,m,C,(0,0),rfl,b.GD k,B,by simp_all,?_⟩;rw[xp,<-D,mJ];have F:=Cb (L:=L) (i:=i) (gg:=.dead);exact ah.mono (.drop λG H=>by
   grind) aF
 simp only[qc]at e;rw[e]at a;exact l.env t o a
def aa.share{a:R bA}{b:Nat}{au:aB}[ah au]{d:au}(i e:Nat)(f:look E e=V (.eq (.pointer (V ⟨b,0,Y⟩))))(g:L[i]? =V ⟨V b,.var d⟩)(h:aa c ops Q a ((e,.ptr d)::E) (L.set i ⟨Y,.dead⟩)):aa c ops Q a E L:=
 λj k l=>h j k (l.share f g)
def Al{i j:aB}[ah i][ah j]{F:i->aw j}{a:FuncId}{b:R cx}{dF:R J}(k:bk c.P a)(l:iu c E L b dF)(m:∀x f,F x=V f->cf c.P a (.of x::dF) (.of f)):
 aZ c E L ⟨d,.makeFunc (.func a) #[] b.toArray,ty,pos,a1,g⟩ (.nE c.P F):=.pure λh n o=>by
 have p:=l.holds h n o
 refine⟨.func (.func a) #[] (b.map h.eval).toArray,by simp[execOp,Instr.makeFunc],a,_,_,rfl,k,λq r e A x f B C D=>?_⟩
 simpa using m x f C q r (B::b.map h.eval) A (.cons D (p.mono e))
def J.Flat(a:J):Prop:=∀c d e f b,a.holds c d b->a.holds e f b
def Gt{a:aI}:(J.of a).Flat:=λ_ _ _ _ _ b=>b
def tm{a:Int}:(J.of a).Flat:=λ_ _ _ _ _ b=>b
def aZ.Hl{ak:bA}{a:J}{g d:Nat}{e:aw Nat}{au:aB}[ah au]{b:R au}(i f:Nat)(h:look E f=V (.eq (aH e (U b) d)))(j:L[i]? =V ⟨e,.row g b d⟩)(k:a.Flat)
 (l:aZ c ((f,.of b)::E) (L.set i ⟨Y,.dead⟩) ak a):aZ c E L ak a:=λm n o=>by
 have:=l m n (o.freeze h j)
 unfold hr at this⊢
 exact sd (λB C ⟨p,q,r,A⟩=>⟨p,q,r,k _ _ _ _ _ A⟩) this
def J.aaY{au:aB}(xs:R au):J where
 holds _ _ v:=∃b:aI,v=.bool b∧(b=Z->xs=[])
 mono _ h:=h
def Vl{P:cV}{e:bH}(b:bj)(d:Nat){t:bH}(a:aw Addr)(c f:Nat)(g:P.underlying t=V (.slice e)):(Op.equalIn (d+1) t (.slice a c f) (.slice Y 0 0)).run P b=.ok a.isNone b:=by
 cases a <;> simp[Op.equalIn,dZ g]
def Zf{a:aB}[ah a]{b:R a}{e:bH}(m:c.P.underlying t=V (.slice e))(h:aN c E L x (.of b)):aZ c E L ⟨d,.binOp .eql t x (.const (.slice Y 0 0)) t2,ty,pos,a1,g⟩ (.aaY b):=.pure λf i j=>by
 have aQ:f.eval (.const (.slice Y 0 0))=.slice Y 0 0:=rfl;rcases oO.1 (h f i j)with⟨k,rfl⟩|⟨n,o,p,q,r,A,k,B⟩
 ·exact⟨.bool Z,by
   simp_all[execOp,eqGuard,binOp,Op.equal,Op.maxDepth,Vl],Z,rfl,λ_=>rfl⟩
 exact⟨.bool bi,by
  simp_all[execOp,eqGuard,binOp,Op.equal,Op.maxDepth,Vl],bi,rfl,λl=>by cases l⟩
def ar.Zg{g:aB}{y e:ec}{f:R g}(h:aN c E L x (.aaY f))(i:f=[]->ar c Q y E L)(j:ar c Q e E L):ar c Q (.cond x y e) E L:=λa b d=>by
 obtain⟨n,k,l⟩:=h a b d;exact wpIn_cond_split k (λm=>i (l m) a b d) (λ_=>j a b d)
end
def yK(c:cg->bj->Prop)(Q:cK->cg->bj->Prop):cK->cg->bj->Prop
 | .normal,a,b=>c a b
 |x,a,b=>Q x a b
section
variable{c:cX}{E:R (Nat×J)}{L:R aK}{ops:bE bA}{Q:cK->cg->bj->Prop}
def Oper.ahP{f:Fence}{g:Nat}{P:cV}{ak:bA}{h:cg}{b:cg->bj->Prop}{c:Result Next}(a:ak.uponIn f g P h b (yK b Q) c):ak.uponIn f g P h b Q c:=by
 cases c with
 | ok i j=>
   cases i <;> simp only[Oper.uponIn]at a⊢ <;>
    first
     |exact a
     |exact⟨a.1,CallsIn.mono a.2 (λe k d=>by cases e <;> exact d)⟩
     |exact⟨a.1,RoundIn.mono a.2 (λe k d=>by cases e <;> exact d)⟩
 |halt x j=>cases x <;> simp only[Oper.uponIn]at a⊢ <;> exact a
def UZ{i:Nat}{ak:bA}{K:cg->bj->Prop}{d:cg}{e:bj}(f:ops[i]? =V ak)(a:c.tR ops (yK K Q) [ak] d e):wpOpIn c.F 9 c.P ops Q i K d e:=by
 unfold wpOpIn;simp only[f];simp only[cX.tR,wpListIn]at a;split
 ·rename_i b;rw[bT b]at a;exact⟨a.1,Oper.ahP a.2⟩
 rename_i b;rw[bU b]at a;exact a
end
section
variable{c:cX}{E:R (Nat×J)}{L:R aK}{ops:bE bA}{Q:cK->cg->bj->Prop}
variable{d:aw Tmp}{ty:bH}{pos:String}{a1:bE Edge}{g:aw (Nat×aI)}{x y:cx}{t t2:bH}
def aa.ry{au:aB}[ah au]{rest:R bA}{a8 e a:Nat}{k:au}{d:R au}{g:R (Nat×cx)}(G:c.P.underlying t=V (.slice e))(H:bR c.P e au)(I:dn c.P e k)(aR:be (ah.size au) 0=bi)(aQ:cd (a*ah.size au) 16777216=Z)
 (J:pF c E L (bv a k) g d) (am:bu a8 c.n=Z) (K:∀l,aa c ops Q rest ((a8,.eq (aH l (U d) a))::E) (⟨l,.row e d a⟩::L)):
 aa c ops Q (⟨V a8,.buildSlice t a g.toArray,ty,pos,a1,Y⟩::rest) E L:=λh b m=>by
 obtain⟨M,n,p,N,O⟩:=I.zero
 have P:M.size=ah.size au:=by
  obtain⟨an,q,r⟩:=H.info;simp_all
 have ab:ah.size au≠0:=λj=>by simp_all
 have ac:=Gw (O (aP L++c.cv) b) a ab
 obtain⟨f,A,B,ao⟩:=J.run h b m _ ac
 have ad:U d=a:=by simp_all
 have ae:(g.toArray.map λ(x:Nat×cx)=>(x.1,h.eval x.2)).toList=g.map λ(i,x)=>(i,h.eval x):=by simp
 have ap:=pq aQ
 refine jb o (hh:=λC D=>C=.slice (V ⟨b.heap.size,0,Y⟩) a a∧D=b.alloc (.cells f e)) (.lK (v:=.slice (V ⟨b.heap.size,0,Y⟩) a a) (dE:=b.alloc (.cells f e)) ?_ ⟨rfl,rfl⟩) λC D ⟨q,r⟩=>?_
 ·simp only[execOp,c',eH,dZ G,a',Go.sizeOf,typeInfo,run_program,p,bm,P]
  rw[bU (by omega)]
  try simp only[bm,a',eH]
  by_cases F:a*ah.size au=0
  ·have af:a=0:=by
    rcases Nat.mul_eq_zero.1 F with j|j
    ·exact j
    omega
   subst af
   simp only[zA,l7,bm,a']
   try simp only[zA]at A
   have ag:((b3 0).map (λx=>(#[]:bE bt)[x % (#[]:bE bt).size]!))=((b3 0).map (n.cells[· % n.cells.size]!)):=by simp
   simp only[pure_bind]
   rw[ag,ae,A]
   rfl
  simp only[F,nV,eH,zeroValue,typeInfo,run_program,a',p,N,bm]
  simp_all[newRow]
 subst q r
 have ai:a<=maxLen:=by
  have:a*1<=a*ah.size au:=Iu _ (by omega);have:maxLen=9223372036854775807:=rfl;omega
 have aj:f.size=a*ah.size au:=by have:=B.1;simp_all
 have al:=m.alloc (ak:=.cells f e) (gg:=.row e d a) ⟨f,rfl,aj,by omega,ai,by
  have aq:=B.1;grind⟩
 refine K (V b.heap.size) _ _ (al.put (dm:=.eq (aH (V b.heap.size) (U d) a)) (by simp_all) ?_)
 show _=_
 rw[ad];rfl
def aa.hL{b:R bA}{d:aw Nat}{f m g:Nat}(a:Nat)(n:look E a=V (.eq (aH d f g)))(aQ:f=m)(h:aa c ops Q b ((a,.eq (aH d m g))::E) L):aa c ops Q b E L:=λi j k=>by
 subst aQ;refine h i j (k.less λt o l=>?_);simp only[look]at l;by_cases e:be a t=Z
 ·simp_all
 simp_all
end
def iA{a:aB}{b c:R a}{d:Nat}{e:a}(f:eZ b d e=c):U b=U c:=by grind[eZ]
def VI{a:aB}{c:Nat}{b:R a}(d:((dA c [] ([]:R a)).bind λy=>V y)=V b):b=[]:=by
 obtain⟨y,e,f⟩:=bind_some d;obtain⟨_,_,g⟩:=VN e;simp_all
def lP:bt:=.slice Y 0 0
def blank:R (Nat×bt)->R bt->R bt
 |[],a=>a
 |ak::b,a=>blank b (a.set ak.1 lP)
def Ge:∀{os:R (Nat×bt)} {a:R bt},U (blank os a)=U a
 |[],_=>rfl
 |ak::b,a=>by rw[blank,Ge,vC]
def uA:∀{os:R (Nat×bt)} {cs:R bt} (i:Nat),(blank os cs)[i]? =if os.any (λa=>be a.1 i)=Z then cs[i]?.map (λ_=>lP)else cs[i]?
 |[],_,i=>by rfl
 | ak::c,cs,i=>by
   rw[blank,uA i,List.any_cons];by_cases a:ak.1=i
   ·subst a;simp only[Jl,Oj,l7,Bu];grind
   have b:be ak.1 i=bi:=by
    cases b:be ak.1 i
    ·rfl
    simp_all
   grind
def tw(c:R (Nat×bt))(a d:Nat):aI:=c.all λb=>bu b.1 a||Nat.ble (a+d) b.1
def Vm{c:R (Nat×bt)}{a d i:Nat}(b:tw c a d=Z)(h:a<=i)(j:i<a+d):c.any (λb=>be b.1 i)=bi:=by
 rw[Bt];intro x e f;have g:=qd.1 b x e;have k:=kb.1 f;simp only[qV,d8,d9]at g;omega
def ahQ{c:R (Nat×bt)}{a b:Nat}{d:R bt}(e:tw c a b=Z):((blank c d).drop a).take b=(d.drop a).take b:=by
 apply ni;intro i;simp only[nh,pr];split
 ·rw[uA,Vm e (by omega) (by omega)];rfl
 rfl
def zU{b c:R bt}{a:Nat}(d:a+U c<=U b)(i:Nat):(h3 b a c)[i]? =if i<a then b[i]? else if i<a+U c then c[i-a]? else b[i]? :=by
 grind[h3]
theorem af7{c:R (Nat×bt)}{a:Nat}{d b:R bt}(g:tw c a (U b)=Z)(aR:a+U b<=U d):blank c (h3 d a b)=h3 (blank c d) a b:=by
 apply ni;intro i;rw[uA,zU aR,zU (by simp_all[Ge]),uA];by_cases e:i<a
 ·simp_all
 simp only[bU e];by_cases f:i<a+U b
 ·simp only[bT f,Vm g (Nat.not_lt.1 e) f];rfl
 grind
def xT(b:R (Nat×bt))(ak:Nat)(c:bt):R (Nat×bt):=
 bif b.any (λa=>be a.1 ak)then b.map (λa=>bif be a.1 ak then(ak,c)else a)else(ak,c)::b
def agy{c:R (Nat×bt)}{ak:Nat}{g:bt}{b:Nat×bt}(a:b∈xT c ak g):b=(ak,g)∨(b∈c∧b.1≠ak):=by
 unfold xT at a;cases d:c.any (λb=>be b.1 ak)
 ·rw[d]at a;simp only[cond_false]at a;rcases fj.1 a with a|a
  ·simp_all
  refine .inr ⟨a,λe=>?_⟩;have:=Bt.1 d b a;simp_all
 rw[d]at a;simp only[cond_true]at a;obtain⟨x,h,f⟩:=lk.1 a;cases i:be x.1 ak
 ·rw[i]at f;simp only[cond_false]at f;subst f;exact .inr ⟨h,λe=>by simp_all⟩
 simp_all
def agz{b:R (Nat×bt)}{ak i:Nat}{c:bt}:(xT b ak c).any (λa=>be a.1 i)=(be ak i||b.any (λa=>be a.1 i)):=by
 unfold xT;cases f:b.any (λa=>be a.1 ak)
 ·rfl
 simp only[cond_true,List.any_map];rw[kW,qV,oA,oA];constructor
 ·grind
 rintro (a|⟨x,d,e⟩)
 ·grind
 refine⟨x,d,?_⟩;simp only[Function.comp];cases g:be x.1 ak
 ·exact e
 simp_all
def tq(a:R (Nat×bt))(ak:Nat):R (Nat×bt):=a.filter (λb=> !Nat.beq b.1 ak)
def agA{d:R (Nat×bt)}{ak i:Nat}:(tq d ak).any (λa=>be a.1 i)=(!(be ak i)&&d.any (λa=>be a.1 i)):=by
 rw[kW];simp only[oA,hx,xf,tq,uk];constructor
 ·rintro ⟨x,⟨b,f⟩,c⟩;refine⟨?_,x,b,c⟩;cases e:be ak i
  ·rfl
  simp_all
 rintro ⟨g,x,b,c⟩;refine⟨x,⟨b,?_⟩,c⟩;cases e:be x.1 ak
 ·rfl
 simp_all
def mX{b:aB}[ah b](e:R Nat)(f:bj)(c:R bt)(x:b)(d:R (Nat×bt)):Prop:=ah.rep e f (blank d c) x∧∀a∈d,c[a.1]? =V a.2∧a.2.oneCell'=Z
def mX.len{a:aB}[ah a]{d e}{b:R bt}{x:a}{c:R (Nat×bt)}(f:mX d e b x c):U b=ah.size a:=by rw[<-Ge (os:=c)];exact ah.len f.1
def mX.mono{a:aB}[ah a]{b c d f}{g:R bt}{x:a}{h:R (Nat×bt)}(e:Ext b c d f)(i:mX b c g x h):mX d f g x h:=⟨ah.mono e i.1,i.2⟩
def mX.one{f:aB}[ah f]{j k}{b:R bt}{x:f}{c:R (Nat×bt)}(a:mX j k b x c):∀d∈b,d.oneCell'=Z:=by
 intro d l;obtain⟨i,m⟩:=ow.1 l;by_cases g:c.any (λa=>be a.1 i)=Z
 ·obtain⟨ak,n,h⟩:=oA.1 g;have h:=kb.1 h;obtain⟨e,o⟩:=a.2 ak n;simp_all
 have e:=uA (os:=c) (cs:=b) i;rw[bU g,m]at e;exact ah.one a.1 d (fM e)
def ft.bF{au:aB}[ah au](x:au)(os:R (Nat×bt)):ft where
 holds A W ak:=∃cs T,ak=.cells cs T (0,0)∧mX A W cs.toList x os
 oX:=False
 mono e h:=let⟨cs,T,oh,aF⟩:=h; ⟨cs,T,oh,aF.mono e⟩
def J.Sc{au:aB}[ah au](x:au)(os:R (Nat×bt)):J where
 holds A W v:=shaped (ah.agg au) v∧mX A W v.cells.toList x os
 mono e h:=⟨h.1,h.2.mono e⟩
structure ig where
 v:Value
instance:ah ig where
 size:=1
 agg:=bi
 rep _ _ cs x:=cs=[x.v]∧x.v.oneCell'=Z
 len h:=by simp_all
 one h:=by simp_all
 flat _:=rfl
 mono _ h:=h
def ZY{d e a}{b:bt}:(J.of (⟨b⟩:ig)).holds d e a↔a=b∧b.oneCell'=Z:=by
 constructor
 ·rintro ⟨c,f,g⟩;have c:a.oneCell'=Z:=c;exact⟨lJ c f,g⟩
 rintro ⟨rfl,h⟩;exact⟨h,by show a.cells.toList=[a]∧_;simp_all[cells_one]⟩
theorem bR.ex{P:cV}{t:bH}{a:aB}[ah a](b:bR P t (R a)):bR P t ig:=⟨b.size,b.aby⟩
def hy{a:aw Nat}{b c:Nat}:(aH a b c).oneCell'=Z:=by cases a <;> rfl
def akB{a b}{aY:aB}[ah aY]:ah.rep a b [lP] ([]:R aY):=⟨lP,rfl,.inl ⟨rfl,rfl⟩⟩
def WA{e c:aB}[ah e][ah c]{f g}{i j:R bt}{x:e}{k:c}{h:R (Nat×bt)}(a:aG e c)(b:mX f g i x h)(aq:ah.rep f g j k)(m:tw h a.off (ah.size c)=Z):mX f g (h3 i a.off j) (a.set x k) h:=by
 have p:=b.len;have q:=a.hD;have n:=ah.len aq;refine⟨?_,λak d=>?_⟩
 ·have r:=a.nt b.1 aq;grind[af7,h3]
 refine⟨?_,(b.2 ak d).2⟩;rw[zU (by omega)];have o:=qd.1 m ak d;simp only[qV,d8,d9]at o;rw[n];by_cases l:ak.1<a.off
 ·rw[bT l];exact(b.2 ak d).1
 rw[bU l,bU (by omega)];exact(b.2 ak d).1
def VR{g h:aB}[ah g][ah h]{j k}{b:R bt}{x:g}{d:bt}{c:R (Nat×bt)}(a:aG g (R h))(f:mX j k b x c)(p:d.oneCell'=Z):mX j k (h3 b a.off [d]) (a.set x []) (xT c a.off d):=by
 have q:=f.len;have r:a.off+1<=ah.size g:=a.hD;refine⟨?_,λak n=>?_⟩
 ·have A:ah.rep j k ((blank c b).take a.off++[lP]++(blank c b).drop (a.off+1)) (a.set x []):=a.nt f.1 (akB (aY:=h));have e:blank (xT c a.off d) (h3 b a.off [d])=h3 (blank c b) a.off [lP]:=by
   apply ni;intro i;rw[uA,zU (by simp_all),zU (by simp_all[Ge]),uA];rw[agz];by_cases B:a.off=i
   ·simp_all
   have o:be a.off i=bi:=by
    cases o:be a.off i
    ·rfl
    simp_all
   grind
  simp_all[h3]
 rw[zU (by simp_all)];rcases agy n with rfl|⟨l,C⟩
 ·simp_all
  
 simp only[List.length_singleton]
 refine⟨?_,(f.2 ak l).2⟩
 by_cases m:ak.1<a.off
 ·rw[bT m];exact(f.2 ak l).1
 rw[bU m,bU (by omega)];exact(f.2 ak l).1
def VS{f m:aB}[ah f][ah m]{h j}{c:R bt}{x:f}{d:bt}{k:R m}{b:R (Nat×bt)}(a:aG f (R m))(l:mX h j c x b)(n:(a.off,d)∈b)(aR:qJ h j d k):mX h j c (a.set x k) (tq b a.off):=by
 have q:=l.len;have r:a.off+1<=ah.size f:=a.hD;have A:=(l.2 _ n).1;refine⟨?_,λak o=>l.2 ak (uk.1 o).1⟩;have B:ah.rep h j ((blank b c).take a.off++[d]++(blank b c).drop (a.off+1)) (a.set x k):=a.nt l.1 (ds:=[d]) (g:=k) ⟨d,rfl,aR⟩;have e:blank (tq b a.off) c=h3 (blank b c) a.off [d]:=by
  apply ni;intro i;rw[uA,zU (by simp_all[Ge]),uA,agA];by_cases C:a.off=i
  ·simp_all
  have p:be a.off i=bi:=by
   cases p:be a.off i
   ·rfl
   simp_all
  grind
 simp_all[h3]
section
variable{c:cX}{E:R (Nat×J)}{L:R aK}{ops:bE bA}{Q:cK->cg->bj->Prop}
variable{d:aw Tmp}{ty:bH}{pos:String}{a1:bE Edge}{g:aw (Nat×aI)}{x y:cx}{t t2:bH}
def b0.G0{j:cg}{g:bj}(a:b0 c E L j g){i:Nat}{f:aw Nat}{h iv:ft}(k:L[i]? =V ⟨f,h⟩)(m:∀ak,h.holds (aP L++c.cv) g ak->iv.holds (aP L++c.cv) g ak)(aQ:h.oX->iv.oX):b0 c E (L.set i ⟨f,iv⟩) j g:=by
 have b:aP (L.set i ⟨f,iv⟩)=aP L:=Ln (e:=⟨f,h⟩) (gg:=iv) k;exact
 {defers:=a.defers
  size:=a.size
  env:=λt n o=>by rw[b];exact a.env t n o
  ey:=a.ey
  own:=λe p=>by
   rw[b];obtain⟨A,d⟩:=ow.1 p;rw[Bu]at d;split at d
   ·split at d
    ·simp only[iG]at d;subst d;have l:=a.own _ (fM k);cases f with
     |none=>exact aQ l
     |some B=>obtain⟨ak,q,r⟩:=l;exact⟨ak,q,m _ r⟩
    simp_all
   exact a.own e (fM d)
  nodup:=by rw[b];exact a.nodup
  lt:=by rw[b];exact a.lt
  gl:=by rw[b];exact a.gl
  eW:=by rw[b];exact a.eW}
def aa.qq{a:R bA}{b:Nat}{d:aB}[ah d]{e:d}(i:Nat)(f:L[i]? =V ⟨V b,.bF e []⟩)(g:aa c ops Q a E (L.set i ⟨V b,.var e⟩)):aa c ops Q a E L:=λh j k=>
 g h j (k.G0 f (λak ⟨l,m,n,o⟩=>⟨l,m,n,o.1⟩) id)
def af.qq{a:cK}{b:Nat}{d:aB}[ah d]{e:d}(i:Nat)(f:L[i]? =V ⟨V b,.bF e []⟩)(g:af c Q a E (L.set i ⟨V b,.var e⟩)):af c Q a E L:=λh j k=>
 g h j (k.G0 f (λak ⟨l,m,n,o⟩=>⟨l,m,n,o.1⟩) id)
def QB:aw bt->aI
 |some (.slice Y 0 0)=>Z
 |_=>bi
def Vn{a:aw bt}(b:QB a=Z):a=V lP:=by
 unfold QB at b;split at b
 ·rfl
 grind
def iP(P:cV)(t:bH)(aR:R Nat):Prop:=((P.info? t).bind (·.zero)).any (λa=>aR.all λak=>QB a.cells.toList[ak]?)=Z
def O3:∀{c:R (Nat×bt)} {a:R bt},(∀b∈c,a[b.1]? =V lP)->blank c a=a
 |[],_,_=>rfl
 | ak::f,a,b=>by
   have g:=b ak (by simp);have e:a.set ak.1 lP=a:=by
    apply ni;grind
   rw[blank,e];exact O3 λx d=>b x (by simp[d])
def aa.pB{rest:R bA}{a8:Nat}{f:aB}[ah f]{z:f}(aR:R Nat)(b:iP c.P t aR)(l:dn c.P t z)(aQ:bu a8 c.n=Z)
 (m:∀g,aa c ops Q rest ((a8,.eq (.pointer (V ⟨g,0,Y⟩)))::E) (⟨V g,.bF z (aR.map λak=>(ak,lP))⟩::L)):aa c ops Q (⟨V a8,.alloc t,ty,pos,a1,Y⟩::rest) E L:=λF h n=>by
 obtain⟨i,d,p,q,r⟩:=l.zero
 have G:∀ak∈aR,d.cells.toList[ak]? =V lP:=λak A=>by
  unfold iP at b;rw[p]at b;simp only[cl,q,dl]at b;exact Vn (qd.1 b ak A)
 have B:∀a∈aR.map (λak=>(ak,lP)),d.cells.toList[a.1]? =V a.2:=λa e=>by
  grind
 refine jb o (hh:=λj k=>j=.pointer (V ⟨h.heap.size,0,Y⟩)∧k=h.alloc (.cells d.cells t)) (.lK ?_ ⟨rfl,rfl⟩) λj k ⟨C,D⟩=>?_
 ·simp_all[execOp,d5,zeroValue,typeInfo,newVar,newRow]
 subst C
 subst D
 refine m _ _ _ ((n.alloc (gg:=.bF z (aR.map λak=>(ak,lP))) ⟨d.cells,t,rfl,?_,λa e=>⟨B a e,by obtain⟨ak,_,rfl⟩:=lk.1 e;rfl⟩⟩).put (by simp_all) o)
 rw[O3 λa e=>by grind]
 exact(r _ _).2
def aa.RF{rest:R bA}{a8:Nat}{e:aB}[ah e]{a:e}{b:R (Nat×bt)}(k:aN c E L x (.Sc a b))(aQ:bu a8 c.n=Z)
 (l:∀f,aa c ops Q rest ((a8,.eq (.pointer (V ⟨f,0,Y⟩)))::E) (⟨V f,.bF a b⟩::L)):aa c ops Q (⟨V a8,.box t x,ty,pos,a1,Y⟩::rest) E L:=λg d h=>by
 refine jb o (hh:=λi j=>i=.pointer (V ⟨d.heap.size,0,Y⟩)∧j=d.alloc (.cells (g.eval x).cells t)) (.lK ?_ ⟨rfl,rfl⟩) λi j ⟨m,n⟩=>?_
 ·rfl
 subst m
 subst n
 obtain⟨q,p⟩:=k g d h
 exact l _ _ _ ((h.alloc (gg:=.bF a b) ⟨_,t,rfl,p⟩).put (by simp_all) o)
def ho{t:bH}{i f ak:Nat}{e a:aB}[ah e][ah a]{h:e}{j:R (Nat×bt)}(b:aG e a){k:a}(p:bR c.P t a)(q:aN c E L x (.eq (.pointer (V ⟨f,ak,Y⟩))))
 (r:L[i]? =V ⟨V f,.bF h j⟩) (B:ak=b.off) (aF:b.get h=k) (C:tw j b.off (ah.size a)=Z):aZ c E L ⟨d,.load t x,ty,pos,a1,g⟩ (.of k):=.pure λl D m=>by
 subst B
 subst aF
 obtain⟨J,F,G,K,rfl,n⟩:=m.own _ (fM r)
 have M:U G.toList=ah.size e:=n.len
 have o:=b.jK n.1
 rw[ahQ C]at o
 obtain⟨H,N,I⟩:=zL (A:=aP L++c.cv) p F (by have:=b.hD;simp_all) o
 refine⟨H,?_,I⟩
 have O:l.eval x=_:=q l D m
 simp_all[execOp,cr,bQ]
def akC{a:R bt}{ak:Nat}{b:bt}(c:a[ak]? =V b):(a.drop ak).take 1=[b]:=by
 apply ni;grind
def fG{t:bH}{i b ak q:Nat}{b7 aY:aB}[ah b7][ah aY]{k:b7}{e:R (Nat×bt)}{a:bt}(l:bR c.P t (R aY))(m:aN c E L x (.eq (.pointer (V ⟨b,ak,Y⟩))))
 (n:L[i]? =V ⟨V b,.bF k e⟩) (o:e[q]? =V (ak,a)):aZ c E L ⟨d,.load t x,ty,pos,a1,g⟩ (.eq a):=.pure λf p h=>by
 obtain⟨H,r,j,I,rfl,J,B⟩:=h.own _ (fM n)
 obtain⟨C,D⟩:=B _ (fM o)
 have K:ak<j.size:=by grind
 obtain⟨F,M,G⟩:=zL (au:=ig) (x:=⟨a⟩) (A:=aP L++c.cv) l.ex r (show ak+1<=j.size by omega) ⟨akC C,D⟩
 refine⟨F,?_,(ZY.1 G).1⟩
 have N:f.eval x=_:=m f p h
 simp_all[execOp,cr,bQ]
def aa.lp{t:bH}{rest:R bA}{i d ak:Nat}{e b:aB}[ah e][ah b]{l m:e}{f:b}{j:R (Nat×bt)}(a:aG e b)(D:bR c.P t b)(F:aN c E L x (.eq (.pointer (V ⟨d,ak,Y⟩))))
 (G:aN c E L y (.of f)) (n:L[i]? =V ⟨V d,.bF l j⟩) (H:ak=a.off) (I:a.set l f=m) (J:tw j a.off (ah.size b)=Z)
 (K:aa c ops Q rest E (L.set i ⟨V d,.bF m j⟩)):aa c ops Q (⟨Y,.store t x y,ty,pos,a1,Y⟩::rest) E L:=λg k h=>by
 subst H
 subst I
 obtain⟨O,p,q,M,rfl,r⟩:=h.own _ (fM n)
 have P:U q.toList=ah.size e:=r.len
 have ab:=a.hD
 have B:=G g k h
 have ac:=JM (A:=aP L++c.cv) D p (off:=a.off) (by simp_all) B
 have ad:g.eval x=_:=F g k h
 refine jb o (hh:=λf C=>C=k.setRow d (h3 q.toList a.off (g.eval y).cells.toList).toArray) (.CP ?_ o) λf C N=>?_
 ·simp_all[execOp,cm,bQ]
 subst N
 exact K _ _ (h.store n p ⟨_,M,rfl,by rw[bY];exact WA a r B.2 J⟩)
def aa.h8{t:bH}{rest:R bA}{i f ak:Nat}{e aY:aB}[ah e][ah aY]{k et:e}{b:bt}{l pb:R (Nat×bt)}(a:aG e (R aY))(B:bR c.P t (R aY))(C:aN c E L x (.eq (.pointer (V ⟨f,ak,Y⟩))))
 (D:aN c E L y (.eq b)) (m:b.oneCell'=Z) (n:L[i]? =V ⟨V f,.bF k l⟩) (F:ak=a.off) (G:a.set k []=et) (H:xT l ak b=pb)
 (I:aa c ops Q rest E (L.set i ⟨V f,.bF et pb⟩)):aa c ops Q (⟨Y,.store t x y,ty,pos,a1,Y⟩::rest) E L:=λd g h=>by
 subst F
 subst G
 subst H
 obtain⟨ad,p,j,K,rfl,q⟩:=h.own _ (fM n)
 have ae:U j.toList=ah.size e:=q.len
 have af:a.off+1<=ah.size e:=a.hD
 have M:d.eval y=b:=D d g h
 have N:(J.of (⟨b⟩:ig)).holds (aP L++c.cv) g (d.eval y):=ZY.2 ⟨M,m⟩
 have O:=JM (A:=aP L++c.cv) B.ex p (off:=a.off) (show a.off+1<=j.size by simp_all) N
 have ag:d.eval x=_:=C d g h
 have P:(d.eval y).cells.toList=[b]:=by simp_all[cells_one]
 rw[P]at O
 refine jb o (hh:=λab r=>r=g.setRow f (h3 j.toList a.off [b]).toArray) (.CP ?_ o) λab r ac=>?_
 ·simp_all[execOp,cm,bQ]
 subst ac
 exact I _ _ (h.store n p ⟨_,K,rfl,by rw[bY];exact VR a q m⟩)
def afc{P:cV}{c:bj}{d off:Nat}{e:bE bt}{f t:bH}{b:aB}[ah b]{a:bt}(ty:bR P t b)
 (g:c.heap[d]? =V (.cells e f (0,0))) (aR:off+ah.size b<=e.size) (l:U a.cells.toList=ah.size b) (h:∀i∈a.cells.toList,i.oneCell'=Z):
 (storeVar t ⟨d,off,Y⟩ a).run P c=.ok () (c.setRow d (h3 e.toList off a.cells.toList).toArray):=by
 have j:=EE P d off f a.cells.toList 0 e c g (by omega) h
 have k:a.cells.size=ah.size b:=by omega
 simp only[bZ]at j
 simp only[storeVar,eH,ty.sizeOf,a',k]
 grind[reduceIte,h3]
def aa.uK{t:bH}{rest:R bA}{i b:Nat}{d:aB}[ah d]{q h:d}{r j:R (Nat×bt)}(A:bR c.P t d)(B:aN c E L x (.eq (.pointer (V ⟨b,0,Y⟩))))
 (C:aN c E L y (.Sc h j)) (k:L[i]? =V ⟨V b,.bF q r⟩)
 (D:aa c ops Q rest E (L.set i ⟨V b,.bF h j⟩)):aa c ops Q (⟨Y,.store t x y,ty,pos,a1,Y⟩::rest) E L:=λa g f=>by
 obtain⟨M,l,m,F,rfl,G⟩:=f.own _ (fM k)
 have N:U m.toList=ah.size d:=G.len
 obtain⟨O,n⟩:=C a g f
 have H:=n.len
 have I:=afc A l (off:=0) (by simp_all) H n.one
 have P:a.eval x=_:=B a g f
 have e:h3 m.toList 0 (a.eval y).cells.toList=(a.eval y).cells.toList:=by
  simp_all[h3,dL,dk,kx,sa,qe]
 rw[e]at I
 refine jb o (hh:=λJ p=>p=g.setRow b (a.eval y).cells.toList.toArray) (.CP ?_ o) λJ p K=>?_
 ·simp_all[execOp,cm,bQ]
 subst K
 exact D _ _ (f.store k l ⟨_,F,rfl,by omega⟩)
def fp{a:Addr}(e:aN c E L x (.eq (.pointer (V a)))):aZ c E L ⟨d,.nilCheck x,ty,pos,a1,g⟩ (.eq (.pointer (V a))):=.pure λb f h=>by
 have i:b.eval x=_:=e b f h;exact⟨_,by simp[execOp,i],rfl⟩
def alJ{a:aB}[ah a]{b:a}(e:aN c E L x (.ptr b)):aZ c E L ⟨d,.nilCheck x,ty,pos,a1,g⟩ (.ptr b):=.pure λf h i=>by
 have j:=e f h i;obtain⟨k,l,m,n,o,p,q⟩:=j;exact⟨_,by simp[execOp,p],k,l,m,n,o,rfl,q⟩
def b0.mv{o:cg}{k:bj}(l:b0 c E L o k){i a b e f:Nat}{g:aw Nat}{b7 aY:aB}[ah b7][ah aY]{m et:b7}{d:R aY}{h p:R (Nat×bt)}(j:aG b7 (R aY))(P:i≠a)(Q:L[i]? =V ⟨V b,.bF m h⟩)(q:L[a]? =V ⟨g,.row f d e⟩)
 (A:Nat) (B:h[A]? =V (j.off,aH g (U d) e)) (C:j.set m d=et) (D:tq h j.off=p):b0 c E ((L.set a ⟨Y,.dead⟩).set i ⟨V b,.bF et p⟩) o k:=by
 subst C
 subst D
 have F:=l.kill a
 have G:(L.set a ⟨Y,.dead⟩)[i]? =V ⟨V b,.bF m h⟩:=by grind
 have aa:=Cb (L:=L) (i:=a) (gg:=.dead)
 have H:qJ (aP (L.set a ⟨Y,.dead⟩)++c.cv) k (aH g (U d) e) d:=by
  have r:=l.own _ (fM q);cases g with
  |none=>exact .inl ⟨rfl,r.1⟩
  | some b=>
    obtain⟨ak,I,n,rfl,J,aQ,ab,aF⟩:=r
    obtain⟨K,M⟩:=OX J aQ aF
    refine .inr ⟨b,0,e,n,f,(0,0),rfl,l.GD q,I,aQ,by omega,K,?_⟩
    exact M.mono (.drop λac ad=>by
     grind)
 exact F.G0 G (λak ⟨n,f,N,O⟩=>⟨n,f,N,VS j O (fM B) H⟩) id
def aa.mv{g:R bA}{h j o:Nat}{k:aw Nat}{b7 aY:aB}[ah b7][ah aY]{l et:b7}{b:R aY}{d m:R (Nat×bt)}(a:aG b7 (R aY))(i f n:Nat)(H:be i f=bi)(p:L[i]? =V ⟨V h,.bF l d⟩)(q:L[f]? =V ⟨k,.row o b j⟩)
 (r:d[n]? =V (a.off,aH k (U b) j)) (A:a.set l b=et) (B:tq d a.off=m) (C:aa c ops Q g E ((L.set f ⟨Y,.dead⟩).set i ⟨V h,.bF et m⟩)):aa c ops Q g E L:=
 λD F G=>C D F (G.mv a (λe=>by simp_all) p q n r A B)
def b0.yh{n:cg}{o:bj}(p:b0 c E L n o){i b g h j d:Nat}{k:aw Nat}{b7 aY:aB}[ah b7][ah aY]{l et:b7}{a:R aY}{e q:R (Nat×bt)}(f:aG b7 (R aY))(Q:i≠b)(aa:L[i]? =V ⟨V g,.bF l e⟩)(C:L[b]? =V ⟨k,.row j a h⟩)
 (D:Nat) (F:e[D]? =V (f.off,aH k (U a) h)) (G:f.set l a=et) (H:tq e f.off=q) (r:look E d=V (.eq (aH k (U a) h))):b0 c ((d,.of a)::E) ((L.set b ⟨Y,.dead⟩).set i ⟨V g,.bF et q⟩) n o:=by
 have A:=p.freeze r C
 subst G
 subst H
 have I:(L.set b ⟨Y,.dead⟩)[i]? =V ⟨V g,.bF l e⟩:=by grind
 obtain⟨J,K,M⟩:=A.env d (.of a) (by simp[look,Jl])
 obtain⟨ab,B,m⟩:=p.env d _ r
 rw[K]at B
 cases B
 have m:J=_:=m
 subst m
 exact A.G0 I (λak ⟨N,j,O,P⟩=>⟨N,j,O,VS f P (fM F) (oO.1 M)⟩) id
def aa.yh{j:R bA}{k d p:Nat}{f:aw Nat}{b7 aY:aB}[ah b7][ah aY]{l et:b7}{a:R aY}{g m:R (Nat×bt)}(b:aG b7 (R aY))(i h n o:Nat)(J:be i h=bi)(q:L[i]? =V ⟨V k,.bF l g⟩)(r:L[h]? =V ⟨f,.row p a d⟩)
 (A:g[n]? =V (b.off,aH f (U a) d)) (B:b.set l a=et) (C:tq g b.off=m) (D:look E o=V (.eq (aH f (U a) d))) (F:aa c ops Q j ((o,.of a)::E) ((L.set h ⟨Y,.dead⟩).set i ⟨V k,.bF et m⟩)):aa c ops Q j E L:=
 λG H I=>F G H (I.yh b (λe=>by simp_all) q r n A B C D)
def af.yh{j:cK}{k d p:Nat}{f:aw Nat}{b7 aY:aB}[ah b7][ah aY]{l et:b7}{a:R aY}{g m:R (Nat×bt)}(b:aG b7 (R aY))(i h n o:Nat)(J:be i h=bi)(q:L[i]? =V ⟨V k,.bF l g⟩)(r:L[h]? =V ⟨f,.row p a d⟩)
 (A:g[n]? =V (b.off,aH f (U a) d)) (B:b.set l a=et) (C:tq g b.off=m) (D:look E o=V (.eq (aH f (U a) d))) (F:af c Q j ((o,.of a)::E) ((L.set h ⟨Y,.dead⟩).set i ⟨V k,.bF et m⟩)):af c Q j E L:=
 λG H I=>F G H (I.yh b (λe=>by simp_all) q r n A B C D)
inductive xZ(c:cX)(E:List (Nat×J))(L:List aK)(place:Nat->Option (Nat×Nat)){b7:Type}[ah b7]:b7->List (Nat×Value)->List (Nat×Operand)->b7->List (Nat×Value)->Prop
 |nil {b os}:xZ c E L place b os [] b os
 |cons {b pY et:b7} {os pb:List (Nat×Value)} {aY:Type} [ah aY] {v:aY} {i:Nat} {x:Operand} {r:List (Nat×Operand)} (l:aG b7 aY):place i=V (l.off,ah.size aY)->aN c E L x (.of v)->l.set b v=pY->tw os l.off (ah.size aY)=Z->xZ c E L place pY os r et pb->xZ c E L place b os ((i,x)::r) et pb
 |hole {b pY et:b7} {os abz pb:List (Nat×Value)} {aY:Type} [ah aY] {u:Value} {i:Nat} {x:Operand} {r:List (Nat×Operand)} (l:aG b7 (List aY)):place i=V (l.off,1)->aN c E L x (.eq u)->u.oneCell'=Z->l.set b []=pY->xT os l.off u=abz->xZ c E L place pY abz r et pb->xZ c E L place b os ((i,x)::r) et pb
theorem xZ.run{B:Nat->aw (Nat×Nat)}{g:aB}[ah g]{h j:g}{k l:R (Nat×bt)}{C:R (Nat×cx)}(H:xZ c E L B h k C j l):∀a b,b0 c E L a b->∀d:bE bt,mX (aP L++c.cv) b d.toList h k->
 ∃D,ct B d (C.map λ(i,x)=>(i,a.eval x))=V D∧mX (aP L++c.cv) b D.toList j l:=by
 induction H with
 |nil=>intro a b e d aF;exact⟨d,rfl,aF⟩
 | @cons h I j k l F _ P i x J f m n o p _ q=>
   intro a b e d aF
   subst o
   have r:=n a b e
   have A:(a.eval x).cells.size=ah.size F:=by have:=ah.len r.2;omega
   have K:U d.toList=ah.size g:=aF.len
   have M:=f.hD
   rw[pv,KE m A (by simp_all)]
   refine q a b e _ ?_
   have:=WA f aF r.2 p
   omega
 | @hole h I j k Q l F _ G i x J f m n o p N _ q=>
   intro a b e d aF
   subst p
   subst N
   have r:a.eval x=G:=n a b e
   have O:(a.eval x).cells.toList=[G]:=by grind[cells_one]
   have A:(a.eval x).cells.size=1:=by have:=eO U O;omega
   have K:U d.toList=ah.size g:=aF.len
   have M:f.off+1<=ah.size g:=f.hD
   rw[pv,KE m A (by simp_all)]
   refine q a b e _ ?_
   have:=VR f aF o
   simp_all
def rf{f:aB}[ah f]{m b:f}{a:R (Nat×cx)}{n:bE (Nat×Nat)}{o:R (Nat×bt)}(h:R Nat)(e:iP c.P t h)(N:ah.agg f=Z)(A:fi c.P t n)(B:dn c.P t m)
 (C:xZ c E L (n[·]?) m (h.map λak=>(ak,lP)) a b o):aZ c E L ⟨d,.build t a.toArray,ty,pos,a1,g⟩ (.Sc b o):=.pure λj D F=>by
 obtain⟨G,H,aR,rfl⟩:=A.at_
 obtain⟨i,p,q,r,I⟩:=B.zero
 have J:∀ak∈h,p.cells.toList[ak]? =V lP:=λak k=>by
  unfold iP at e;rw[q]at e;simp only[cl,r,dl]at e;exact Vn (qd.1 e ak k)
 obtain⟨K,O,P⟩:=C.run j D F p.cells ⟨by
  rw[O3 λM l=>by grind];exact(I _ _).2,λM l=>by obtain⟨ak,k,rfl⟩:=lk.1 l;exact⟨J ak k,rfl⟩⟩
 refine⟨.agg K,?_,by grind[shaped],by simp_all[Value.cells]⟩
 have l:(a.toArray.map λ(x:Nat×cx)=>(x.1,j.eval x.2)).toList=a.map λ(i,x)=>(i,j.eval x):=by simp
 simp only[execOp,c9,eH,zeroValue,typeInfo,run_program,a',q,r,bm,dZ H,UF G aR]
 simp_all
def tQ{au:aB}[Inhabited au](b:Nat)(a:Int):aw (R au):=if 0<=a∧a<=140737488355328∧b*a<=140737488355328 then V (bv a.toNat b1)else Y
def WB{b:aB}[Inhabited b]{c:Nat}{a:Int}{d:R b}(e:tQ c a=V d):0<=a∧a<=140737488355328∧c*a<=140737488355328∧bv a.toNat b1=d:=by
 simp_all[tQ]
def aa.RZ{b:aB}[ah b][Inhabited b]{rest:R bA}{a8 e j:Nat}{g:R b}{k:Int}(G:c.P.underlying t=V (.slice e))(H:bR c.P e b)(I:dn c.P e (b1:b))(aR:be (ah.size b) 0=bi)(ao:(c.P.info? e).map (·.bytes)=V j)
 (J:aN c E L x (.of k)) (K:aN c E L y (.of k)) (M:tQ j k=V g) (ap:bu a8 c.n=Z) (m:∀n,aa c ops Q rest ((a8,.eq (aH n (U g) (U g)))::E) (⟨n,.row e g (U g)⟩::L)):
 aa c ops Q (⟨V a8,.makeSlice t x y,ty,pos,a1,Y⟩::rest) E L:=λp d l=>by
 obtain⟨N,aQ,aq,rfl⟩:=WB M
 obtain⟨a,rfl⟩:=mE N
 obtain⟨f,h,q,O,P⟩:=I.zero
 have ar:f.size=ah.size b:=by
  obtain⟨au,r,A⟩:=H.info;simp_all
 have av:f.bytes=j:=by simp_all
 have ab:ah.size b≠0:=λaw=>by simp_all
 have B:=Gw (P (aP L++c.cv) d) a ab
 have r:=of_int.1 (J p d l)
 have A:=of_int.1 (K p d l)
 have ac:IntKind.i64.wrap (a:Int)=a:=by have:aV (a:Int)=a:=eU (by omega) (by omega);exact this
 have ax:(2:Int)^48=281474976710656:=by decide
 simp only[ce,Na]at m
 generalize ay:(b3 (a*ah.size b)).map (h.cells[· % h.cells.size]!)=D at B
 refine jb o (hh:=λC F=>C=.slice (V ⟨d.heap.size,0,Y⟩) a a∧F=d.alloc (.cells D e)) (.lK (v:=.slice (V ⟨d.heap.size,0,Y⟩) a a) (dE:=d.alloc (.cells D e)) ?_ ⟨rfl,rfl⟩) λC F ⟨ad,ae⟩=>?_
 ·have af:((bd ((a:Int)<0)||decide ((f.bytes:Int)*a>2^48))||decide ((a:Int)<0)||decide ((a:Int)>a))=bi:=by
   grind
  have ag:((b3 (a*f.size)).map λi=>(if a*f.size=0 then(#[]:bE bt)else h.cells)[i % (if a*f.size=0 then(#[]:bE bt)else h.cells).size]!)=D:=by
   grind
  have ai:(asInt (.int .i64 (a:Int)):Sem Int).run c.P d=.ok (a:Int) d:=by rfl
  simp only[execOp,Instr.makeSlice,eH,dZ G,a',r,A,ai,bm,typeInfo,run_program,q,ac,af,qP,nV,run_askRoom,Go.sizeOf,ce]
  by_cases aj:a*f.size=0
  ·simp_all[l7,bm,a',eH,newRow]
  simp only[aj,nV,bm,a',eH,newRow,zeroValue,typeInfo,run_program,q,O]at ag⊢
  simp_all
 subst ad ae
 have al:a<=maxLen:=by
  have:maxLen=9223372036854775807:=rfl;omega
 have am:D.size=a*ah.size b:=by grind
 have an:=l.alloc (ak:=.cells D e) (gg:=.row e (bv a (b1:b)) a) ⟨D,rfl,am,by simp,al,by
  have az:=B.1;grind⟩
 exact m (V d.heap.size) _ _ (an.put (dm:=.eq (aH (V d.heap.size) a a)) (by simp_all) o)
def af.mq{a:Func}{aX:aB}{b:aX->J}{d:aX->R aK}(a8:aX)(aR:(d a8).Sublist L)(aF:a.results= #[])(f:b a8=.bO [])(g:c.ds=[]:=by rfl):af c (bodyPost c.P a (j4 c.X c.cv c.pV b d)) .ret E L:=λh i e=>
 ⟨e.Ad g,.tuple #[],by simp[zT,aF],e.ends a8 aR (by rw[f];exact⟨_,rfl,.nil⟩)⟩
end
abbrev Hid:=Nat->aw Nat
def dv(a:R (aw Nat)):Hid:=λi=>(a[i]?).getD Y
structure ee where
 slot:Option Nat
 up:List Nat
 rd:List Nat
 wr:List Nat
 dm:(Nat->Hid)->J
 dS:(Nat->Hid)->Nat->aK
def hE(up:R Nat)(i:Nat)(aq:Nat->Hid):Nat->Hid:=λa=>bif be a i||up.any (λb=>be b a)then aq a else λ_=>Y
def lA(aq:Nat->Hid)(i:Nat)(x:Hid):Nat->Hid:=λa=>bif be a i then x else aq a
def ahR{up:R Nat}{i:Nat}{aq b:Nat->Hid}(c:aq i=b i)(d:∀a∈up,aq a=b a):hE up i aq=hE up i b:=by
 funext j;unfold hE;cases e:be j i
 ·cases f:up.any (λa=>be a j)
  ·rfl
  simp_all
 simp_all
def pO:R aK->(Nat->aK)->R Nat->R aK
 |L,_,[]=>L
 |L,a,b::c=>pO (L.set b (a b)) a c
def U3:∀{L:R aK} {a:Nat->aK} {b:R Nat},U (pO L a b)=U L
 |_,_,[]=>rfl
 |L,a,c::d=>by rw[pO,U3,vC]
def Py:∀{L:R aK} {a:Nat->aK} {b:R Nat} (i:Nat),(pO L a b)[i]? =if b.contains i=Z then L[i]?.map (λ_=>a i)else L[i]?
 |_,_,[],i=>by rfl
 | L,a,c::d,i=>by
   rw[pO,Py i];grind
def hi(c:Nat->aI)(aq:Nat->Hid):Nat->R ee->R aK->R aK
 |_,[],L=>L
 |a,b::d,L=>hi c aq (a+1) d (bif c a then pO L (b.dS (hE b.up a aq)) b.wr else L)
def jj(b:Nat->aI)(aq:Nat->Hid)(E:R (Nat×J)):Nat->R ee->R (Nat×J)
 |_,[]=>E
 | a,c::d=>match b a,c.slot with
   |true,V e=>(e,c.dm (hE c.up a aq))::jj b aq E (a+1) d
   |_,_=>jj b aq E (a+1) d
def nB(e:Nat->aI)(aq:Nat->Hid)(b:Nat):Nat->R ee->aw aK->aw aK
 |_,[],a=>a
 |c,d::f,a=>nB e aq b (c+1) f (bif e c&&d.wr.contains b then a.map (λ_=>d.dS (hE d.up c aq) b)else a)
def Lo{c:Nat->aI}{aq:Nat->Hid}(a:Nat):∀{b:Nat} {aR:R ee} {L:R aK},(hi c aq b aR L)[a]? =nB c aq a b aR L[a]?
 |_,[],_=>rfl
 | b,d::e,L=>by
   rw[hi,nB,Lo a];congr 1;cases c b
   ·rfl
   simp_all[cond_true,tb,Py]
def Ph{f:Nat->aI}{aq:Nat->Hid}{c:Nat}:∀{d:Nat} {aR:R ee} {e:aw aK},(∀b a,aR[b]? =V a->a.wr.contains c=Z->f (d+b)=bi)->nB f aq c d aR e=e
 |_,[],_,_=>rfl
 | d,a::i,e,aQ=>by
   rw[nB,Ph λb x j g=>by have:=aQ (b+1) x (by simp_all) g;grind];cases h:a.wr.contains c
   ·simp
   have:=aQ 0 a o h;simp_all
def OY{b:Nat->aI}{aq:Nat->Hid}{c:Nat}:∀{a:Nat} {aR d:R ee} {e:aw aK},nB b aq c a (aR++d) e=nB b aq c (a+U aR) d (nB b aq c a aR e)
 |_,[],_,_=>rfl
 | a,f::g,d,e=>by
   rw[List.cons_append,nB,OY,nB,cM];congr 1;omega
def Ku{ls hG:Nat->aI}{aq HJ:Nat->Hid}{j:Nat}:∀{k:Nat} {aR:R ee} {v:aw aK},(∀b a,aR[b]? =V a->a.wr.contains j=Z->ls (k+b)=hG (k+b)∧(ls (k+b)=Z->hE a.up (k+b) aq=hE a.up (k+b) HJ))->nB ls aq j k aR v=nB hG HJ j k aR v
 |_,[],_,_=>rfl
 | k,a::c,v,aQ=>by
   have d:=Ku (ls:=ls) (hG:=hG) (aq:=aq) (HJ:=HJ) (j:=j) (k:=k+1) (aR:=c) (v:=bif ls k&&a.wr.contains j then v.map (λ_=>a.dS (hE a.up k aq) j)else v) λb x g e=>by
    have:=aQ (b+1) x (by simp_all) e;grind
   rw[nB,nB,d];congr 1;cases f:a.wr.contains j
   ·simp
   have:=aQ 0 a o f;grind
def Pj{ls:Nat->aI}{aq:Nat->Hid}{E:R (Nat×J)}{t:Nat}:∀{k:Nat} {aR:R ee},(∀(a:Nat) (b:ee),aR[a]? =V b->ls (k+a)=Z->b.slot≠V t)->look (jj ls aq E k aR) t=look E t
 |_,[],_=>rfl
 | k,b::d,aQ=>by
   have h:=Pj (ls:=ls) (aq:=aq) (E:=E) (t:=t) (k:=k+1) (aR:=d) λa x i j=>aQ (a+1) x (by simp_all) (by grind);unfold jj;split
   ·rename_i c e f;have l:be c t=bi:=by
     cases g:be c t
     ·rfl
     have:=kb.1 g;subst this;exact absurd f (aQ 0 b o e)
    simp_all[look,cond_false]
   omega
def Pz{ls:Nat->aI}{aq:Nat->Hid}{E:R (Nat×J)}{s:Nat}:∀{k:Nat} {aR:R ee} {j:Nat} {h:ee},aR[j]? =V h->ls (k+j)=Z->h.slot=V s->(∀a x,aR[a]? =V x->x.slot=V s->a=j)->look (jj ls aq E k aR) s=V (h.dm (hE h.up (k+j) aq))
 |_,[],_,_,h,_,_,_=>by simp at h
 | k,x::b,0,h,e,f,aR,_=>by
   simp_all[bW,iG,bZ,jj,look,Jl]
 | k,x::b,j+1,h,e,f,aR,c=>by
   have g:=Pz (ls:=ls) (aq:=aq) (E:=E) (s:=s) (k:=k+1) (aR:=b) (j:=j) (h:=h) (by simp_all) (by grind) aR λa y n i=>by
    have:=c (a+1) y (by grind) i;omega
   rw[show k+1+j=k+(j+1) by omega]at g;unfold jj;split
   ·rename_i d p l;have q:be d s=bi:=by
     cases m:be d s
     ·rfl
     have:=kb.1 m;subst this;have:=c 0 x o l;omega
    simp_all[look,cond_false]
   omega
def WC{d:Nat->aI}{aq:Nat->Hid}{E:R (Nat×J)}{t:Nat}{f:J}:∀{b:Nat} {aR:R ee},look (jj d aq E b aR) t=V f->(∃(c:Nat) (a:ee),aR[c]? =V a∧d (b+c)=Z∧a.slot=V t∧f=a.dm (hE a.up (b+c) aq))∨(look E t=V f∧∀(g:Nat) (a:ee),aR[g]? =V a->d (b+g)=Z->a.slot≠V t)
 |_,[],a=>.inr ⟨a,λg a m=>by grind⟩
 | b,x::h,a=>by
   unfold jj at a;have go:(d b=Z->x.slot≠V t)->look (jj d aq E (b+1) h) t=V f->(∃(c:Nat) (a:ee),(x::h)[c]? =V a∧d (b+c)=Z∧a.slot=V t∧f=a.dm (hE a.up (b+c) aq))∨(look E t=V f∧∀(g:Nat) (a:ee),(x::h)[g]? =V a->d (b+g)=Z->a.slot≠V t):=λn a=>by
    rcases WC a with⟨c,y,i,j,k,o⟩|⟨i,j⟩
    ·exact .inl ⟨c+1,y,by simp_all,by grind,k,by grind⟩
    grind
   split at a
   ·rename_i l i j;simp only[look]at a;by_cases e:be l t=Z
    ·rw[e]at a;simp only[cond_true,iG]at a;have:=kb.1 e;subst this;exact .inl ⟨0,x,rfl,i,j,a.symm⟩
    simp_all
   simp_all
def j0(aq:Nat->Hid)(aR:R ee)(E:R (Nat×J)):R Nat->R (Nat×J)
 |[]=>E
 | c::a=>match aR[c]? with
   | some b=>match b.slot with
     |some d=>(d,b.dm (hE b.up c aq))::j0 aq aR E a
     |none=>j0 aq aR E a
   |none=>j0 aq aR E a
def XM{aq:Nat->Hid}{aR:R ee}{E:R (Nat×J)}{t:Nat}{b:J}:∀{d:R Nat},look (j0 aq aR E d) t=V b->(∃c∈d,∃a:ee,aR[c]? =V a∧a.slot=V t∧b=a.dm (hE a.up c aq))∨look E t=V b
 |[],a=>.inr a
 | c::f,a=>by
   have go:look (j0 aq aR E f) t=V b->(∃i∈c::f,∃a:ee,aR[i]? =V a∧a.slot=V t∧b=a.dm (hE a.up i aq))∨look E t=V b:=λa=>by
    rcases XM a with⟨i,g,j⟩|g
    ·grind
    simp_all
   unfold j0 at a;split at a
   ·rename_i x k;split at a
    ·rename_i h l;simp only[look]at a;by_cases e:be h t=Z
     ·simp_all
     simp_all
    simp_all
   simp_all
def ym(E:R (Nat×J))(a:bt):R Nat->Prop
 |[]=>True
 |b::c=>look E b=V (.eq a)∧ym E a c
def ym.get{E:R (Nat×J)}{b:bt}:∀{c:R Nat},ym E b c->∀a∈c,look E a=V (.eq b)
 | _::_,d,a,aR=>by
   rcases fj.1 aR with rfl|aR
   ·exact d.1
   exact ym.get d.2 a aR
def AT(a:J)(E:R (Nat×J)):R Nat->R (Nat×J)
 |[]=>E
 |b::c=>(b,a)::AT a E c
def WD{c:J}{E:R (Nat×J)}{t:Nat}{b:J}:∀{d:R Nat},look (AT c E d) t=V b->(t∈d∧b=c)∨look E t=V b
 |[],a=>.inr a
 | f::h,a=>by
   simp only[AT,look]at a;by_cases e:be f t=Z
   ·simp_all
   simp only[qc]at e;rw[e]at a;rcases WD a with⟨g,i⟩|g
   ·simp_all
   simp_all
def yv{w:Nat}(a b:cE w):cE w:=if a<=b then a else b
def rC:aw Nat->J->R (Nat×J)->R (Nat×J)
 |some a,b,E=>(a,b)::E
 |none,_,E=>E
section
variable{c:cX}{E:R (Nat×J)}{L:R aK}{ops:bE bA}{Q:cK->cg->bj->Prop}
def b0.hb{g:cg}{h:bj}{au:aB}[ah au]{i a j:Nat}{k:R Nat}{b:aw Nat}{d:R au}(e:b0 c E L g h)(q:ym E (aH b (U d) a) k)(l:L[i]? =V ⟨b,.row j d a⟩):
 b0 c (AT (.of d) E k) (L.set i ⟨Y,.dead⟩) g h:=by
 have m:=e.kill i
 refine {m with env:=λt r A=>?_}
 rcases WD A with⟨n,rfl⟩|f
 ·obtain⟨o,f,B⟩:=e.env t _ (q.get t n)
  refine⟨o,f,oO.2 ?_⟩
  have C:o=aH b (U d) a:=B
  subst C
  have p:=e.own _ (fM l)
  cases b with
  |none=>exact .inl ⟨rfl,p.1⟩
  | some D=>
    obtain⟨ak,F,G,rfl,H,aQ,K,aF⟩:=p
    obtain⟨I,J⟩:=OX H aQ aF
    refine .inr ⟨D,0,a,G,j,(0,0),rfl,e.GD l,F,aQ,by omega,I,?_⟩
    have M:=Cb (L:=L) (i:=i) (gg:=.dead)
    exact J.mono (.drop λN n=>by
     grind)
 exact m.env t r f
def aa.hb{b:R bA}{au:aB}[ah au]{d:aw Nat}{a:R au}{e g:Nat}(i:Nat)(f:R Nat)(h:ym E (aH d (U a) e) f)(j:L[i]? =V ⟨d,.row g a e⟩)
 (k:aa c ops Q b (AT (.of a) E f) (L.set i ⟨Y,.dead⟩)):aa c ops Q b E L:=λl m n=>k l m (n.hb h j)
def af.hb{x:cK}{au:aB}[ah au]{b:aw Nat}{a:R au}{d f:Nat}(i:Nat)(e:R Nat)(g:ym E (aH b (U a) d) e)(h:L[i]? =V ⟨b,.row f a d⟩)
 (j:af c Q x (AT (.of a) E e) (L.set i ⟨Y,.dead⟩)):af c Q x E L:=λk l m=>j k l (m.hb g h)
def ar.hb{b:ec}{au:aB}[ah au]{d:aw Nat}{a:R au}{e g:Nat}(i:Nat)(f:R Nat)(h:ym E (aH d (U a) e) f)(j:L[i]? =V ⟨d,.row g a e⟩)
 (k:ar c Q b (AT (.of a) E f) (L.set i ⟨Y,.dead⟩)):ar c Q b E L:=λl m n=>k l m (n.hb h j)
def fb(c:cX)(ops:bE bA)(Q:cK->cg->bj->Prop)(aR:R ee)(E:R (Nat×J))(L:R aK)(i:Nat)(ak:bA)(a:ee):Prop:=
 ∀ (aq:Nat->Hid) (b:R (Nat×J)) (d:R aK),(∀t g,look (j0 aq aR E a.up) t=V g->look b t=V g)->
   (∀f e,(hi (λ_=>Z) aq 0 (aR.take i) L)[f]? =V e->a.rd.contains f=Z->d[f]? =V e)->
   aa c ops (yK (λh j=> ∃x,b0 c (rC a.slot (a.dm (hE a.up i (lA aq i x))) b) (pO d (a.dS (hE a.up i (lA aq i x))) a.wr) h j) Q) [ak] b d
def wu(c:cX)(ops:bE bA)(Q:cK->cg->bj->Prop)(aR:R ee)(E:R (Nat×J))(L:R aK):Nat->R bA->R ee->Prop
 |_,[],[]=>True
 |i,ak::a,b::d=>fb c ops Q aR E L i ak b∧wu c ops Q aR E L (i+1) a d
 |_,_,_=>False
def wu.get{aR:R ee}:∀{a:Nat} {e:R bA} {g:R ee},wu c ops Q aR E L a e g->∀i d ak,g[i]? =V d->e[i]? =V ak->fb c ops Q aR E L (a+i) ak d
 |a,[],[],_,i,d,ak,f,_=>by grind
 | a,j::e,k::l,b,i,d,ak,f,h=>by
   cases i with
   | zero=>
     simp only[bW,iG]at f h
     subst f;subst h;exact b.1
   | succ i=>
     have:=wu.get b.2 i d ak (by simp_all) (by simp_all)
     grind
 |a,[],_::_,b,_,_,_,_,_=>b.elim
 |a,_::_,[],b,_,_,_,_,_=>b.elim
def Vo{ls hG:Nat->aI}{aq:Nat->Hid}:∀{k:Nat} {aR:R ee},(∀a,a<U aR->ls (k+a)=hG (k+a))->jj ls aq E k aR=jj hG aq E k aR
 |_,[],_=>rfl
 | k,c::b,aQ=>by
   have d:=Vo (ls:=ls) (hG:=hG) (aq:=aq) (k:=k+1) (aR:=b) λa e=>by
    have:=aQ (a+1) (by simp_all);grind
   have f:=aQ 0 (by simp);simp_all[bZ,jj]
def WE{c hG:Nat->aI}{aq:Nat->Hid}:∀{a:Nat} {aR:R ee} {L:R aK},(∀b,b<U aR->c (a+b)=hG (a+b))->hi c aq a aR L=hi hG aq a aR L
 |_,[],_,_=>rfl
 | a,e::f,L,aQ=>by
   have d:=aQ 0 (by simp);simp only[bZ]at d;rw[hi,hi,d];exact WE λb g=>by
    have:=aQ (b+1) (by simp_all);grind
def lB(aR:R ee):R (aw Nat×R Nat×R Nat×R Nat):=aR.map λa=>(a.slot,a.up,a.rd,a.wr)
def P0{aR:R ee}{i:Nat}{a:ee}(b:aR[i]? =V a):(lB aR)[i]? =V (a.slot,a.up,a.rd,a.wr):=by grind[lB]
def x6(c:cX)(ops:bE bA)(Q:cK->cg->bj->Prop)(aR:R ee)(E:R (Nat×J))(L:R aK)(g:Nat)(i:Nat)(ak:bA)(a:ee):Prop:=
 ∀ (aq:Nat->Hid) (d:R (Nat×J)) (b:R aK),(∀t h,look (j0 aq aR E a.up) t=V h->look d t=V h)->
   (∀f e,(hi (λ_=>Z) aq 0 (aR.take i) L)[f]? =V e->a.rd.contains f=Z->b[f]? =V e)->b.drop g=L.drop g->
   aa c ops (yK (λj k=> ∃x,b0 c (rC a.slot (a.dm (hE a.up i (lA aq i x))) d) (pO b (a.dS (hE a.up i (lA aq i x))) a.wr) j k) Q) [ak] d b
def qn(c:cX)(ops:bE bA)(Q:cK->cg->bj->Prop)(aR:R ee)(E:R (Nat×J))(L:R aK)(a:Nat):Nat->R bA->R ee->Prop
 |_,[],[]=>True
 |i,ak::b,d::e=>x6 c ops Q aR E L a i ak d∧qn c ops Q aR E L a (i+1) b e
 |_,_,_=>False
def qn.get{aR:R ee}{g:Nat}:∀{a:Nat} {e:R bA} {h:R ee},qn c ops Q aR E L g a e h->∀i d ak,h[i]? =V d->e[i]? =V ak->x6 c ops Q aR E L g (a+i) ak d
 |a,[],[],_,i,d,ak,f,_=>by grind
 | a,k::e,l::m,b,i,d,ak,f,j=>by
   cases i with
   | zero=>
     simp only[bW,iG]at f j
     subst f;subst j;exact b.1
   | succ i=>
     have:=qn.get b.2 i d ak (by simp_all) (by simp_all)
     grind
 |a,[],_::_,b,_,_,_,_,_=>b.elim
 |a,_::_,[],b,_,_,_,_,_=>b.elim
def wu.HK{aR:R ee}{f:Nat}:∀{b:Nat} {d:R bA} {e:R ee},wu c ops Q aR E L b d e->qn c ops Q aR E L f b d e
 |_,[],[],_=>trivial
 |_,_::_,_::_,a=>⟨λaq g h i j _=>a.1 aq g h i j,wu.HK a.2⟩
 |_,[],_::_,a=>a.elim
 |_,_::_,[],a=>a.elim
def VT{a:Nat}:∀{L:R aK} {c:Nat->aK} {d:R Nat},(∀b∈d,b<a∨U L<=b)->(pO L c d).drop a=L.drop a
 |_,_,[],_=>rfl
 | L,c,b::e,f=>by
   rw[pO,VT (λg h=>by simp_all)];grind[List.drop_set_of_lt,List.set_eq_of_length_le]
def P1{g:Nat->aI}{aq:Nat->Hid}{b:Nat}:∀{c:Nat} {aR:R ee} {L:R aK},(∀d∈aR,∀a∈d.wr,a<b∨U L<=a)->(hi g aq c aR L).drop b=L.drop b
 |_,[],_,_=>rfl
 | c,d::i,L,e=>by
   rw[hi];cases j:g c
   ·exact P1 λx f=>e x (by simp[f])
   simp only[cond_true];rw[P1 (λx f a h=>by rw[U3];exact e x (by simp[f]) a h),VT (e d (by simp))]
def ZZ{aR:R ee}{c:R (aw Nat×R Nat×R Nat×R Nat)}{e:Nat}(f:lB aR=c)(b:(c.all λd=>d.2.2.2.all λa=>bu a e)=Z):∀b∈aR,∀a∈b.wr,a<e∨U L<=a:=λx g a h=>by
 subst f;have i:=qd.1 b (x.slot,x.up,x.rd,x.wr) (lk.2 ⟨x,g,rfl⟩);simp_all
def af.fin{a:aw Nat}{up b:R Nat}{i:Nat}{aq:Nat->Hid}{d:(Nat->Hid)->J}{dS:(Nat->Hid)->Nat->aK}{e f:R (Nat×J)}{g h:R aK}(x:Hid)(l:f=rC a (d (hE up i (lA aq i x))) e)(m:h=pO g (dS (hE up i (lA aq i x))) b):
 af c (yK (λj k=> ∃x,b0 c (rC a (d (hE up i (lA aq i x))) e) (pO g (dS (hE up i (lA aq i x))) b) j k) Q) .normal f h:=λj k n=>by
 subst l m
 exact⟨x,n⟩
def af.place{b:cK}{e:aK}(a:Nat)(g:L[a]? =V ⟨Y,.dead⟩)(h:af c Q b E (L.set a e)):af c Q b E (e::L):=λi j d=>by
 refine h i j (d.sub (λx p=>?_) ?_)
 ·grind
 have k:=xJ g;have l:(L.set a e).Perm (e::L.eraseIdx a):=by
  have m:(L.set a e)[a]? =V e:=by grind
  have q:=xJ m;grind
 have f:=xR (k.cons e);have n:aP (e::⟨Y,.dead⟩::L.eraseIdx a)=aP (e::L.eraseIdx a):=by cases o:e.key <;> simp[aP,o]
 rw[n]at f;exact(xR l).nodup_iff.2 (f.nodup_iff.1 d.nodup)
def af.back{b:cK}{e f:aK}(a:Nat)(l:L[a]? =V f)(g:af c Q b E (L.set a e)):af c Q b E (e::L.eraseIdx a):=λh i j=>by
 have k:(L.set a e)[a]? =V e:=by grind
 have d:=xJ k;rw[List.eraseIdx_set_eq]at d;exact g h i (j.perm d.symm)
def ar.kS{g:ec}(b:Nat)(h:ar c Q g E (L++bv b ⟨Y,.dead⟩)):ar c Q g E L:=λi j a=>by
 refine h i j ?_;have d:aP (L++bv b ⟨Y,.dead⟩)=aP L:=by
  rw[fF];have:∀b,aP (bv b (⟨Y,.dead⟩:aK))=[]:=λb=>by
   induction b with
   |zero=>rfl
   |succ b m=>simp_all[List.replicate_succ,aP]
  simp_all
 exact
 {defers:=a.defers
  size:=a.size
  env:=λt k l=>by rw[d];exact a.env t k l
  ey:=a.ey
  own:=λe f=>by
   rw[d];rcases eN.1 f with f|f
   ·exact a.own e f
   rw[(List.mem_replicate.1 f).2];trivial
  nodup:=by rw[d];exact a.nodup
  lt:=by rw[d];exact a.lt
  gl:=by rw[d];exact a.gl
  eW:=by rw[d];exact a.eW}
def ar.G9{b:ec}(d a:Nat)(f:ar c Q b E (L.take a++(bv d ⟨Y,.dead⟩++L.drop a))):ar c Q b E L:=by
 refine ar.kS d λg h i=>f g h (i.perm ?_);have e:L=L.take a++L.drop a:=(rT a L).symm;conv=>lhs;rw[e]
 rw[mI];exact ox.append_left _
def af.qE{a:cK}{mC:R aK}(b:L=mC)(d:af c Q a E mC):af c Q a E L:=by subst b;exact d
def af.hL{b:cK}{d:aw Nat}{f m g:Nat}(a:Nat)(n:look E a=V (.eq (aH d f g)))(aQ:f=m)(h:af c Q b ((a,.eq (aH d m g))::E) L):af c Q b E L:=λi j k=>by
 subst aQ;refine h i j (k.less λt o l=>?_);simp only[look]at l;by_cases e:be a t=Z
 ·simp_all
 simp_all
variable{aR:R ee}{i d:Nat}{up rd:R Nat}{dS:(Nat->Hid)->Nat->aK}{ak:bA}
def jL{a:J}(h:ak.guard=Y)(aq:ak.dst=V d)(aQ:bu d c.n=Z)
 (j:∀(aq:Nat->Hid) (b:R (Nat×J)) (f:R aK),(∀t a,look (j0 aq aR E up) t=V a->look b t=V a)->(∀g e,(hi (λ_=>Z) aq 0 (aR.take i) L)[g]? =V e->rd.contains g=Z->f[g]? =V e)->aZ c b f ak a):
 fb c ops Q aR E L i ak ⟨V d,up,rd,[],λ_=>a,dS⟩:=λk b f l m=>
 aa.v (j k b f l m) h aq aQ (aa.nil (af.fin (λ_=>Y) o o))
def aaL{a g:Nat}{j k:aI}{b:J}(n:ak.guard=V (a,k))(p:(ops[a]?).bind (·.dst)=V g)(aq:ak.dst=V d)(aQ:bu d c.n=Z)
 (q:∀aq,look (j0 aq aR E up) g=V (.of j))
 (r:∀(aq:Nat->Hid) (f:R (Nat×J)) (h:R aK),(∀t b,look (j0 aq aR E up) t=V b->look f t=V b)->(∀a e,(hi (λ_=>Z) aq 0 (aR.take i) L)[a]? =V e->rd.contains a=Z->h[a]? =V e)->j=k->aZ c f h ak b):
 fb c ops Q aR E L i ak ⟨V d,up,rd,[],λ_=>.cond (j=k) b,dS⟩:=λl f h m A=>
 aa.g (r l f h m A) n p (m _ _ (q l)) aq aQ (aa.nil (af.fin (λ_=>Y) o o))
variable{ty t:bH}{pos:String}{a1:bE Edge}
def aa.aav{au:aB}[ah au]{rest:R bA}{a8 e a:Nat}{d:au}{MF b:R au}{f:R (Nat×cx)}(h:c.P.underlying t=V (.slice e))(i:bR c.P e au)(j:dn c.P e d)(aR:be (ah.size au) 0=bi)(aQ:cd (a*ah.size au) 16777216=Z)
 (k:pF c E L (bv a d) f MF) (aF:MF=b) (l:bu a8 c.n=Z) (m:∀g,aa c ops Q rest ((a8,.eq (aH g (U b) a))::E) (⟨g,.row e b a⟩::L)):
 aa c ops Q (⟨V a8,.buildSlice t a f.toArray,ty,pos,a1,Y⟩::rest) E L:=by subst aF;exact aa.ry h i j aR aQ k l m
variable{g:aw (Nat×aI)}{x y:cx}
def aiU{a b:cE 64}{a8:aw Tmp}{h:bE bH}(i:aN c E L x (.of a))(j:aN c E L y (.of b)):aZ c E L ⟨a8,.call ⟨.builtin .min,#[x,y],h⟩,ty,pos,a1,g⟩ (.of (yv a b)):=.pure λd e f=>
 ⟨.int .u64 (yv a b).toNat,by
   simp[execOp,resolve,invoke,builtin,d1,d2,ga.1 (i d e f),ga.1 (j d e f)];grind[yv,dN],ga.2 o⟩
end
section
variable{c:cX}{E:R (Nat×J)}{L:R aK}{ops:bE bA}{Q:cK->cg->bj->Prop}
variable{d:aw Tmp}{ty:bH}{pos:String}{a1:bE Edge}{g:aw (Nat×aI)}{x y:cx}{t t2:bH}
def Src(c:cX)(E:R (Nat×J))(L:R aK)(y:cx)(g:Nat){b:aB}[ah b](f:R b):Prop:=
 ∀d a,b0 c E L d a->(cF (d.eval y)).run c.P a=.ok g a∧∃e:R bt,(b2 (ah.size b) (U f) (d.eval y)).run c.P a=.ok e.toArray a∧hP (aP L++c.cv) a e f∧∀h∈e,h.oneCell'=Z
def aa.L1{rest:R bA}{i e p off a8 Dx Ho N T:Nat}{k iv:ft}{h:aB}[ah h]{gY:R h}(A:c.P.underlying t=V (.slice e))(B:bR c.P e h)
 (C:aN c E L x (.eq (.slice (V ⟨p,off,Y⟩) Dx Ho))) (D:Src c E L y N gY) (F:Nat.min N Dx=U gY) (l:L[i]? =V ⟨V p,k⟩) (aQ:bu a8 c.n=Z)
 (G:∀j a ak b,k.holds j a ak->hP j a b gY->∃d,ak=.cells d T (0,0)∧off+U b<=d.size∧iv.holds j a (.cells (d.toList.take off++b++d.toList.drop (off+U b)).toArray T (0,0)))
 (H:aa c ops Q rest ((a8,.of (U gY:Int))::E) (L.set i ⟨V p,iv⟩)):
 aa c ops Q (⟨V a8,.call ⟨.builtin .copy,#[x,y],#[t,t2]⟩,ty,pos,a1,Y⟩::rest) E L:=λf a g=>by
 have I:a8<c.n:=by simp_all
 have J:f.eval x=_:=C f a g
 obtain⟨K,b,M,aF,O⟩:=D f a g
 obtain⟨ak,m,ab⟩:=g.own _ (fM l)
 obtain⟨d,rfl,aj,ac⟩:=G _ _ _ _ ab aF
 obtain⟨al,ad,ae⟩:=B.info
 have n:=EE (P:=c.P) p off T b 0 d a m (by omega) O
 simp only[bZ]at n
 have af:(execOp f.eval ⟨V a8,.call ⟨.builtin .copy,#[x,y],#[t,t2]⟩,ty,pos,a1,Y⟩).run c.P a=.ok (.value (goInt (U gY))) (a.setRow p (d.toList.take off++b++d.toList.drop (off+U b)).toArray):=by
  simp[execOp,resolve,invoke,builtin,Builtin.copy_,J,dZ A,K,F,Go.sizeOf,typeInfo,ad,ae,M,n]
 refine jb o (hh:=λq r=>q=goInt (U gY)∧r=a.setRow p (d.toList.take off++b++d.toList.drop (off+U b)).toArray) (.lK af ⟨rfl,rfl⟩) λq r ⟨ag,ai⟩=>?_
 subst ag
 subst ai
 exact H _ _ ((g.store l m ac).put I (of_int.2 o))
def K2{i m e dK N k:Nat}{n:aw Nat}{a:aB}[ah a]{b:R a}(r:aN c E L y (.eq (jf n dK N e (ah.size a))))(A:L[i]? =V ⟨n,.row m b e⟩)(M:0<k)(B:dK+k<=U b):
 Src c E L y N ((b.drop dK).take k):=λh g o=>by
 obtain⟨j,f,rfl,C,O,D,Q,F⟩:=o.rowAt A (by omega)
 have aa:h.eval y=_:=r h g o
 have ab:e≠dK:=by omega
 have d:h.eval y=.slice (V ⟨j,dK*ah.size a,Y⟩) N (e-dK):=by simp_all[jf]
 have G:U ((b.drop dK).take k)=k:=by grind
 have ac:U f.toList=e*ah.size a:=by omega
 have H:(dK+k)*ah.size a<=U b*ah.size a:=ij _ B
 have ad:U b*ah.size a<=e*ah.size a:=ij _ D
 rw[oE]at H
 have I:U ((f.toList.drop (dK*ah.size a)).take (k*ah.size a))=k*ah.size a:=by grind
 have p:hP (aP L++c.cv) g ((f.toList.drop (dK*ah.size a)).take (k*ah.size a)) ((b.drop dK).take k):=by
  refine⟨by simp_all,λl q=>?_⟩;rw[G]at q;have J:=F.2 (dK+l) (by omega);have ae:=C5 (s:=ah.size a) q;have af:=C5 (s:=ah.size a) (show dK+l<U b by omega);rw[vD,sb,qU (by omega)]at J;rw[vD,sb,qU (by omega),TZ,<-oE];simp_all
 have K:=Iz (P:=c.P) g ⟨j,dK*ah.size a,Y⟩ ((f.toList.drop (dK*ah.size a)).take (k*ah.size a)) λl ag d=>by
  rw[kD,FD g j _ f m (0,0) C];rw[nh]at d;split at d
  ·rw[pr]at d;simpa using d
  cases d
 rw[I]at K
 refine⟨by rw[d];rfl,(f.toList.drop (dK*ah.size a)).take (k*ah.size a),?_,p,p.one⟩
 grind[b2]
def PU{p dK a cap size:Nat}(b:cap≠dK):jf (V p) dK a cap size=Value.slice (V ⟨p,dK*size,Y⟩) a (cap-dK):=by grind[jf]
def XG{i f b:Nat}{d:aw Nat}{e:aB}[ah e]{a:R e}(g:aN c E L y (.eq (aH d (U a) b)))(h:L[i]? =V ⟨d,.row f a b⟩)(j:0<U a):Src c E L y (U a) a:=by
 have:=K2 (dK:=0) (k:=U a) (N:=U a) (by rw[CD];exact g) h j (by omega);simp_all
def Lm{a:aw Nat}{b d size:Nat}(e:aN c E L x (.eq (jf a 0 b d size))):aN c E L x (.eq (aH a b d)):=by simp_all[CD]
def Qw{p dK a cap size:Nat}(b:cap≠dK)(d:aN c E L x (.eq (jf (V p) dK a cap size))):aN c E L x (.eq (.slice (V ⟨p,dK*size,Y⟩) a (cap-dK))):=by simp_all[PU]
def ft.Mz{au:aB}[ah au](T:bH)(xs:R au)(i m cap:Nat):ft where
 holds A W ak:=∃cs,ak=.cells cs T (0,0)∧cs.size=cap*ah.size au∧U xs+m<=cap∧cap<=maxLen∧hP A W (cs.toList.take (i*ah.size au)) (xs.take i)∧
  hP A W ((cs.toList.drop ((i+m)*ah.size au)).take ((U xs-i)*ah.size au)) (xs.drop i)
 oX:=False
 mono e h:=let⟨cs,h1,fx,iX,nJ,nM,lU⟩:=h; ⟨cs,h1,fx,iX,nJ,nM.mono e,lU.mono e⟩
def aj9{a:aB}[ah a]{e i b f:Nat}{c:R a}(k:i<=U c)(l:U c+b<=f){h j ak g}(n:(ft.row e c f).holds h j ak)(o:hP h j g (c.drop i)):
 ∃d,ak=.cells d e (0,0)∧(i+b)*ah.size a+U g<=d.size∧(ft.Mz e c i b f).holds h j (.cells (d.toList.take ((i+b)*ah.size a)++g++d.toList.drop ((i+b)*ah.size a+U g)).toArray e (0,0)):=by
 obtain⟨d,rfl,p,q,m,r⟩:=n
 have B:U d.toList=f*ah.size a:=by omega
 have C:U g=(U c-i)*ah.size a:=by rw[o.1,qT]
 have D:(i+b)*ah.size a+(U c-i)*ah.size a=(U c+b)*ah.size a:=by rw[<-oE];grind
 have E:(U c+b)*ah.size a<=f*ah.size a:=ij _ l
 have A:i*ah.size a<=(i+b)*ah.size a:=ij _ (by omega)
 have F:i*ah.size a<=U c*ah.size a:=ij _ k
 have G:U (d.toList.take ((i+b)*ah.size a))=(i+b)*ah.size a:=by grind
 refine⟨d,rfl,by omega,_,rfl,?_,l,m,?_,?_⟩
 ·grind
 ·rw[bY,mI,MX (by omega),sb,qU A]
  have:=KD k (⟨d,rfl,p,q,m,r⟩:(ft.row e c f).holds h j (.cells d e (0,0)))
  obtain⟨H,I,_,_,_,J⟩:=this
  simp_all
 simp_all
def aiL{a:aB}[ah a]{f i g:Nat}{c b:R a}(C:i<=U c){h j ak e}(l:(ft.Mz f c i (U b) g).holds h j ak)(k:hP h j e b):
 ∃d,ak=.cells d f (0,0)∧i*ah.size a+U e<=d.size∧(ft.row f (c.take i++b++c.drop i) g).holds h j (.cells (d.toList.take (i*ah.size a)++e++d.toList.drop (i*ah.size a+U e)).toArray f (0,0)):=by
 obtain⟨d,rfl,D,m,n,o,p⟩:=l
 have E:U d.toList=g*ah.size a:=by omega
 have q:U e=U b*ah.size a:=k.1
 have r:i*ah.size a+U b*ah.size a=(i+U b)*ah.size a:=by grind
 have F:(i+U b)*ah.size a+(U c-i)*ah.size a=(U c+U b)*ah.size a:=by rw[<-oE];grind
 have G:(U c+U b)*ah.size a<=g*ah.size a:=ij _ m
 have A:U (c.take i++b++c.drop i)=U c+U b:=by grind
 refine⟨d,rfl,by omega,_,rfl,?_,by omega,n,?_⟩
 ·grind
 rw[bY,A]
 have H:=xG (xG o k) p
 have B:U (d.toList.take (i*ah.size a)++e)=(i+U b)*ah.size a:=by grind
 have I:(d.toList.take (i*ah.size a)++e++d.toList.drop (i*ah.size a+U e)).take ((U c+U b)*ah.size a)=d.toList.take (i*ah.size a)++e++(d.toList.drop ((i+U b)*ah.size a)).take ((U c-i)*ah.size a):=by
  rw[IP,B,rS (by omega),q,r];grind
 simp_all
def Pw{a:aB}[ah a]{g dK h:Nat}{b f:R a}(k:dK+U f<=U b){i j ak d}(m:(ft.row g b h).holds i j ak)(l:hP i j d f):
 ∃c,ak=.cells c g (0,0)∧dK*ah.size a+U d<=c.size∧(ft.row g (b.take dK++f++b.drop (dK+U f)) h).holds i j (.cells (c.toList.take (dK*ah.size a)++d++c.toList.drop (dK*ah.size a+U d)).toArray g (0,0)):=by
 obtain⟨c,rfl,A,n,o,p⟩:=m
 have B:U c.toList=h*ah.size a:=by omega
 have C:U d=U f*ah.size a:=l.1
 have D:dK*ah.size a+U f*ah.size a=(dK+U f)*ah.size a:=by grind
 have E:(dK+U f)*ah.size a<=U b*ah.size a:=ij _ k
 have F:U b*ah.size a<=h*ah.size a:=ij _ n
 have q:U (b.take dK++f++b.drop (dK+U f))=U b:=by grind
 refine⟨c,rfl,by omega,_,rfl,?_,by omega,o,?_⟩
 ·grind
 rw[bY,q]
 have G:=VQ (dK:=dK) p l k
 have e:(c.toList.take (dK*ah.size a)++d++c.toList.drop (dK*ah.size a+U d)).take (U b*ah.size a)=(c.toList.take (U b*ah.size a)).take (dK*ah.size a)++d++(c.toList.take (U b*ah.size a)).drop (dK*ah.size a+U d):=by
  have r:U (c.toList.take (dK*ah.size a)++d)=dK*ah.size a+U d:=by grind
  rw[IP,r,rS (by omega),sb,qU (by omega),vD]
 simp_all
def als{f h a e:Nat}(i:c.P.underlying t=V (.slice e))(j:aN c E L x (.eq (aH (V f) h a))):aZ c E L ⟨d,.call ⟨.builtin .cap,#[x],#[t]⟩,ty,pos,a1,g⟩ (.of (a:Int)):=.pure λb k l=>by
 have m:b.eval x=_:=j b k l;exact⟨.int .i64 a,by simp[execOp,resolve,invoke,builtin,Builtin.cap_,m,aH,dZ i,goInt],of_int.2 o⟩
def vT{p n cap:Nat}{au:aB}[ah au]{e:bH}{D F:aw cx}{m h:Nat}{G H:Int}(k:c.P.underlying t=V (.slice e))(O:bR c.P e au)(P:aN c E L x (.eq (aH (V p) n cap)))
 (B:vp c E L D G 0) (l:vp c E L F H n) (Q:G=m) (aQ:H=h) (i:m<=h∧h<=cap):
 aZ c E L ⟨d,.slice t x D F Y,ty,pos,a1,g⟩ (.eq (jf (V p) m (h-m) cap (ah.size au))):=.pure λf a j=>by
 subst Q;subst aQ
 obtain⟨R,o⟩:=i
 obtain⟨ab,q,r⟩:=O.info
 have A:f.eval x=_:=P f a j
 refine⟨_,?_,rfl⟩
 simp only[jf]
 have I:∀b,b=Value.int .i64 m->(bK b h .sliceB).run c.P a=.ok m a:=λb C=>qi R C
 have J:∀b,b=Value.int .i64 h->(bK b cap .sliceAcap).run c.P a=.ok h a:=λb C=>qi (by omega) C
 generalize K:(h:Int)=Sx at l
 generalize aa:(m:Int)=Sy at B
 generalize ac:(n:Int)=Sz at l
 generalize ad:(0:Int)=SA at B
 cases B with
 | none=>
   have M:m=0:=by omega
   cases l with
   | none=>
     have o:h=n:=by omega
     subst o
     subst M
     simp[execOp,bL,bS,bx,A,aH,dZ k,Go.sizeOf,typeInfo,q,r,kD]
   | some i=>
     subst K
     subst M
     simp[execOp,bL,bS,bx,A,aH,dZ k,Go.sizeOf,typeInfo,q,r,kD,J _ (of_int.1 (i f a j))]
 | some N=>
   subst aa
   cases l with
   | none=>
     have o:h=n:=by omega
     subst o
     simp[execOp,bL,bS,bx,A,aH,dZ k,Go.sizeOf,typeInfo,q,r,kD,I _ (of_int.1 (N f a j))]
     split <;> rfl
   | some i=>
     subst K
     simp[execOp,bL,bS,bx,A,aH,dZ k,Go.sizeOf,typeInfo,q,r,kD,I _ (of_int.1 (N f a j)),J _ (of_int.1 (i f a j))]
     split <;> rfl
def anY{f:FuncId}{a:Func}{p q T Sv cap aaQ i j e Sw l m n r A B:Nat}{au:aB}[ah au]{xs gY:R au}(ab:be (ah.size au) 0=bi)
 (ac:c.P.funcs[f]? =V a) (ad:(a.name== "runtime.NumGoroutine")=bi) (ae:a.body.isNone=Z) (aQ:Extern.findNext a=Y)
 (af:Extern.find a=V (Extern.SlicesOverlaps.overlaps #[t,t] #[Sw])) (F:c.P.underlying t=V (.slice e)) (G:bR c.P e au)
 (H:aN c E L x (.eq (.slice (V ⟨q,A,Y⟩) l m))) (I:aN c E L y (.eq (.slice (V ⟨p,B,Y⟩) n r)))
 (J:L[i]? =V ⟨V p,.row T xs cap⟩) (K:L[j]? =V ⟨V q,.row Sv gY aaQ⟩) (M:p≠q) (ag:0<cap):
 aZ c E L ⟨d,.call ⟨.value (.func f),#[x,y],#[t,t]⟩,ty,pos,a1,g⟩ (.of bi):=.pure λb k h=>by
 obtain⟨ak,ai,C,rfl,N,aj,al,am⟩:=h.own _ (fM J)
 obtain⟨an,ao,O,rfl,ap,aq,ar,av⟩:=h.own _ (fM K)
 obtain⟨aw,ax,ay⟩:=G.info
 have az:b.eval x=_:=H b k h
 have aA:b.eval y=_:=I b k h
 have Q:ah.size au≠0:=λD=>by simp_all
 have aa:C.size≠0:=by rw[N];exact Nat.mul_ne_zero (by omega) Q
 have MA:=Lib.run_overlaps_apart (P:=c.P) k t Sw e F (ah.size au) (λw=>by simp_all[Go.sizeOf,typeInfo]) ⟨q,A,Y⟩ ⟨p,B,Y⟩ l m n r (λD=>M D.symm) Sv T O.size C.size
  (by grind[World.shape?]) (by grind[World.shape?]) aa (by grind[World.frozen?]) (by grind[World.frozen?])
 refine⟨.bool bi,?_,by exact of_bool.2 o⟩
 have aC:b.eval (.func f)=.func (.func f) #[] #[]:=rfl
 simp_all[execOp,resolve,b',invoke,run_callFunc_extern]
def aa.aqt{b:aB}[ah b]{rest:R bA}{a8 i e q d m k g l:Nat}{hg:IntKind}{xs:R b}{z:b}(ac:c.P.underlying t=V (.slice e))(ad:c.P.underlying t2=V (.int hg))(ae:bR c.P e b)(af:dn c.P e z)(aT:be (ah.size b) 0=bi)
 (aU:(c.P.info? e).map (·.bytes)=V q) (ag:aN c E L x (.eq (jf (V g) 0 m d (ah.size b)))) (ai:aN c E L y (.of (k:Int))) (aj:L[i]? =V ⟨V g,.row l xs d⟩) (al:m<=U xs) (am:0<k) (D:d<m+k)
 (an:(m+k)*q<=140737488355328) (ao:m+k<=maxLen) (aQ:bu a8 c.n=Z)
 (ap:∀F G,aa c ops Q rest ((a8,.eq (aH (V F) (m+k) G))::E) (⟨V F,.row e (xs.take m++bv k z) G⟩::L)):
 aa c ops Q (⟨V a8,.call ⟨.builtin .append,#[x,y],#[t,t2]⟩,ty,pos,a1,Y⟩::rest) E L:=λh a n=>by
 obtain⟨r,f,aq,ar,H⟩:=af.zero
 have au:r.size=ah.size b:=by
  obtain⟨aV,I,J⟩:=ae.info;simp_all
 have av:r.bytes=q:=by simp_all
 subst av
 have aW:f.cells.size=ah.size b:=by have:=ah.len (H [] a).2;omega
 have aw:ah.size b≠0:=λaX=>by simp_all
 have ax:a8<c.n:=by simp_all
 have I:h.eval x=.slice (V ⟨g,0,Y⟩) m d:=by
  have:=ag h a n;rw[CD]at this;exact this
 obtain⟨ak,ay,j,rfl,az,aA,aC,aD⟩:=n.own _ (fM aj)
 have aY:maxLen=9223372036854775807:=rfl
 have J:h.eval y=.int .i64 k:=of_int.1 (ai h a n)
 have aE:=KD al (⟨j,rfl,az,aA,aC,aD⟩:(ft.row l xs d).holds (aP L++c.cv) a (.cells j l (0,0)))
 obtain⟨aZ,A,_,_,_,B⟩:=aE
 cases A
 have K:U (xs.take m)=m:=by simp_all
 rw[K]at B
 have aG:∀(p:Nat) C,(j.toList.take (m*ah.size b))[p]? =V C->a.drew.cell? ((⟨g,0,Y⟩:Addr).add p)=V C:=by
  intro p C M;rw[nh]at M;split at M
  ·rw[kD,kx,FD a.drew g p j l (0,0) ay];simp_all
  simp_all
 have aI:=Iz (P:=c.P) a.drew ⟨g,0,Y⟩ _ aG
 rw[B.1,K]at aI
 have aF:=Lib.run_append_grow_zeros (P:=c.P) a t t2 ty e r f .i64 hg ac ad aq ar (V ⟨g,0,Y⟩) m d _ (by simp only[b2];rw[au];omega) k am (by omega) D (by omega)
  (by grind) (growslice_fits D an)
 have a0:=grownCap_ge a (m+k) d e
 have aJ:=grownCap_le_maxLen a (m+k) d e ao
 have aK:=H (aP L++c.cv) a
 have N:=Gw aK k aw
 have aL:bB f.cells k=(b3 (k*ah.size b)).map (f.cells[· % f.cells.size]!):=by grind[bB]
 rw[<-aL]at N
 have aM:=(xG B N).mono (Ext.ey (Fr.drew a))
 have a2:U (xs.take m++bv k z)=m+k:=by simp_all
 have aO:=(n.world (Fr.drew a)).alloc (ak:=.cells ((j.toList.take (m*ah.size b)).toArray++bB f.cells k++bB f.cells (grownCap a (m+k) d e-(m+k))) e)
  (gg:=.row e (xs.take m++bv k z) (grownCap a (m+k) d e))
  (PY (T:=e) aM (ds:=(bB f.cells (grownCap a (m+k) d e-(m+k))).toList) (by simp_all[cw,size_zeroCells]) (by omega) aJ (by simp))
 refine jb o (hh:=λO ab=>O=aH (V a.heap.size) (m+k) (grownCap a (m+k) d e)∧ab=a.drew.alloc (.cells ((j.toList.take (m*ah.size b)).toArray++bB f.cells k++bB f.cells (grownCap a (m+k) d e-(m+k))) e)) (.lK ?_ ⟨rfl,rfl⟩) λO ab ⟨aR,aS⟩=>?_
 ·simp only[execOp,resolve,invoke,builtin,eH,bm,a']
  have A:(#[x,y]:bE cx).map h.eval= #[h.eval x,h.eval y]:=by simp
  rw[A,I,J,aF]
  rfl
 subst aR
 subst aS
 exact ap _ _ _ _ (aO.put ax o)
def ar.some{d:ec}{i h a:Nat}{e:aw Nat}{f:aB}[ah f]{xs:R f}(j:L[i]? =c1 ⟨e,.row h xs a⟩)(k:0<U xs)(l:∀b,e=c1 b->U xs<=a->a<=maxLen->ar c Q d E L):ar c Q d E L:=λm n g=>by
 obtain⟨b,r,rfl,A,B,p,q,C⟩:=g.rowAt j k;exact l b o p q m n g
def ar.apart{a:ec}{b d:Nat}{g h:ft}{i:R aK}(m:L=⟨c1 b,g⟩::⟨c1 d,h⟩::i)(j:b≠d->ar c Q a E L):ar c Q a E L:=λk l f=>by
 refine j (λe=>?_) k l f;have:=f.nodup;simp_all[aP]
def P2{a:Nat}{b:J}:look ((a,b)::E) a=V b:=by
 show(bif be a a then V b else look E a)=V b;simp_all
def XN{b a:Nat}{c:J}(d:be b a=bi):look ((b,c)::E) a=look E a:=by
 show(bif be b a then V c else look E a)=look E a;simp_all
def J.both(dm bb:J):J where
 holds A W v:=dm.holds A W v∧bb.holds A W v
 mono e h:=⟨dm.mono e h.1,bb.mono e h.2⟩
def aa.alK{rest:R bA}{d B i h o ak O j:Nat}{k:aw Nat}{C q:aB}[ah C][ah q]{D F:C}{a:R q}(G:aG C (R q))(P:bR c.P t (R q))
 (ab:look E B=V (.eq (.pointer (V ⟨o,ak,Y⟩)))) (aR:be d B=bi) (H:look E d=V (.eq (aH k (U a) j)))
 (ao:L[i]? =V ⟨V o,.var D⟩) (ac:L[h]? =V ⟨k,.row O a j⟩) (ap:be h i=bi) (ad:ak=G.off) (af:G.set D a=F)
 (ag:aa c ops Q rest E ((L.set h ⟨Y,.dead⟩).set i ⟨V o,.var F⟩)):aa c ops Q (⟨Y,.store t (.tmp B) (.tmp d),ty,pos,a1,Y⟩::rest) E L:=λl m N=>by
 have ai:∀t g,look ((d,J.both (.eq (aH k (U a) j)) (.of a))::E) t=V g->(d=t∧g=J.both (.eq (aH k (U a) j)) (.of a))∨look E t=V g:=λt g f=>by
  simp only[look]at f;by_cases e:be d t=Z
  ·simp_all
  simp_all
 have I:=N.kill h
 have aj:=N.freeze H ac
 have al:∀t g,look ((d,J.both (.eq (aH k (U a) j)) (.of a))::E) t=V g->∃n,l.tmps[t]? =V n∧g.holds (aP (L.set h ⟨Y,.dead⟩)++c.cv) m n:=λt g f=>by
  rcases ai t g f with⟨rfl,rfl⟩|f
  ·obtain⟨n,r,K⟩:=aj.env d (.of a) P2;obtain⟨aq,M,am⟩:=I.env d _ H;rw[r]at M;simp only[iG]at M;subst M;exact⟨n,r,am,K⟩
  exact I.env t g f
 have an:b0 c ((d,J.both (.eq (aH k (U a) j)) (.of a))::E) (L.set h ⟨Y,.dead⟩) l m:= {I with env:=al}
 have ar:h≠i:=λe=>by simp_all
 refine(aa.store (c:=c) (E:=(d,J.both (.eq (aH k (U a) j)) (.of a))::E) (L:=L.set h ⟨Y,.dead⟩) (i:=i) (p:=o) (b:=D) (et:=F) (v:=a) G P
  (ae ((XN aR).trans ab)) (λl m f=>?_) (by simp_all) ad af (λl m f=>ag l m (f.less λt g A=>?_))) l m an
 ·obtain⟨n,r,K⟩:=f.env d _ P2
  have e:l.eval (.tmp d)=n:=by simp[Act.eval,r]
  rw[e];exact K.2
 by_cases e:be d t=Z
 ·have:=kb.1 e
  subst this
  rw[H]at A
  simp only[iG]at A
  subst A
  exact⟨_,P2,λau m n f=>f.1⟩
 simp only[qc]at e
 exact⟨g,(XN e).trans A,λ_ _ _ f=>f⟩
def aa.aj8{rest:R bA}{b d i j f ak n k:Nat}{l:aw Nat}{g a:aB}[ah g][ah a]{m et:g}{xs:R a}(h:aG g (R a))(o:bR c.P t (R a))
 (p:look E d=V (.eq (.pointer (V ⟨f,ak,Y⟩)))) (aR:be b d=bi) (q:look E b=V (.eq (aH l (U xs) k)))
 (r:L[i]? =V ⟨V f,.var m⟩) (A:L[j]? =V ⟨l,.row n xs k⟩) (B:be j i=bi) (C:ak=h.off) (D:h.set m xs=et)
 (F:aa c ops Q rest E ((L.set i ⟨V f,.var et⟩).set j ⟨Y,.dead⟩)):aa c ops Q (⟨Y,.store t (.tmp d) (.tmp b),ty,pos,a1,Y⟩::rest) E L:=
 aa.alK h o p aR q r A B C D (by rw[List.set_comm _ _ (λe=>by simp_all)];exact F)
def WG{h d:aB}[ah h][ah d]{e f}{b:R bt}{x:h}{a:R (Nat×bt)}{k:bt}(c:aG h (R d))(i:mX e f b x a)(j:(c.off,k)∈a):mX e f b (c.set x []) a:=by
 refine⟨?_,i.2⟩;have m:=c.nt (ds:=[lP]) (g:=([]:R d)) i.1 (show ah.rep e f [lP] ([]:R d)from by
  have:=(oO (A:=e) (W:=f) (v:=lP) (xs:=([]:R d))).2 (.inl ⟨rfl,rfl⟩);exact this.2)
 have l:(blank a b)[c.off]? =V lP:=by
  rw[uA,bT (oA.2 ⟨_,j,by simp⟩),(i.2 _ j).1];rfl
 have n:c.off<U (blank a b):=(lX.1 l).1;have o:(blank a b).take c.off++[lP]++(blank a b).drop (c.off+ah.size (R d))=blank a b:=by
  show(blank a b).take c.off++[lP]++(blank a b).drop (c.off+1)=blank a b;grind[c5,List.singleton_append,c0,ci]
 simp_all
def aa.gQ{e:R bA}{f:Nat}{a aY:aB}[ah a][ah aY]{g et:a}{b:R (Nat×bt)}{j:bt}(d:aG a (R aY))(i k:Nat)(l:L[i]? =V ⟨V f,.bF g b⟩)(m:b[k]? =V (d.off,j))(n:d.set g []=et)
 (o:aa c ops Q e E (L.set i ⟨V f,.bF et b⟩)):aa c ops Q e E L:=λp h q=>
 o p h (q.again l (λD h ak ⟨r,A,B,C⟩=>⟨r,A,B,n▸WG d C (fM m)⟩) id)
def af.gQ{e:cK}{f:Nat}{a aY:aB}[ah a][ah aY]{g et:a}{b:R (Nat×bt)}{j:bt}(d:aG a (R aY))(i k:Nat)(l:L[i]? =V ⟨V f,.bF g b⟩)(m:b[k]? =V (d.off,j))(n:d.set g []=et)
 (o:af c Q e E (L.set i ⟨V f,.bF et b⟩)):af c Q e E L:=λp h q=>
 o p h (q.again l (λD h ak ⟨r,A,B,C⟩=>⟨r,A,B,n▸WG d C (fM m)⟩) id)
end
def Hq{c:aB}(d:Nat)(a:R c)(i:Int)(b:R c):aw (R c):=
 if 0<=i∧i<=U a∧0<U b∧(U a+U b)*d<=140737488355328∧U a+U b<=maxLen then V (a.take i.toNat++b++a.drop i.toNat)else Y
def ahD{g:aB}{d:Nat}{a b e:R g}{i:Int}(f:Hq d a i b=V e):
 ∃c:Nat,i=c∧c<=U a∧0<U b∧(U a+U b)*d<=140737488355328∧U a+U b<=maxLen∧e=a.take c++b++a.drop c:=by
 unfold Hq at f
 split at f
 ·grind
 grind
section
variable{c:cX}{E:R (Nat×J)}{L:R aK}{ops:bE bA}{Q:cK->cg->bj->Prop}{rest:R bA}{ak:bA}{a8:Nat}
variable{ty:bH}{pos:String}{a1:bE Edge}{x y:cx}{t t2:bH}
def bl{b:Nat}{a:R bA}{y:ec}(d:aa c a.toArray (Exit.then (c.wp y Q) Q) a E L):ar c Q (.seq (.region b a.toArray bi) y) E L:=.seq (.dW d)
def bC{y:ec}(h:ar c Q y E L):aa c ops (Exit.then (c.wp y Q) Q) [] E L:=.nil (.next h)
def fl{y a:ec}(b:ar c (Exit.then (c.wp a Q) Q) y E L):aa c ops (Exit.then (c.wp (Code.seq y a) Q) Q) [] E L:=.nil (.next (.seq b))
def eG{d:Nat}{a:R bA}{b:ec}(e:aa c a.toArray (Exit.then (c.wp b Q) Q) a E L):aa c ops (Exit.then (c.wp (Code.seq (.region d a.toArray bi) b) Q) Q) [] E L:=.nil (.next (.seq (.dW e)))
def gE{y:ec}(h:ar c Q y E L):ar c (Exit.then (c.wp y Q) Q) .skip E L:=.skip (.next h)
def aj{b c:aB}{d:aw b}{e:b->aw c}{f:c}{P:Prop}(a:d.bind e=V f)(g:∀y,d=V y->e y=V f->P):P:=(bind_some a).elim λy a=>g y a.1 a.2
def fR{d:aB}{b:aI}{e f:aw d}{a:d}{y g:ec}(h:cond b e f=V a)(i:e=V a->ar c Q y E L)(j:f=V a->ar c Q g E L)
 (k:aN c E L x (.of b):=by first|exact ae o|exact gU _):ar c Q (.cond x y g) E L:=
 .cond k (λax=>i (da ax h)) (λax=>j (db ax h))
def aT{a:J}(h:aZ c E L ak a)(k:aa c ops Q rest ((a8,a)::E) L)(b:ak.guard=Y:=by rfl)(aq:ak.dst=V a8:=by rfl)(aQ:bu a8 c.n=Z:=by rfl):aa c ops Q (ak::rest) E L:=.v h b aq aQ k
def bJ{a:J}(k:aa c ops Q rest ((a8,a)::E) L)(b:aN c E L x a:=by first|exact ae o|exact cU _|exact gU _|exact fA _)(aQ:bu a8 c.n=Z:=by rfl):
 aa c ops Q (⟨V a8,.move x,ty,pos,a1,Y⟩::rest) E L:=.v (cN b) o o aQ k
def bI{a:J}(k:aa c ops Q rest ((a8,a)::E) L)(b:aN c E L x a:=by first|exact ae o|exact cU _|exact gU _|exact fA _)(aQ:bu a8 c.n=Z:=by rfl):
 aa c ops Q (⟨V a8,.assign x,ty,pos,a1,Y⟩::rest) E L:=.v (cc b) o o aQ k
def cP{a b:J}(h:aN c E L x a->aZ c E L ak b)(k:aa c ops Q rest ((a8,b)::E) L)(d:aN c E L x a:=by first|exact ae o|exact cU _|exact gU _|exact fA _)
 (e:ak.guard=Y:=by rfl) (aq:ak.dst=V a8:=by rfl) (aQ:bu a8 c.n=Z:=by rfl):aa c ops Q (ak::rest) E L:=.v (h d) e aq aQ k
def cH{a b d:J}(h:aN c E L x a->aN c E L y b->aZ c E L ak d)(k:aa c ops Q rest ((a8,d)::E) L)(e:aN c E L x a:=by first|exact ae o|exact cU _|exact gU _|exact fA _)
 (f:aN c E L y b:=by first|exact ae o|exact cU _|exact gU _|exact fA _)
 (g:ak.guard=Y:=by rfl) (aq:ak.dst=V a8:=by rfl) (aQ:bu a8 c.n=Z:=by rfl):aa c ops Q (ak::rest) E L:=.v (h e f) g aq aQ k
def jO{a:aB}[ah a]{d b:a}(e:V d=V b)(h:aZ c E L ak (.of d))(k:aa c ops Q rest ((a8,.of b)::E) L)(f:ak.guard=Y:=by rfl)(aq:ak.dst=V a8:=by rfl)(aQ:bu a8 c.n=Z:=by rfl):
 aa c ops Q (ak::rest) E L:=.v (h.sT (dz e)) f aq aQ k
def pQ{i:Nat}{a:R J}{b:J}(k:aa c ops Q rest ((a8,b)::E) L)(d:aN c E L x (.bO a):=by exact ae o)(e:a[i]? =V b:=by rfl)(aQ:bu a8 c.n=Z:=by rfl):
 aa c ops Q (⟨V a8,.extract x i,ty,pos,a1,Y⟩::rest) E L:=.v (yf d e) o o aQ k
def jz{f ak:Nat}{a d:aB}[ah a][ah d]{b:a}(g:Nat)(e:aG a d)(h:bR c.P t d)(k:aa c ops Q rest ((a8,.of (e.get b))::E) L)(i:aN c E L x (.eq (.pointer (V ⟨f,ak,Y⟩))):=by exact ae o)
 (av:L[g]? =V ⟨V f,.var b⟩:=by rfl) (j:ak=e.off:=by rfl) (aQ:bu a8 c.n=Z:=by rfl):aa c ops Q (⟨V a8,.load t x,ty,pos,a1,Y⟩::rest) E L:=.v (iq e h i av j o) o o aQ k
def j6{d:Nat}{a:aB}[ah a]{b:a}(e:Nat)(f:bR c.P t a)(k:aa c ops Q rest ((a8,.of b)::E) L)(g:aN c E L x (.eq (.pointer (V ⟨d,0,Y⟩))):=by exact ae o)
 (av:L[e]? =V ⟨V d,.var b⟩:=by rfl) (aQ:bu a8 c.n=Z:=by rfl):aa c ops Q (⟨V a8,.load t x,ty,pos,a1,Y⟩::rest) E L:=.v (iq (aG.id a) f g av o o) o o aQ k
def qC{f ak:Nat}{e a:aB}[ah e][ah a]{b:e}{g:R (Nat×bt)}(h:Nat)(d:aG e a)(i:bR c.P t a)(k:aa c ops Q rest ((a8,.of (d.get b))::E) L)(j:aN c E L x (.eq (.pointer (V ⟨f,ak,Y⟩))):=by exact ae o)
 (av:L[h]? =V ⟨V f,.bF b g⟩:=by rfl) (l:ak=d.off:=by rfl) (m:tw g d.off (ah.size a)=Z:=by rfl) (aQ:bu a8 c.n=Z:=by rfl):aa c ops Q (⟨V a8,.load t x,ty,pos,a1,Y⟩::rest) E L:=.v (ho d i j av l o m) o o aQ k
def DF{a:aB}[ah a][Inhabited a]{b:R a}{e:bH}{i:Int}{d:Nat}(f:idx (U b) i=V d)(g:c.P.underlying t=V (.slice e))(h:bR c.P e a)(k:aa c ops Q rest ((a8,.ptr (al b d))::E) L)
 (j:aN c E L x (.of b):=by exact ae o) (l:aN c E L y (.of i):=by first|exact ae o|exact cU _) (aQ:bu a8 c.n=Z:=by rfl):
 aa c ops Q (⟨V a8,.indexAddr t x y,ty,pos,a1,Y⟩::rest) E L:=.v (jy g h j l (cz f)) o o aQ k
def wW{b e:aI}{a:Prop}(k:aa c ops Q rest ((a8,.of (b||e))::E) L)(d:aN c E L x (.of b):=by exact ae o)(f:aN c E L y (.cond a (.of e)):=by exact ae o)(g:b=bi->a:=by exact λh=>h)(aQ:bu a8 c.n=Z:=by rfl):
 aa c ops Q (⟨V a8,.pick x (.const (.bool Z)) y,ty,pos,a1,Y⟩::rest) E L:=.v (oY d f g) o o aQ k
def HF{b e:aI}{a:Prop}(k:aa c ops Q rest ((a8,.of (b&&e))::E) L)(d:aN c E L x (.of b):=by exact ae o)(f:aN c E L y (.cond a (.of e)):=by exact ae o)(g:b=Z->a:=by exact λh=>h)(aQ:bu a8 c.n=Z:=by rfl):
 aa c ops Q (⟨V a8,.pick x y (.const (.bool bi)),ty,pos,a1,Y⟩::rest) E L:=.v (mR d f g) o o aQ k
def e1{d:J}{e g:Nat}{b a:aI}(h:b=a->aZ c E L ak d)(k:aa c ops Q rest ((a8,.cond (b=a) d)::E) L)(f:ak.guard=V (e,a):=by rfl)(i:(ops[e]?).bind (·.dst)=V g:=by rfl)(j:look E g=V (.of b):=by rfl)
 (aq:ak.dst=V a8:=by rfl) (aQ:bu a8 c.n=Z:=by rfl):aa c ops Q (ak::rest) E L:=.g h f i j aq aQ k
def jY{d e:J}{f g:Nat}{b a:aI}(h:aN c E L x d->aZ c E L ak e)(k:aa c ops Q rest ((a8,.cond (b=a) e)::E) L)
 (i:b=a->aN c E L x d:=by first|exact λax=>ba o ax|exact λ_=>ae o|exact λ_=>cU _|exact λ_=>gU _)
 (j:ak.guard=V (f,a):=by rfl) (l:(ops[f]?).bind (·.dst)=V g:=by rfl) (m:look E g=V (.of b):=by rfl)
 (aq:ak.dst=V a8:=by rfl) (aQ:bu a8 c.n=Z:=by rfl):aa c ops Q (ak::rest) E L:=.g (λax=>h (i ax)) j l m aq aQ k
def AO{d e f:J}{i g:Nat}{b a:aI}(h:aN c E L x d->aN c E L y e->aZ c E L ak f)(k:aa c ops Q rest ((a8,.cond (b=a) f)::E) L)
 (j:b=a->aN c E L x d:=by first|exact λax=>ba o ax|exact λ_=>ae o|exact λ_=>cU _|exact λ_=>gU _)
 (l:b=a->aN c E L y e:=by first|exact λax=>ba o ax|exact λ_=>ae o|exact λ_=>cU _|exact λ_=>gU _)
 (m:ak.guard=V (i,a):=by rfl) (n:(ops[i]?).bind (·.dst)=V g:=by rfl) (p:look E g=V (.of b):=by rfl)
 (aq:ak.dst=V a8:=by rfl) (aQ:bu a8 c.n=Z:=by rfl):aa c ops Q (ak::rest) E L:=.g (λax=>h (j ax) (l ax)) m n p aq aQ k
def iL{a:aB}[ah a]{b:a}(e:dn c.P t b)(k:∀d,aa c ops Q rest ((a8,.eq (.pointer (V ⟨d,0,Y⟩)))::E) (⟨V d,.var b⟩::L))(aQ:bu a8 c.n=Z:=by rfl):
 aa c ops Q (⟨V a8,.alloc t,ty,pos,a1,Y⟩::rest) E L:=.alloc e aQ k
def hT{a:aB}[ah a]{b:a}(k:∀d,aa c ops Q rest ((a8,.eq (.pointer (V ⟨d,0,Y⟩)))::E) (⟨V d,.var b⟩::L))(e:aN c E L x (.of b):=by first|exact ae o|exact cU _|exact gU _)(aQ:bu a8 c.n=Z:=by rfl):
 aa c ops Q (⟨V a8,.box t x,ty,pos,a1,Y⟩::rest) E L:=.box e aQ k
def wT{d ak:Nat}{e a:aB}[ah e][ah a]{b:e}{g:a}(i:Nat)(f:aG e a)(h:bR c.P t a)(k:aa c ops Q rest E (L.set i ⟨V d,.var (f.set b g)⟩))(j:aN c E L x (.eq (.pointer (V ⟨d,ak,Y⟩))):=by exact ae o)
 (l:aN c E L y (.of g):=by first|exact ae o|exact cU _|exact gU _|exact look_nil|exact fA _) (av:L[i]? =V ⟨V d,.var b⟩:=by rfl) (m:ak=f.off:=by rfl):
 aa c ops Q (⟨Y,.store t x y,ty,pos,a1,Y⟩::rest) E L:=.store f h j l av m o k
def oc{d:Nat}{a:aB}[ah a]{b e:a}(i:Nat)(f:bR c.P t a)(k:aa c ops Q rest E (L.set i ⟨V d,.var e⟩))(g:aN c E L x (.eq (.pointer (V ⟨d,0,Y⟩))):=by exact ae o)
 (h:aN c E L y (.of e):=by first|exact ae o|exact cU _|exact gU _|exact look_nil|exact fA _) (av:L[i]? =V ⟨V d,.var b⟩:=by rfl):
 aa c ops Q (⟨Y,.store t x y,ty,pos,a1,Y⟩::rest) E L:=.store (aG.id a) f g h av o o k
def rF{d ak:Nat}{e a:aB}[ah e][ah a]{b g:e}{h:a}(i:Nat)(f:aG e a)(j:bR c.P t a)(k:aa c ops Q rest E (L.set i ⟨V d,.var g⟩))(l:aN c E L x (.eq (.pointer (V ⟨d,ak,Y⟩))):=by exact ae o)
 (m:aN c E L y (.of h):=by first|exact ae o|exact cU _|exact gU _|exact look_nil|exact fA _) (av:L[i]? =V ⟨V d,.var b⟩:=by rfl) (n:ak=f.off:=by rfl) (ax:V (f.set b h)=V g):
 aa c ops Q (⟨Y,.store t x y,ty,pos,a1,Y⟩::rest) E L:=.store f j l m av n (dz ax) k
def hU{a:FuncId}{b:R cx}{f:bE bH}{d:R J}{e:J}(g:bk c.P a)(h:cf c.P a d e)(k:aa c ops Q rest ((a8,e)::E) L)
 (i:iu c E L b d:=by repeat (first|exact trivial|refine⟨ae o,?_⟩|refine⟨cU _,?_⟩|refine⟨gU _,?_⟩|refine⟨look_nil,?_⟩|refine⟨fA _,?_⟩)) (aQ:bu a8 c.n=Z:=by rfl):
 aa c ops Q (⟨V a8,.call ⟨.value (.func a),b.toArray,f⟩,ty,pos,a1,Y⟩::rest) E L:=.v (fP g h i) o o aQ k
def cy{b:FuncId}{d:R cx}{f:bE bH}{g:R J}{aX:aB}{i:aX->J}{j:aX->R aK}(a:Nat)(l:bk c.P b)(h:bn c.P b g (L.take a) i j)
 (k:∀q,aa c ops Q rest ((a8,i q)::E) (j q++L.drop a)) (m:iu c E L d g:=by repeat (first|exact trivial|refine⟨ae o,?_⟩|refine⟨cU _,?_⟩|refine⟨gU _,?_⟩|refine⟨look_nil,?_⟩|refine⟨h7,?_⟩|refine⟨fA _,?_⟩)) (aQ:bu a8 c.n=Z:=by rfl):
 aa c ops Q (⟨V a8,.call ⟨.value (.func b),d.toArray,f⟩,ty,pos,a1,Y⟩::rest) E L:=by
 have e:=rT a L
 have:=aa.kG (ty:=ty) (pos:=pos) (a1:=a1) (j7:=f) (xs:=d) (dJ:=L.take a) (b9:=L.drop a) (E:=E) (Q:=Q) (ops:=ops) l h (by simp_all) aQ k
 simp_all
def eM{a:aB}[ah a]{e f g:Nat}{i:aw Nat}{b j d:R a}{p:a}(l:Nat)(q:c.P.underlying t=V (.slice e))(r:bR c.P e a)(A:dn c.P e p)(h:dA f b j=V d)
 (k:∀m n,aa c ops Q rest ((a8,.eq (aH m (U d) n))::E) (L.set l ⟨m,.row e d n⟩)) (B:(c.P.info? e).map (·.bytes)=V f:=by kernel_rfl)
 (aR:aN c E L x (.eq (aH i (U b) g)):=by first|exact ae o|exact h7) (av:L[l]? =V ⟨i,.row e b g⟩:=by rfl) (C:aN c E L y (.of j):=by exact ae o) (aQ:bu a8 c.n=Z:=by rfl):
 aa c ops Q (⟨V a8,.call ⟨.builtin .append,#[x,y],#[t,t]⟩,ty,pos,a1,Y⟩::rest) E L:=.app q r A B aR av C h aQ k
def o9{d:Nat->aw (Nat×Nat)}{e:aB}[ah e]{b g:e}{a:aB}[ah a]{h:a}{i:Nat}{j:R (Nat×cx)}(f:aG e a)(k:tC c E L d (f.set b h) j g)
 (l:d i=V (f.off,ah.size a):=by rfl) (m:aN c E L x (.of h):=by first|exact ae o|exact cU _|exact gU _|exact look_nil|exact fA _):tC c E L d b ((i,x)::j) g:=.cons f l m o k
def qB{a:aB}[ah a]{d b:a}{e:R (Nat×cx)}{f:bE (Nat×Nat)}(h:fi c.P t f)(i:dn c.P t d)(g:a)(j:tC c E L (f[·]?) d e b)(k:aa c ops Q rest ((a8,.of g)::E) L)(l:ah.agg a=Z:=by rfl)(ax:b=g:=by rfl)(aQ:bu a8 c.n=Z:=by rfl):
 aa c ops Q (⟨V a8,.build t e.toArray,ty,pos,a1,Y⟩::rest) E L:=.v ((iI l h i j).sT ax) o o aQ k
def HE{a:aB}[ah a]{e b:Nat}{d:a}{f:R (Nat×cx)}(g:R a)(h:c.P.underlying t=V (.slice e))(i:bR c.P e a)(j:dn c.P e d)(k:aa c ops Q rest ((a8,.of g)::E) L)
 (l:pF c E L (bv b d) f g:=by repeat (first|exact pF.nil|refine pF.cons (by simp) (ae o) ?_|refine pF.cons (by simp) (cU _) ?_|refine pF.cons (by simp) (gU _) ?_|refine pF.cons (by simp) (fA _) ?_))
 (aR:be (ah.size a) 0=bi:=by rfl) (m:cd (b*ah.size a) 16777216=Z:=by rfl) (aQ:bu a8 c.n=Z:=by rfl):
 aa c ops Q (⟨V a8,.buildSlice t b f.toArray,ty,pos,a1,Y⟩::rest) E L:=.v (tx h i j aR m l) o o aQ k
inductive iE(E:List (Nat×J)):List Nat->List (Nat×J)->Prop
 |nil:iE E [] []
 |cons {t:Nat} {cI:List Nat} {dm:J} {abR:List (Nat×J)}:look E t=V dm->iE E cI abR->iE E (t::cI) ((t,dm)::abR)
def iE.le:∀{b:R Nat} {a:R (Nat×J)},iE E b a->gp E a
 |_,_,.nil=>.nil
 |_,_,.cons c d=>.same c d.le
def er{a:ec}{b:R (Nat×J)}(d:R Nat)(k:ar c Q a b L)(aA:iE E d b:=by repeat (first|exact iE.nil|(apply iE.cons;rfl))):ar c Q a E L:=.le aA.le k
def abp{a:cK}{b:R (Nat×J)}(d:R Nat)(k:af c Q a b L)(aA:iE E d b:=by repeat (first|exact iE.nil|(apply iE.cons;rfl))):af c Q a E L:=.le aA.le k
def cL{a:cK}{br:R (Nat×J)}{aD:R aK}(b:Nat)(k:af c Q a br aD)(av:L.drop b=aD:=by rfl)(h:gp E br:=by repeat (first|exact gp.nil|refine gp.same o ?_)):af c Q a E L:=.meet b av h k
def eE{a b d aX:aB}{br:a->d->R (Nat×J)}{aD:a->d->R aK}{i:b->cK}{ig:b->aX->R (Nat×J)}{j:b->aX->R aK}{e:a}(g:d)(f:Nat)(av:L.drop f=aD e g:=by rfl)
 (h:gp E (br e g):=by repeat (first|exact gp.nil|refine gp.same o ?_)):af c (dP c br aD i ig j (.inl e)) .normal E L:=.alH g f av h
def ej{d a f aX:aB}{br:d->f->R (Nat×J)}{aD:d->f->R aK}{i:a->cK}{ig:a->aX->R (Nat×J)}{j:a->aX->R aK}{e:a}{b:cK}(g:aX)(k:Nat)(l:b=i e:=by rfl)(aQ:b≠ .normal:=by simp)(av:L.drop k=j e g:=by rfl)
 (h:gp E (ig e g):=by repeat (first|exact gp.nil|refine gp.same o ?_)):af c (dP c br aD i ig j (.inr e)) b E L:=.alI g k l aQ av h
def rG{t:Nat}{b:Nat}{a:aB}[ah a]{d:a}(i:Nat)(e:bR c.P ty a)(h:look E t=V (.eq (.pointer (V ⟨b,0,Y⟩))):=by rfl)(av:L[i]? =V ⟨V b,.var d⟩:=by rfl):pX c E L (.cell t ty) (.of d):=aaX e h av
def lQ{a:Func}{t:Nat}{b:J}(aF:a.results= #[.tmp t]:=by rfl)(h:look E t=V b:=by rfl)(d:c.ds=[]:=by rfl):af c (bodyPost c.P a (pN c b)) .ret E L:=.Ds aF (hd h) d
def ff{a:Func}{t:Nat}{b:J}{aX:aB}{d:aX->J}{e:aX->R aK}(a8:aX)(aR:(e a8).Sublist L:=by repeat (first|exact r0 _|refine List.Sublist.cons_cons _ ?_))(aF:a.results= #[.tmp t]:=by rfl)(h:look E t=V b:=by rfl)(f:d a8=b:=by rfl)(g:c.ds=[]:=by rfl):
 af c (bodyPost c.P a (j4 c.X c.cv c.pV d e)) .ret E L:=.fa a8 aR aF f (dO h) g
def ic:R aK->R (Nat×aK)->R aK
 |L,[]=>L
 |L,(i,e)::a=>ic (L.set i e) a
inductive oo:List aK->List aK->Prop
 |nil:oo [] []
 |cons {e:aK} {r s:List aK}:oo r s->oo (e::r) (e::s)
def oo.eq:∀{a b:R aK},oo a b->a=b
 |_,_,.nil=>rfl
 |_,_,.cons c=>by rw[c.eq]
def eC{i j aY aX:aB}{A:ec}{C:Nat}{b:i->aw (i⊕j)}{m:i}{e:j}{h:R (Nat×J)}{f:R aK}(D:cj C b m=V e)(F:R Nat)(k:i->aY->R (Nat×J))(l:i->aY->R (Nat×aK))(n:j->cK)
 (p:j->aX->R (Nat×J)) (q:j->aX->R (Nat×aK)) (r:aY)
 (G:∀a B,b a=V B->∀g,ar c (dP c (λa g=>k a g++h) (λa g=>ic f (l a g)) n (λe d=>p e d++h) (λe d=>ic f (q e d)) B) A (k a g++h) (ic f (l a g)))
 (H:∀g,af c Q (n e) (p e g++h) (ic f (q e g)))
 (I:oo L f:=by repeat (first|exact oo.nil|apply oo.cons))
 (K:iE E F h:=by repeat (first|exact iE.nil|(apply iE.cons;rfl))) (aA:gp E (k m r++h):=by repeat (first|exact gp.nil|refine gp.same o ?_)) (av:f=ic f (l m r):=by rfl):ar c Q (.loop A) E L:=
 ar.LZ D (λa g=>k a g++h) (λa g=>ic f (l a g)) n (λe d=>p e d++h) (λe d=>ic f (q e d)) r (I.eq.trans av) aA G H
def hs{aY:aB}{b:aI}{y h:ec}{d:R (Nat×J)}{a:R aK}(i:R Nat)(e:aY->R (Nat×J))(f:aY->R (Nat×aK))(j:∀g,af c Q .normal (e g++d) (ic a (f g)))
 (k:(∀g,af c (dr Q) .normal (e g++d) (ic a (f g)))->b=Z->ar c (dr Q) y E a) (l:(∀g,af c (dr Q) .normal (e g++d) (ic a (f g)))->b=bi->ar c (dr Q) h E a)
 (m:oo L a:=by repeat (first|exact oo.nil|apply oo.cons))
 (p:iE E i d:=by repeat (first|exact iE.nil|(apply iE.cons;rfl))) (n:aN c E a x (.of b):=by first|exact ae o|exact gU _):ar c Q (.cond x y h) E L:=by
 cases m.eq
 exact ar.bs (λg=>e g++d) (λg=>ic L (f g)) n j k l
section
variable{all:R abU}{w:Nat->aI}
def dG{a:J}{b:R aK->Prop}(d:∀aD,aN c E aD x a:=by first|exact λ_=>ae o|exact λ_=>cU _|exact λ_=>gU _|exact λ_=>fA _):∀aD,b aD->h0 c ops E aD ⟨V a8,.move x,ty,pos,a1,Y⟩ a:=λaD _=>.v (cN (d aD)) o
def H1{a b:J}{d:R aK->Prop}(h:∀{aD},aN c E aD x a->aZ c E aD ak b)(e:ak.guard=Y:=by rfl)(f:∀aD,aN c E aD x a:=by first|exact λ_=>ae o|exact λ_=>cU _|exact λ_=>gU _|exact λ_=>fA _):
 ∀aD,d aD->h0 c ops E aD ak b:=λaD _=>.v (h (f aD)) e
def jB{a b d:J}{e:R aK->Prop}(h:∀{aD},aN c E aD x a->aN c E aD y b->aZ c E aD ak d)(f:ak.guard=Y:=by rfl)(g:∀aD,aN c E aD x a:=by first|exact λ_=>ae o|exact λ_=>cU _|exact λ_=>gU _|exact λ_=>fA _)
 (i:∀aD,aN c E aD y b:=by first|exact λ_=>ae o|exact λ_=>cU _|exact λ_=>gU _|exact λ_=>fA _):∀aD,e aD->h0 c ops E aD ak d:=λaD _=>.v (h (g aD) (i aD)) f
def iM{h ak:Nat}{a d:aB}[ah a][ah d]{b:a}(i:Nat)(f:aG a d)(j:bR c.P t d)(k:∀aD,aN c E aD x (.eq (.pointer (V ⟨h,ak,Y⟩))):=by exact λ_=>ae o)(av:L[i]? =V ⟨V h,.var b⟩:=by rfl)(l:ak=f.off:=by rfl)
 (m:uY w i 0 all=Z:=by first|rfl|kernel_rfl):∀aD:R aK,(∀(g:Nat) (e:aK),L[g]? =V e->uY w g 0 all=Z->aD[g]? =V e)->h0 c ops E aD ⟨V a8,.load t x,ty,pos,a1,Y⟩ (.of (f.get b)):=
 λaD n=>.v (iq f j (k aD) (n _ _ av m) l o) o
def pR{f:Nat}{a:aB}[ah a]{b:a}(i:Nat)(g:bR c.P t a)(h:∀aD,aN c E aD x (.eq (.pointer (V ⟨f,0,Y⟩))):=by exact λ_=>ae o)(av:L[i]? =V ⟨V f,.var b⟩:=by rfl)
 (j:uY w i 0 all=Z:=by first|rfl|kernel_rfl):∀aD:R aK,(∀(d:Nat) (e:aK),L[d]? =V e->uY w d 0 all=Z->aD[d]? =V e)->h0 c ops E aD ⟨V a8,.load t x,ty,pos,a1,Y⟩ (.of b):=
 λaD k=>.v (iq (aG.id a) g (h aD) (k _ _ av j) o o) o
def jZ{a:FuncId}{b:R cx}{f:bE bH}{d:R J}{e:J}{g:R aK->Prop}(i:bk c.P a)(h:cf c.P a d e)
 (j:∀aD,iu c E aD b d:=by intro aD;repeat (first|exact trivial|refine⟨ae o,?_⟩|refine⟨cU _,?_⟩|refine⟨gU _,?_⟩|refine⟨look_nil,?_⟩|refine⟨fA _,?_⟩)):
 ∀aD,g aD->h0 c ops E aD ⟨V a8,.call ⟨.value (.func a),b.toArray,f⟩,ty,pos,a1,Y⟩ e:=λaD _=>.v (fP i h (j aD)) o
def R0{a:aB}[ah a][Inhabited a]{b:R a}{e:bH}{i:Int}{d:Nat}{f:R aK->Prop}(g:idx (U b) i=V d)(h:c.P.underlying t=V (.slice e))(j:bR c.P e a)
 (k:∀aD,aN c E aD x (.of b):=by exact λ_=>ae o) (l:∀aD,aN c E aD y (.of i):=by first|exact λ_=>ae o|exact λ_=>cU _):
 ∀aD,f aD->h0 c ops E aD ⟨V a8,.indexAddr t x y,ty,pos,a1,Y⟩ (.ptr (al b d)):=λaD _=>.v (jy h j (k aD) (l aD) (cz g)) o
def abl{e f ak:Nat}{a g:aB}[ah a][ah g]{b:a}{h:R aK->Prop}(d:aG a g)(i:yC c.P e f ak)(j:∀aD,aN c E aD x (.ptr b):=by exact λ_=>ae o)(k:d.off=ak:=by rfl):
 ∀aD,h aD->h0 c ops E aD ⟨V a8,.fieldAddr e x f,ty,pos,a1,Y⟩ (.ptr (d.get b)):=λaD _=>.v (oV d i (j aD) k o) o
def vm{a:aB}[ah a]{d b:a}{f:R aK->Prop}(e:V d=V b)(h:∀aD,f aD->aZ c E aD ak (.of d))(g:ak.guard=Y:=by rfl):∀aD,f aD->h0 c ops E aD ak (.of b):=λaD av=>.v ((h aD av).sT (dz e)) g
def bD{d:J}{e g:Nat}{b a:aI}{f:R aK->Prop}(h:∀aD,f aD->b=a->aZ c E aD ak d)(i:ak.guard=V (e,a):=by rfl)(j:(ops[e]?).bind (·.dst)=V g:=by rfl)(k:look E g=V (.of b):=by rfl):
 ∀aD,f aD->h0 c ops E aD ak (.cond (b=a) d):=λaD av=>.g (h aD av) i j k
end
def az(a:Nat)(up rd:R Nat)(b:J):ee:=⟨V a,up,rd,[],λ_=>b,λ_ _=>⟨Y,.dead⟩⟩
section
variable{aR:R ee}{i:Nat}{up rd:R Nat}
def gM{a:J}(b:∀(aq:Nat->Hid) (br:R (Nat×J)) (aD:R aK),(∀t a,look (j0 aq aR E up) t=V a->look br t=V a)->aN c br aD x a:=by first|exact λ_ _ _ aA=>ae (aA _ _ o)|exact λ_ _ _ _=>cU _|exact λ_ _ _ _=>gU _|exact λ_ _ _ _=>fA _)
 (aQ:bu a8 c.n=Z:=by rfl):fb c ops Q aR E L i ⟨V a8,.move x,ty,pos,a1,Y⟩ (az a8 up rd a):=jL o o aQ λaq br aD aA _=>cN (b aq br aD aA)
def hI{b a:J}(h:∀{br aD},aN c br aD x b->aZ c br aD ak a)(d:ak.guard=Y:=by rfl)(aq:ak.dst=V a8:=by rfl)
 (e:∀(aq:Nat->Hid) (br:R (Nat×J)) (aD:R aK),(∀t a,look (j0 aq aR E up) t=V a->look br t=V a)->aN c br aD x b:=by first|exact λ_ _ _ aA=>ae (aA _ _ o)|exact λ_ _ _ _=>cU _|exact λ_ _ _ _=>gU _|exact λ_ _ _ _=>fA _)
 (aQ:bu a8 c.n=Z:=by rfl):fb c ops Q aR E L i ak (az a8 up rd a):=jL d aq aQ λaq br aD aA _=>h (e aq br aD aA)
def abS{b d a:J}(h:∀{br aD},aN c br aD x b->aN c br aD y d->aZ c br aD ak a)(e:ak.guard=Y:=by rfl)(aq:ak.dst=V a8:=by rfl)
 (f:∀(aq:Nat->Hid) (br:R (Nat×J)) (aD:R aK),(∀t a,look (j0 aq aR E up) t=V a->look br t=V a)->aN c br aD x b:=by first|exact λ_ _ _ aA=>ae (aA _ _ o)|exact λ_ _ _ _=>cU _|exact λ_ _ _ _=>gU _|exact λ_ _ _ _=>fA _)
 (g:∀(aq:Nat->Hid) (br:R (Nat×J)) (aD:R aK),(∀t a,look (j0 aq aR E up) t=V a->look br t=V a)->aN c br aD y d:=by first|exact λ_ _ _ aA=>ae (aA _ _ o)|exact λ_ _ _ _=>cU _|exact λ_ _ _ _=>gU _|exact λ_ _ _ _=>fA _)
 (aQ:bu a8 c.n=Z:=by rfl):fb c ops Q aR E L i ak (az a8 up rd a):=jL e aq aQ λaq br aD aA _=>h (f aq br aD aA) (g aq br aD aA)
def qD{f ak:Nat}{a d:aB}[ah a][ah d]{b:a}(k:Nat)(e:aG a d)(h:bR c.P t d)
 (j:∀(aq:Nat->Hid) (br:R (Nat×J)) (aD:R aK),(∀t g,look (j0 aq aR E up) t=V g->look br t=V g)->aN c br aD x (.eq (.pointer (V ⟨f,ak,Y⟩))):=by exact λ_ _ _ aA=>ae (aA _ _ o))
 (av:∀aq:Nat->Hid,(hi (λ_=>Z) aq 0 (aR.take i) L)[k]? =V ⟨V f,.var b⟩:=by exact λ_=>rfl) (aF:rd.contains k=Z:=by rfl) (l:ak=e.off:=by rfl)
 (aQ:bu a8 c.n=Z:=by rfl):fb c ops Q aR E L i ⟨V a8,.load t x,ty,pos,a1,Y⟩ (az a8 up rd (.of (e.get b))):=jL o o aQ λaq br aD aA m=>iq e h (j aq br aD aA) (m _ _ (av aq) aF) l o
def vd{d:Nat}{a:aB}[ah a]{b:a}(k:Nat)(f:bR c.P t a)
 (g:∀(aq:Nat->Hid) (br:R (Nat×J)) (aD:R aK),(∀t e,look (j0 aq aR E up) t=V e->look br t=V e)->aN c br aD x (.eq (.pointer (V ⟨d,0,Y⟩))):=by exact λ_ _ _ aA=>ae (aA _ _ o))
 (av:∀aq:Nat->Hid,(hi (λ_=>Z) aq 0 (aR.take i) L)[k]? =V ⟨V d,.var b⟩:=by exact λ_=>rfl) (aF:rd.contains k=Z:=by rfl)
 (aQ:bu a8 c.n=Z:=by rfl):fb c ops Q aR E L i ⟨V a8,.load t x,ty,pos,a1,Y⟩ (az a8 up rd (.of b)):=jL o o aQ λaq br aD aA h=>iq (aG.id a) f (g aq br aD aA) (h _ _ (av aq) aF) o o
def iV{a:J}(h:∀(aq:Nat->Hid) (br:R (Nat×J)) (aD:R aK),(∀t a,look (j0 aq aR E up) t=V a->look br t=V a)->(∀b e,(hi (λ_=>Z) aq 0 (aR.take i) L)[b]? =V e->rd.contains b=Z->aD[b]? =V e)->aZ c br aD ak a)
 (d:ak.guard=Y:=by rfl) (aq:ak.dst=V a8:=by rfl) (aQ:bu a8 c.n=Z:=by rfl):fb c ops Q aR E L i ak (az a8 up rd a):=jL d aq aQ h
end
end
end Gv
