/-
  The library of the decompiler, as far as it is needed here. Conditions: none.
-/
import Derived.WalkKit
import Derived.StillTail
import Derived.OwnWalkIn
import Derived.RangeFuncNested
import Derived.RangeFuncLeaves
import Derived.RangeFuncCalls
import Derived.ChangeSame
import Derived.OpenShut
import Derived.Carry
import Derived.DataReads
namespace Gv
open Go
theorem BO (w:World) (o:Obj) (i:Nat) (h:i < w.heap.size):(w.alloc o).heap[i]? =w.heap[i]? :=by
 show(w.heap.push o)[i]? =w.heap[i]?
 rw [Array.getElem?_push,if_neg (Nat.ne_of_lt h)]
theorem KF (w:World) (o:Obj):(w.alloc o).heap[w.heap.size]? =some o:=by
 show(w.heap.push o)[w.heap.size]? =some o
 simp
structure Fr (X:List Nat) (W W':World):Prop where
 os:W'.os=W.os
 tape:W'.tape=W.tape
 output:W'.output=W.output
 size:W.heap.size≤W'.heap.size
 block:∀ k,k < W.heap.size→k ∉ X→W'.heap[k]? =W.heap[k]?
theorem Fr.refl (X:List Nat) (W:World):Fr X W W:=⟨rfl,rfl,rfl,Nat.le_refl _,fun _ _ _=>rfl⟩
theorem Fr.trans {X:List Nat} {A B C:World} (h:Fr X A B) (k:Fr X B C):Fr X A C:=
 ⟨k.os.trans h.os,k.tape.trans h.tape,k.output.trans h.output,Nat.le_trans h.size k.size,
   fun i aq ak=>(k.block i (Nat.lt_of_lt_of_le aq h.size) ak).trans (h.block i aq ak)⟩
theorem Fr.weaken {X Y:List Nat} {A B:World} (h:Fr X A B) (s:∀ k∈X,k∈Y):Fr Y A B:=
 ⟨h.os,h.tape,h.output,h.size,fun i aq ak=>h.block i aq fun hm=>ak (s _ hm)⟩
theorem Fr.nil {X:List Nat} {A B:World} (h:Fr [] A B):Fr X A B:=h.weaken (by simp)
theorem Fr.only {X Y:List Nat} {A B:World} (h:Fr X A B) (s:∀ k∈X,k < A.heap.size→k∈Y):Fr Y A B:=
 ⟨h.os,h.tape,h.output,h.size,fun i aq ak=>h.block i aq fun hm=>ak (s _ hm aq)⟩
theorem Fr.alloc {X:List Nat} (W:World) (o:Obj):Fr X W (W.alloc o):=
 ⟨rfl,rfl,rfl,by simp,fun k au _=>BO W o k au⟩
theorem Fr.drew {X:List Nat} (W:World):Fr X W W.drew:=⟨rfl,rfl,rfl,Nat.le_refl _,fun _ _ _=>rfl⟩
theorem Fr.setRow {X:List Nat} (W:World) (g:Nat) (cs:Array Value) (h:g∈X):Fr X W (W.setRow g cs):=
 ⟨rfl,rfl,rfl,by simp,fun k _ ak=>setRow_other W g k cs (fun e=>ak (e ▸ h))⟩
structure Ext (A:List Nat) (W:World) (cN:List Nat) (W':World):Prop where
 size:W.heap.size≤W'.heap.size
 block:∀ k,k < W.heap.size→k ∉ A→W'.heap[k]? =W.heap[k]?
 new:∀ k∈cN,k < W.heap.size→k∈A
theorem Ext.refl (A:List Nat) (W:World):Ext A W A W:=⟨Nat.le_refl _,fun _ _ _=>rfl,fun _ h _=>h⟩
theorem Ext.trans {A B C:List Nat} {U V W:World} (h:Ext A U B V) (k:Ext B V C W):Ext A U C W:=
 ⟨Nat.le_trans h.size k.size,
  fun i aq bg=>(k.block i (Nat.lt_of_lt_of_le aq h.size) (fun hb=>bg (h.new i hb aq))).trans (h.block i aq bg),
  fun i aj aq=>h.new i (k.new i aj (Nat.lt_of_lt_of_le aq h.size)) aq⟩
theorem Ext.Ug {A X:List Nat} {W W':World} (h:Fr X W W') (s:∀ k∈X,k∈A):Ext A W A W':=
 ⟨h.size,fun k au bg=>h.block k au fun ak=>bg (s k ak),fun _ h _=>h⟩
theorem Ext.dm {A:List Nat} {W W':World} (h:Fr [] W W'):Ext A W A W':= .Ug h (by simp)
theorem Ext.drop {A cN:List Nat} {W:World} (s:∀ k∈cN,k∈A):Ext A W cN W:=⟨Nat.le_refl _,fun _ _ _=>rfl,fun k h _=>s k h⟩
structure I where
 holds:List Nat→World→Value→Prop
 mono:∀ {A W cN W' v},Ext A W cN W'→holds A W v→holds cN W' v
class ae (α:Type) where
 size:Nat
 agg:Bool
 rep:List Nat→World→List Value→α→Prop
 len:∀ {A W cs x},rep A W cs x→cs.length=size
 one:∀ {A W cs x},rep A W cs x→ ∀ v∈cs,v.oneCell'=true
 flat:agg=false→size=1
 mono:∀ {A W cN W' cs x},Ext A W cN W'→rep A W cs x→rep cN W' cs x
def shaped (b:Bool) (v:Value):Prop:=if b=true then ∃ cs,v= .agg cs else v.oneCell'=true
theorem nM {v:Value} (h:v.oneCell'=true):v.cells= #[v]:=by cases v <;> first | rfl | simp [Value.oneCell'] at h
def I.of {α:Type} [ae α] (x:α):I where
 holds A W v:=shaped (ae.agg α) v∧ae.rep A W v.cells.toList x
 mono e h:=⟨h.1,ae.mono e h.2⟩
def I.eq (u:Value):I where
 holds _ _ v:=v=u
 mono _ h:=h
def I.cond (c:Prop) (τ:I):I where
 holds A W v:=(c→τ.holds A W v)∧ (¬ c→v=undef)
 mono e h:=⟨fun aj=>τ.mono e (h.1 aj),h.2⟩
def I.any:I where
 holds _ _ _:=True
 mono _ h:=h
inductive fM (A:List Nat) (W:World):List I→List Value→Prop
 | nil:fM A W [] []
 | cons {τ v τs vs} :τ.holds A W v→fM A W τs vs→fM A W (τ :: τs) (v :: vs)
theorem fM.mono {A W cN W'} (e:Ext A W cN W'):∀ {τs vs},fM A W τs vs→fM cN W' τs vs
 | _,_,.nil=> .nil
 | _,_,.cons h r=> .cons (I.mono _ e h) (r.mono e)
theorem fM.length {A W} :∀ {τs vs},fM A W τs vs→vs.length=τs.length
 | _,_,.nil=>rfl
 | _,_,.cons _ r=>by simp [r.length]
def I.eA (τs:List I):I where
 holds A W v:= ∃ vs:Array Value,v= .tuple vs∧fM A W τs vs.toList
 mono e h:=let⟨vs,a3,b3⟩:=h; ⟨vs,a3,b3.mono e⟩
def I.ptr {α:Type} [ae α] (x:α):I where
 holds A W v:= ∃ b off cur T ha,v= .pointer (some ⟨b,off,none⟩)∧b ∉ A∧W.heap[b]? =some (.cells cur T ha)∧off + ae.size α≤cur.size∧ae.rep A W ((cur.toList.drop off).take (ae.size α)) x
 mono e h:=by
  obtain⟨b,off,cur,T,ha,rfl,hb,b3,hs,aQ⟩:=h
  have b5:b < _:=(Array.getElem?_eq_some_iff.1 b3).1
  exact⟨b,off,cur,T,ha,rfl,fun hm=>hb (e.new b hm b5),by rw [e.block b b5 hb]; exact b3,hs,ae.mono e aQ⟩
structure dA where
 holds:List Nat→World→Obj→Prop
 mF:Prop
 mono:∀ {A W cN W' o},Ext A W cN W'→holds A W o→holds cN W' o
def dA.var {α:Type} [ae α] (x:α):dA where
 holds A W o:= ∃ cs T,o= .cells cs T (0,0)∧ae.rep A W cs.toList x
 mF:=False
 mono e h:=let⟨cs,T,a6,aQ⟩:=h; ⟨cs,T,a6,ae.mono e aQ⟩
def fQ {α:Type} [ae α] (A:List Nat) (W:World) (cs:List Value) (xs:List α):Prop:=
 cs.length=xs.length * ae.size α∧ ∀ i (h:i < xs.length),ae.rep A W ((cs.drop (i * ae.size α)).take (ae.size α)) xs[i]
theorem fQ.mono {α:Type} [ae α] {A W cN W'} {cs:List Value} {xs:List α} (e:Ext A W cN W') (h:fQ A W cs xs):fQ cN W' cs xs:=
 ⟨h.1,fun i aq=>ae.mono e (h.2 i aq)⟩
def dA.row {α:Type} [ae α] (T:TypeId) (xs:List α) (cap:Nat):dA where
 holds A W o:= ∃ cs,o= .cells cs T (0,0)∧cs.size=cap * ae.size α∧xs.length≤cap∧cap≤maxLen∧fQ A W (cs.toList.take (xs.length * ae.size α)) xs
 mF:=xs= []∧cap=0
 mono e h:=let⟨cs,J,ad,ax,aR,aW⟩:=h; ⟨cs,J,ad,ax,aR,aW.mono e⟩
def dA.dead:dA where
 holds _ _ _:=True
 mF:=True
 mono _ h:=h
structure aF where
 key:Option Nat
 cp:dA
def aF.ok (A:List Nat) (W:World) (e:aF):Prop:=
 match e.key with
 | some p=> ∃ o,W.heap[p]? =some o∧e.cp.holds A W o
 | none=>e.cp.mF
def aJ:List aF→List Nat
 | []=> []
 | e :: r=>match e.key with
   | some p=>p :: aJ r
   | none=>aJ r
theorem km {L:List aF} {k:Nat} :k∈aJ L↔ ∃ e∈L,e.key=some k:=by
 induction L with
 | nil=>simp [aJ]
 | cons e r bz=>
   cases au:e.key with
   | none=>simp [aJ,au,bz]
   | some p=>simp [aJ,au,bz,eq_comm]
structure cT where
 P:Program
 n:Nat
 iC:World
 X:List Nat
 bM:List Nat
 rd:Option Nat
 ds:List Nat
def Cr (D:Nat):Deferred:= { target:= .collected D,args:= #[] }
abbrev cT.F (c:cT):Fence:= { fn:=fun _=>True,depth:=none,alive:=false,round:=c.rd }
abbrev cT.wp (c:cT) (y:Code) (Q:Exit→Act→World→Prop):Act→World→Prop:=y.wpIn c.F 9 c.P Q
abbrev cT.pV (c:cT) (ops:Array Oper) (Q:Exit→Act→World→Prop):List Oper→Act→World→Prop:=wpListIn c.F 9 c.P ops Q
def look:List (Nat × I)→Nat→Option I
 | [],_=>none
 | (s,τ) :: r,t=>bif Nat.beq s t then some τ else look r t
structure bs (c:cT) (E:List (Nat × I)) (L:List aF) (a:Act) (W:World):Prop where
 defers:a.defers=c.ds.map Cr
 size:a.tmps.size=c.n
 env:∀ t τ,look E t=some τ→ ∃ v,a.tmps[t]? =some v∧τ.holds (aJ L ++ c.bM) W v
 dm:Fr c.X c.iC W
 own:∀ e∈L,e.ok (aJ L ++ c.bM) W
 nodup:(aJ L).Nodup
 lt:∀ k∈aJ L,k < W.heap.size
 fA:∀ k∈aJ L,k < c.iC.heap.size→k∈c.X
 eC:∀ k∈c.bM,k < W.heap.size∧k ∉ aJ L
theorem dX {s t:Nat} :Nat.beq s t=true↔s=t:=by
 constructor
 ·exact Nat.eq_of_beq_eq_true
 ·rintro rfl; exact Nat.beq_refl s
theorem bs.BP {c E L a W} (h:bs c E L a W):∀ k∈aJ L ++ c.bM,k < W.heap.size:=by
 intro k au
 rcases List.mem_append.1 au with au | au
 ·exact h.lt k au
 ·exact(h.eC k au).1
theorem bs.world {c E L a W W'} (h:bs c E L a W) (f:Fr [] W W'):bs c E L a W' where
 defers:=h.defers
 size:=h.size
 env t τ ar:=let⟨v,J,ad⟩:=h.env t τ ar; ⟨v,J,τ.mono (.dm f) ad⟩
 dm:=h.dm.trans f.nil
 own e he:=by
  have J:=h.own e he
  unfold aF.ok at *
  split at J
  ·rename_i p hp
   obtain⟨o,a6,b3⟩:=J
   have b5:=h.lt p (km.2 ⟨e,he,hp⟩)
   exact⟨o,by rw [f.block p b5 (by simp)]; exact a6,dA.mono _ (.dm f) b3⟩
  ·exact J
 nodup:=h.nodup
 lt k au:=Nat.lt_of_lt_of_le (h.lt k au) f.size
 fA:=h.fA
 eC k au:=⟨Nat.lt_of_lt_of_le (h.eC k au).1 f.size,(h.eC k au).2⟩
theorem bs.put {c E L a W} (h:bs c E L a W) {d:Nat} (hd:d < c.n) {v:Value} {τ:I} (a3:τ.holds (aJ L ++ c.bM) W v):
 bs c ((d,τ) :: E) L (a.put (some d) v) W where
 defers:=h.defers
 size:=by simp [Act.put,h.size]
 env t qX ar:=by
  simp only [look] at ar
  simp only [Act.put]
  by_cases e:Nat.beq d t=true
  ·rw [e] at ar
   simp only [cond_true,Option.some.injEq] at ar
   subst ar
   have:=dX.1 e
   subst this
   exact⟨v,by simp [h.size,hd],a3⟩
  ·simp only [Bool.not_eq_true] at e
   rw [e] at ar
   simp only [cond_false] at ar
   obtain⟨u,J,ad⟩:=h.env t qX ar
   have cQ:d≠t:=fun h=>by rw [dX.2 h] at e; cases e
   exact⟨u,by rw [Array.getElem?_setIfInBounds_ne cQ]; exact J,ad⟩
 dm:=h.dm
 own:=h.own
 nodup:=h.nodup
 lt:=h.lt
 fA:=h.fA
 eC:=h.eC
theorem bs.vz {c E L a W} (s:bs c E L a W) (h:c.ds= []):a.defers= []:=by rw [s.defers,h]; rfl
theorem bs.less {c E E' L a W} (h:bs c E L a W) (aw:∀ t τ,look E' t=some τ→ ∃ σ,look E t=some σ∧ ∀ A W v,σ.holds A W v→τ.holds A W v):bs c E' L a W:=
 {h with env:=fun t τ ar=>let⟨_,J,ad⟩:=aw t τ ar; let⟨v,ax,aR⟩:=h.env t _ J; ⟨v,ax,ad _ _ _ aR⟩ }
theorem bs.alloc {c E L a W} (h:bs c E L a W) {o:Obj} {cp:dA} (aj:cp.holds (aJ L ++ c.bM) W o):
 bs c E (⟨some W.heap.size,cp⟩ :: L) a (W.alloc o):=by
 have n4:W.heap.size ∉ aJ L:=fun hm=>Nat.lt_irrefl _ (h.lt _ hm)
 have gA:Ext (aJ L ++ c.bM) W (aJ (⟨some W.heap.size,cp⟩ :: L) ++ c.bM) (W.alloc o):=
  ⟨by simp,fun k au _=>BO W o k au,fun k au b5=>by
   simp only [aJ,List.cons_append,List.mem_cons] at au
   rcases au with rfl | au
   ·exact absurd b5 (Nat.lt_irrefl _)
   ·exact au⟩
 exact
 {defers:=h.defers
  size:=h.size
  env:=fun t τ ar=>let⟨v,J,ad⟩:=h.env t τ ar; ⟨v,J,τ.mono gA ad⟩
  dm:=h.dm.trans (Fr.alloc W o)
  own:=fun e he=>by
   rcases List.mem_cons.1 he with rfl | he
   ·exact⟨o,KF W o,cp.mono gA aj⟩
   ·have J:=h.own e he
    unfold aF.ok at *
    split at J
    ·rename_i p hp
     obtain⟨o',a6,b3⟩:=J
     exact⟨o',by rw [BO W o p (h.lt p (km.2 ⟨e,he,hp⟩))]; exact a6,dA.mono _ gA b3⟩
    ·exact J
  nodup:=by simp only [aJ]; exact List.nodup_cons.2 ⟨n4,h.nodup⟩
  lt:=fun k au=>by
   simp only [aJ,List.mem_cons] at au
   rw [World.size_alloc]
   rcases au with rfl | au
   ·omega
   ·have:=h.lt k au; omega
  fA:=fun k au b5=>by
   simp only [aJ,List.mem_cons] at au
   rcases au with rfl | au
   ·have:=h.dm.size; omega
   ·exact h.fA k au b5
  eC:=fun k au=>by
   obtain⟨J,ad⟩:=h.eC k au
   refine⟨by rw [World.size_alloc]; omega,fun hm=> ?_⟩
   simp only [aJ,List.mem_cons] at hm
   rcases hm with rfl | hm
   ·omega
   ·exact ad hm }
theorem bs.sub {c E L av a W} (h:bs c E L a W) (an:∀ e∈av,e∈L) (aL:(aJ av).Nodup):bs c E av a W:=by
 have au:∀ k∈aJ av,k∈aJ L:=fun k au=>by
  obtain⟨e,he,ad⟩:=km.1 au
  exact km.2 ⟨e,an e he,ad⟩
 have gA:Ext (aJ L ++ c.bM) W (aJ av ++ c.bM) W:= .drop fun k hm=>by
  rcases List.mem_append.1 hm with hm | hm
  ·exact List.mem_append.2 (.inl (au k hm))
  ·exact List.mem_append.2 (.inr hm)
 exact
 {defers:=h.defers
  size:=h.size
  env:=fun t τ ar=>let⟨v,J,ad⟩:=h.env t τ ar; ⟨v,J,τ.mono gA ad⟩
  dm:=h.dm
  own:=fun e he=>by
   have J:=h.own e (an e he)
   unfold aF.ok at *
   split at J
   ·obtain⟨o',a6,b3⟩:=J
    exact⟨o',a6,dA.mono _ gA b3⟩
   ·exact J
  nodup:=aL
  lt:=fun k hm=>h.lt k (au k hm)
  fA:=fun k hm=>h.fA k (au k hm)
  eC:=fun k hm=>⟨(h.eC k hm).1,fun ad=>(h.eC k hm).2 (au k ad)⟩ }
theorem eF (L R:List aF):aJ (L ++ R)=aJ L ++ aJ R:=by
 induction L with
 | nil=>rfl
 | cons e r bz=>cases au:e.key <;> simp [aJ,au,bz]
theorem vO {L:List aF} {i:Nat} {e:aF} {cp:dA} (aq:L[i]? =some e):aJ (L.set i ⟨e.key,cp⟩)=aJ L:=by
 induction L generalizing i with
 | nil=>simp at aq
 | cons x r bz=>
   cases i with
   | zero=>simp only [List.getElem?_cons_zero,Option.some.injEq] at aq; subst aq; simp [aJ]
   | succ i=>simp only [List.getElem?_cons_succ] at aq; simp [aJ,bz aq]
theorem Fi {L:List aF} (aL:(aJ L).Nodup) {i j:Nat} {e f:aF} {p:Nat} (aq:L[i]? =some e) (aC:L[j]? =some f) (he:e.key=some p) (a0:f.key=some p):i=j:=by
 induction L generalizing i j with
 | nil=>simp at aq
 | cons x r bz=>
   have aQ:(aJ r).Nodup:=by
    cases ak:x.key with
    | none=>simpa [aJ,ak] using aL
    | some q=>simp only [aJ,ak] at aL; exact(List.nodup_cons.1 aL).2
   have oT:∀ q,x.key=some q→q ∉ aJ r:=fun q ak=>by simp only [aJ,ak] at aL; exact(List.nodup_cons.1 aL).1
   cases i with
   | zero=>
     simp only [List.getElem?_cons_zero,Option.some.injEq] at aq
     subst aq
     cases j with
     | zero=>rfl
     | succ j=>
       simp only [List.getElem?_cons_succ] at aC
       exact absurd (km.2 ⟨f,List.mem_of_getElem? aC,a0⟩) (oT p he)
   | succ i=>
     simp only [List.getElem?_cons_succ] at aq
     cases j with
     | zero=>
       simp only [List.getElem?_cons_zero,Option.some.injEq] at aC
       subst aC
       exact absurd (km.2 ⟨e,List.mem_of_getElem? aq,he⟩) (oT p a0)
     | succ j=>
       simp only [List.getElem?_cons_succ] at aC
       rw [bz aQ aq aC]
theorem bs.store {c E L a W} (h:bs c E L a W) {i p:Nat} {cp cp':dA} (aq:L[i]? =some ⟨some p,cp⟩) {cs dx:Array Value} {T:TypeId}
 (a6:W.heap[p]? =some (.cells cs T (0,0))) (aj:cp'.holds (aJ L ++ c.bM) W (.cells dx T (0,0))):
 bs c E (L.set i ⟨some p,cp'⟩) a (W.setRow p dx):=by
 have gB:aJ (L.set i ⟨some p,cp'⟩)=aJ L:=vO (cp:=cp') aq
 have hp:p∈aJ L:=km.2 ⟨_,List.mem_of_getElem? aq,rfl⟩
 have gA:Ext (aJ L ++ c.bM) W (aJ L ++ c.bM) (W.setRow p dx):=
  ⟨by simp,fun k _ bg=>setRow_other W p k dx (fun e=>bg (e ▸ List.mem_append.2 (.inl hp))),fun _ h _=>h⟩
 exact
 {defers:=h.defers
  size:=h.size
  env:=fun t τ ar=>by rw [gB]; exact let⟨v,J,ad⟩:=h.env t τ ar; ⟨v,J,τ.mono gA ad⟩
  dm:=⟨h.dm.os,h.dm.tape,h.dm.output,by simpa using h.dm.size,fun k au ak=>by
   rw [setRow_other W p k dx (fun e=>ak (e ▸ h.fA p hp (e ▸ au)))]
   exact h.dm.block k au ak⟩
  own:=fun e he=>by
   rw [gB]
   obtain⟨j,aC⟩:=List.mem_iff_getElem?.1 he
   rw [List.getElem?_set] at aC
   split at aC
   ·rename_i e5
    subst e5
    split at aC
    ·simp only [Option.some.injEq] at aC
     subst aC
     exact⟨_,setRow_heap W p cs dx T (0,0) a6,cp'.mono gA aj⟩
    ·cases aC
   ·rename_i e5
    have J:=h.own e (List.mem_of_getElem? aC)
    unfold aF.ok at *
    split at J
    ·rename_i q hq
     obtain⟨o',qY,b3⟩:=J
     have cQ:q≠p:=fun e'=>e5 (Fi h.nodup aq aC rfl (e' ▸ hq))
     exact⟨o',by rw [setRow_other W p q dx cQ]; exact qY,dA.mono _ gA b3⟩
    ·exact J
  nodup:=by rw [gB]; exact h.nodup
  lt:=by rw [gB]; simpa using h.lt
  fA:=by rw [gB]; exact h.fA
  eC:=by rw [gB]; simpa using h.eC }
end Gv
namespace Gv
open Go
abbrev ae.scalar {α:Type} (val:α→Value) (h:∀ x,(val x).oneCell'=true):ae α where
 size:=1
 agg:=false
 rep _ _ cs x:=cs= [val x]
 len h:=by rw [h]; rfl
 one aQ:=by subst aQ; intro v a3; rw [List.mem_singleton.1 a3]; exact h _
 flat _:=rfl
 mono _ h:=h
instance:ae Bool:= .scalar Value.bool fun _=>rfl
instance:ae Int:= .scalar (Value.int .i64) fun _=>rfl
instance:ae (BitVec 64):= .scalar (fun x=>Value.int .u64 (x.toNat:Int)) fun _=>rfl
instance:ae (BitVec 32):= .scalar (fun x=>Value.int .u32 (x.toNat:Int)) fun _=>rfl
instance:ae (BitVec 16):= .scalar (fun x=>Value.int .u16 (x.toNat:Int)) fun _=>rfl
instance:ae (BitVec 8):= .scalar (fun x=>Value.int .u8 (x.toNat:Int)) fun _=>rfl
instance:ae ByteArray:= .scalar Value.string fun _=>rfl
theorem m6 {v u:Value} (h:v.oneCell'=true) (e:v.cells.toList= [u]):v=u:=by
 rw [nM h] at e
 simpa using e
theorem of_bool {A W v} {b:Bool} :(I.of b).holds A W v↔v= .bool b:=
 ⟨fun h=>m6 h.1 h.2,fun h=>by subst h; exact⟨rfl,rfl⟩⟩
theorem of_int {A W v} {x:Int} :(I.of x).holds A W v↔v= .int .i64 x:=
 ⟨fun h=>m6 h.1 h.2,fun h=>by subst h; exact⟨rfl,rfl⟩⟩
theorem gN {A W v} {x:BitVec 64} :(I.of x).holds A W v↔v= .int .u64 (x.toNat:Int):=
 ⟨fun h=>m6 h.1 h.2,fun h=>by subst h; exact⟨rfl,rfl⟩⟩
theorem Uh {A W v} {x:BitVec 8} :(I.of x).holds A W v↔v= .int .u8 (x.toNat:Int):=
 ⟨fun h=>m6 h.1 h.2,fun h=>by subst h; exact⟨rfl,rfl⟩⟩
theorem St {A W v} {x:ByteArray} :(I.of x).holds A W v↔v= .string x:=
 ⟨fun h=>m6 h.1 h.2,fun h=>by subst h; exact⟨rfl,rfl⟩⟩
def a4 (c:cT) (E:List (Nat × I)) (L:List aF) (x:Operand) (τ:I):Prop:= ∀ a W,bs c E L a W→τ.holds (aJ L ++ c.bM) W (a.eval x)
section
variable {c:cT} {E:List (Nat × I)} {L:List aF}
theorem aa {t:Nat} {τ:I} (h:look E t=some τ):a4 c E L (.tmp t) τ:=fun a W s=>by
 obtain⟨v,J,ad⟩:=s.env t τ h
 have:a.eval (.tmp t)=v:=by simp [Act.eval,J]
 rw [this]; exact ad
theorem c2 {t:Nat} {τ:I} {p:Prop} (h:look E t=some (.cond p τ)) (hp:p):a4 c E L (.tmp t) τ:=fun a W s=>(aa h a W s).1 hp
theorem Kn (v:Value):a4 c E L (.const v) (.eq v):=fun _ _ _=>rfl
theorem bE (k:Int):a4 c E L (.const (.int .i64 k)) (.of k):=fun _ _ _=>of_int.2 rfl
theorem fz (b:Bool):a4 c E L (.const (.bool b)) (.of b):=fun _ _ _=>of_bool.2 rfl
theorem hj (x:BitVec 64) {k:Int} (h:(x.toNat:Int)=k):a4 c E L (.const (.int .u64 k)) (.of x):=fun _ _ _=>gN.2 (by rw [h]; rfl)
theorem dn (s:ByteArray):a4 c E L (.const (.string s)) (.of s):=fun _ _ _=>St.2 rfl
def fR (P:Program) (o:Oper) (a:Act) (W:World) (R:Value→World→Prop):Prop:=
 o.wp P a W (fun fK W'=> ∃ v,fK=a.put o.dst v∧R v W') (fun _ _ _=>False)
theorem CallsIn.EZ {rd:Option Nat} {n:Nat} {P:Program} {f:FuncId} {args:Array Value} {w:World} {R:Ending→World→Prop}
 (h:Calls P f args w R):CallsIn { fn:=fun _=>True,depth:=none,alive:=false,round:=rd } n P f args w R:=
 (callsIn_wide (n:=n)).2 h
theorem RowsIn.Su {rd:Option Nat} {n:Nat} {P:Program} {row:String} {args:Array Value} {w:World} {R:Value→World→Prop}
 (h:Rows P row args w R):RowsIn { fn:=fun _=>True,depth:=none,alive:=false,round:=rd } n P row args w R:=
 fun c cs _=>let⟨v,ph,r,s⟩:=h c cs; ⟨v,ph,r,stepsIn_wide.2 s⟩
theorem fR.wp {P:Program} {o:Oper} {a:Act} {W:World} {R:Value→World→Prop} {next:Act→World→Prop} {Q:Exit→Act→World→Prop}
 (h:fR P o a W R) (au:∀ v W',R v W'→next (a.put o.dst v) W'):o.wp P a W next Q:=by
 unfold fR Oper.wp at *
 generalize (execOp a.eval o).run P W=r at *
 cases r with
 | ok n W'=>
   cases n <;> simp only [Oper.upon] at h ⊢
   case value v=>obtain⟨u,J,ad⟩:=h; rw [J]; exact au _ _ ad
   case skip=>obtain⟨u,J,ad⟩:=h; rw [J]; exact au _ _ ad
   case defer d=>obtain⟨u,J,ad⟩:=h; rw [J]; exact au _ _ ad
   case enter f args=>
    refine h.mono fun e sq he=> ?_
    cases e with
    | returned v=>obtain⟨u,J,ad⟩:=he; simp only at J ⊢; rw [J]; exact au _ _ ad
    | panicked HB=>exact he.elim
    | outgrown=>obtain⟨_,_,J⟩:=he; exact J.elim
   case row row args=>exact h.mono fun v sq ⟨u,J,ad⟩=>by rw [J]; exact au _ _ ad
 | halt x W'=>cases x <;> simp only [Oper.upon] at h
theorem fR.Q4 {P:Program} {o:Oper} {a:Act} {W:World} {R:Value→World→Prop} (h:fR P o a W R):∀ c,o.op≠ .defer c:=by
 intro c a6
 unfold fR Oper.wp execOp at h
 rw [a6] at h
 simp only [Sem.run_bind] at h
 generalize (resolve a.eval c o.type).run P W=r at h
 cases r with
 | ok d W'=>
   simp only [Result.andThen,Sem.run_pure,Oper.upon] at h
   obtain⟨v,J,_⟩:=h
   have:=congrArg Act.defers J
   cases hd:o.dst <;> simp [Act.put,hd] at this
 | halt x W'=>cases x <;> simp only [Result.andThen,Oper.upon] at h
theorem fR.wpIn {c:cT} {n:Nat} {o:Oper} {a:Act} {W:World} {R:Value→World→Prop} {next:Act→World→Prop} {Q:Exit→Act→World→Prop}
 (h:fR c.P o a W R) (au:∀ v W',R v W'→next (a.put o.dst v) W'):o.wpIn c.F n c.P a W next Q:=by
 refine⟨fun _ _=>trivial,?_⟩
 rw [Oper.semAt_eq _ _ _ h.Q4]
 unfold fR Oper.wp at h
 generalize (execOp a.eval o).run c.P W=r at *
 cases r with
 | ok m W'=>
   cases m <;> simp only [Oper.upon,Oper.uponIn] at h ⊢
   case value v=>obtain⟨u,J,ad⟩:=h; rw [J]; exact au _ _ ad
   case skip=>obtain⟨u,J,ad⟩:=h; rw [J]; exact au _ _ ad
   case defer d=>obtain⟨u,J,ad⟩:=h; rw [J]; exact au _ _ ad
   case enter f args=>
    refine⟨fun h=>by simp at h,CallsIn.EZ ?_⟩
    refine h.mono fun e sq he=> ?_
    cases e with
    | returned v=>obtain⟨u,J,ad⟩:=he; simp only at J ⊢; rw [J]; exact au _ _ ad
    | panicked HB=>exact he.elim
    | outgrown=>obtain⟨_,_,J⟩:=he; exact J.elim
   case row row args=>
    refine⟨fun h=>by simp at h,RowsIn.Su ?_⟩
    exact h.mono fun v sq ⟨u,J,ad⟩=>by rw [J]; exact au _ _ ad
 | halt x W'=>cases x <;> simp only [Oper.upon] at h
theorem Pv {c:cT} {n:Nat} {o:Oper} {a:Act} {W W':World} {v:Value} {next:Act→World→Prop} {Q:Exit→Act→World→Prop}
 (h:(execOp a.eval o).run c.P W= .ok (.value v) W') (au:next (a.put o.dst v) W'):o.wpIn c.F n c.P a W next Q:=
 fR.wpIn (R:=fun u U=>u=v∧U=W') (by unfold fR Oper.wp; rw [h]; exact⟨v,rfl,rfl,rfl⟩) fun u U ⟨J,ad⟩=>by subst J; subst ad; exact au
theorem IC {c:cT} {n:Nat} {o:Oper} {a:Act} {W W':World} {next:Act→World→Prop} {Q:Exit→Act→World→Prop}
 (h:(execOp a.eval o).run c.P W= .ok .skip W') (au:next (a.put o.dst undef) W'):o.wpIn c.F n c.P a W next Q:=
 fR.wpIn (R:=fun u U=>u=undef∧U=W') (by unfold fR Oper.wp; rw [h]; exact⟨undef,rfl,rfl,rfl⟩) fun u U ⟨J,ad⟩=>by subst J; subst ad; exact au
theorem xK {F:Fence} {n:Nat} {P:Program} {md:Region.Mode} {ops:Array Oper} {rk:Exit→Act→World→Prop} :∀ (l:List Oper) (k:Nat) (aX:Array Bool) (a:Act) (w:World),(∀ j,l[j]? =ops[k + j]?)→
 Region.seqB md ops l.length k aX=true→wpListIn F n P ops rk l a w→wpAnyIn F n P md ops rk l.length aX a w
 | [],_,_,_,_,_,gI,h=>⟨by simpa [Region.seqB] using gI,h⟩
 | o :: l,k,aX,a,w,ar,gI,h=>by
   have bB:ops[k]? =some o:=by simpa using (ar 0).symm
   simp only [List.length_cons,Region.seqB,Bool.and_eq_true,decide_eq_true_eq] at gI
   refine⟨fun J=>(by rw [gI.1] at J; cases J),fun i aq=> ?_⟩
   rw [gI.1] at aq
   have kx:i=k:=by simpa using aq
   subst kx
   have hw:wpOpIn F n P ops rk i (wpListIn F n P ops rk l) a w:=by unfold wpOpIn; simp only [bB]; exact h
   exact wpOpIn_mono (fun fK ph cV=>xK l (i + 1) _ fK ph (fun j=>by have:=ar (j + 1); simpa [Nat.add_assoc,Nat.add_comm 1 j] using this) gI.2 cV) hw
theorem fR.k2 {P:Program} {o:Oper} {a:Act} {W W':World} {R:Value→World→Prop} {v:Value}
 (h:(execOp a.eval o).run P W= .ok (.value v) W') (aQ:R v W'):fR P o a W R:=by
 unfold fR Oper.wp
 rw [h]
 exact⟨v,rfl,aQ⟩
theorem fR.vG {P:Program} {o:Oper} {a:Act} {W W':World} {R:Value→World→Prop}
 (h:(execOp a.eval o).run P W= .ok .skip W') (aQ:R undef W'):fR P o a W R:=by
 unfold fR Oper.wp
 rw [h]
 exact⟨undef,rfl,aQ⟩
theorem fR.te {P:Program} {o:Oper} {a:Act} {W W':World} {R:Value→World→Prop} {f:FuncId} {args:Array Value}
 (h:(execOp a.eval o).run P W= .ok (.enter f args) W') (aQ:Calls P f args W' fun e sq=> ∃ v,e= .returned v∧R v sq):fR P o a W R:=by
 unfold fR Oper.wp
 rw [h]
 exact aQ.mono fun e sq ⟨v,he,ad⟩=>by subst he; exact⟨v,rfl,ad⟩
def bO (c:cT) (E:List (Nat × I)) (L:List aF) (o:Oper) (τ:I):Prop:=
 ∀ a W,bs c E L a W→fR c.P o a W fun v W'=>Fr [] W W'∧τ.holds (aJ L ++ c.bM) W' v
theorem bO.pure {o:Oper} {τ:I} (h:∀ a W,bs c E L a W→ ∃ v,(execOp a.eval o).run c.P W= .ok (.value v) W∧τ.holds (aJ L ++ c.bM) W v):bO c E L o τ:=
 fun a W s=>let⟨_,J,ad⟩:=h a W s; .k2 J ⟨.refl _ _,ad⟩
variable {ops:Array Oper} {Q:Exit→Act→World→Prop}
def ag (c:cT) (ops:Array Oper) (Q:Exit→Act→World→Prop) (l:List Oper) (E:List (Nat × I)) (L:List aF):Prop:=
 ∀ a W,bs c E L a W→c.pV ops Q l a W
def ah (c:cT) (Q:Exit→Act→World→Prop) (x:Exit) (E:List (Nat × I)) (L:List aF):Prop:= ∀ a W,bs c E L a W→Q x a W
theorem ag.nil (h:ah c Q .normal E L):ag c ops Q [] E L:=fun a W s=>wpListIn_nil (h a W s)
theorem hA {c:cT} {o:Oper} {rest:List Oper} {a:Act} {W:World} (bx:o.guard=none) {R:Value→World→Prop} (h:fR c.P o a W R)
 (au:∀ v W',R v W'→c.pV ops Q rest (a.put o.dst v) W'):c.pV ops Q (o :: rest) a W:=
 wpListIn_plain bx fun _ uT=>h.wpIn fun v W' aQ=>uT _ _ (au v W' aQ)
theorem ag.v {o:Oper} {rest:List Oper} {d:Nat} {τ:I} (h:bO c E L o τ) (bx:o.guard=none) (hd:o.dst=some d) (aL:Nat.blt d c.n=true)
 (k:ag c ops Q rest ((d,τ) :: E) L):ag c ops Q (o :: rest) E L:=fun a W s=>
 hA bx (h a W s) fun v W' ⟨f,a3⟩=>by
  rw [hd]
  exact k _ _ ((s.world f).put (by simpa using aL) a3)
theorem ag.x {o:Oper} {rest:List Oper} {τ:I} (h:bO c E L o τ) (bx:o.guard=none) (hd:o.dst=none)
 (k:ag c ops Q rest E L):ag c ops Q (o :: rest) E L:=fun a W s=>
 hA bx (h a W s) fun v W' ⟨f,_⟩=>by
  rw [hd]
  exact k _ _ (s.world f)
theorem Eg {j g:Nat} {b:Bool} (aC:(ops[j]?).bind (·.dst)=some g) (ar:look E g=some (.of b)) {a:Act} {W:World} (s:bs c E L a W):
 yielded ops a.tmps j=some b:=by
 obtain⟨v,J,ad⟩:=s.env g _ ar
 unfold yielded
 rw [aC]
 simp only [Option.bind_some,J,of_bool.1 ad]
theorem ag.g {o:Oper} {rest:List Oper} {d j g:Nat} {b want:Bool} {τ:I} (h:b=want→bO c E L o τ) (bx:o.guard=some (j,want)) (aC:(ops[j]?).bind (·.dst)=some g)
 (ar:look E g=some (.of b)) (hd:o.dst=some d) (aL:Nat.blt d c.n=true)
 (k:ag c ops Q rest ((d,.cond (b=want) τ) :: E) L):ag c ops Q (o :: rest) E L:=fun a W s=>by
 have a7:=Eg aC ar s
 unfold cT.pV wpListIn
 by_cases hb:b=want
 ·rw [if_pos (by simp [Region.wanted,bx,a7,hb])]
  refine((h hb a W s).wpIn fun v W' ⟨f,a3⟩=> ?_)
  rw [hd]
  exact k _ _ ((s.world f).put (by simpa using aL) ⟨fun _=>a3,fun h=>absurd hb h⟩)
 ·rw [if_neg (by simp [Region.wanted,bx,a7,hb])]
  rw [hd]
  exact⟨fun _ _=>trivial,k _ _ (s.put (by simpa using aL) ⟨fun h=>absurd h hb,fun _=>rfl⟩)⟩
theorem D4 {j g:Nat} {p:Prop} {b:Bool} (aC:(ops[j]?).bind (·.dst)=some g) (ar:look E g=some (.cond p (.of b))) {a:Act} {W:World} (s:bs c E L a W):
 (p→yielded ops a.tmps j=some b)∧ (¬ p→yielded ops a.tmps j=none):=by
 obtain⟨v,J,ad,ax⟩:=s.env g _ ar
 unfold yielded
 rw [aC]
 simp only [Option.bind_some,J]
 exact⟨fun hp=>by simp only [of_bool.1 (ad hp)],fun hp=>by simp only [ax hp]; rfl⟩
theorem ag.gg {o:Oper} {rest:List Oper} {d j g:Nat} {p:Prop} {b want:Bool} {τ:I} (h:p∧b=want→bO c E L o τ) (bx:o.guard=some (j,want)) (aC:(ops[j]?).bind (·.dst)=some g)
 (ar:look E g=some (.cond p (.of b))) (hd:o.dst=some d) (aL:Nat.blt d c.n=true)
 (k:ag c ops Q rest ((d,.cond (p∧b=want) τ) :: E) L):ag c ops Q (o :: rest) E L:=fun a W s=>by
 have a7:=D4 aC ar s
 unfold cT.pV wpListIn
 by_cases hb:p∧b=want
 ·rw [if_pos (by simp [Region.wanted,bx,a7.1 hb.1,hb.2])]
  refine((h hb a W s).wpIn fun v W' ⟨f,a3⟩=> ?_)
  rw [hd]
  exact k _ _ ((s.world f).put (by simpa using aL) ⟨fun _=>a3,fun h=>absurd hb h⟩)
 ·have hw:Region.wanted o (yielded ops a.tmps)=false:=by
   by_cases hp:p
   ·have: ¬ (b=want):=fun h=>hb ⟨hp,h⟩
    simp [Region.wanted,bx,a7.1 hp,this]
   ·simp [Region.wanted,bx,a7.2 hp]
  rw [if_neg (by simp [hw])]
  refine⟨fun _ _=>trivial,?_⟩
  rw [hd]
  exact k _ _ (s.put (by simpa using aL) ⟨fun h=>absurd h hb,fun _=>rfl⟩)
def sub:List (Nat × I)→List Nat→List (Nat × I)
 | _,[]=> []
 | E,t :: r=>match look E t with
   | some τ=>(t,τ) :: sub E r
   | none=>sub E r
inductive gT (E:List (Nat × I)):List (Nat × I)→Prop
 | nil:gT E []
 | cons {t τ σ r} :look E t=some σ→ (∀ A W v,σ.holds A W v→τ.holds A W v)→gT E r→gT E ((t,τ) :: r)
theorem gT.same {t:Nat} {τ:I} {r:List (Nat × I)} (h:look E t=some τ) (k:gT E r):gT E ((t,τ) :: r):= .cons h (fun _ _ _ h=>h) k
theorem gT.look:∀ {E':List (Nat × I)},gT E E'→ ∀ t τ,Gv.look E' t=some τ→ ∃ σ,Gv.look E t=some σ∧ ∀ A W v,σ.holds A W v→τ.holds A W v
 | _,.nil,t,τ,h=>by simp [Gv.look] at h
 | _,.cons (t:=s) (σ:=σ) J ad r,t,τ,h=>by
   simp only [Gv.look] at h
   by_cases e:Nat.beq s t=true
   ·rw [e] at h
    simp only [cond_true,Option.some.injEq] at h
    subst h
    rw [dX.1 e] at J
    exact⟨σ,J,ad⟩
   ·simp only [Bool.not_eq_true] at e
    rw [e] at h
    exact r.look t τ h
theorem ah.le {x:Exit} {E':List (Nat × I)} (h:gT E E') (k:ah c Q x E' L):ah c Q x E L:=fun a W s=>k a W (s.less h.look)
theorem ag.le {l:List Oper} {E':List (Nat × I)} (h:gT E E') (k:ag c ops Q l E' L):ag c ops Q l E L:=fun a W s=>k a W (s.less h.look)
def ai (c:cT) (Q:Exit→Act→World→Prop) (code:Code) (E:List (Nat × I)) (L:List aF):Prop:= ∀ a W,bs c E L a W→c.wp code Q a W
theorem ai.le {code:Code} {E':List (Nat × I)} (h:gT E E') (k:ai c Q code E' L):ai c Q code E L:=fun a W s=>k a W (s.less h.look)
theorem ai.cO {id:Nat} {l:List Oper} (h:ag c l.toArray Q l E L):ai c Q (.region id l.toArray false) E L:=fun a W s=>wpIn_region_lit (h a W s)
theorem ai.seq {x y:Code} (h:ai c (Exit.then (c.wp y Q) Q) x E L):ai c Q (.seq x y) E L:=fun a W s=>wpIn_seq (h a W s)
theorem ah.next {y:Code} (h:ai c Q y E L):ah c (Exit.then (c.wp y Q) Q) .normal E L:=fun a W s=>h a W s
theorem ah.exit {y:Act→World→Prop} {id:Nat} (h:ah c Q (.exit id) E L):ah c (Exit.then y Q) (.exit id) E L:=fun a W s=>h a W s
theorem ah.ret {y:Act→World→Prop} (h:ah c Q .ret E L):ah c (Exit.then y Q) .ret E L:=fun a W s=>h a W s
theorem ai.block {id:Nat} {x:Code} (h:ai c (Exit.inBlock id Q) x E L):ai c Q (.block id x) E L:=fun a W s=>wpIn_block (h a W s)
theorem ah.fF {id:Nat} (h:ah c Q .normal E L):ah c (Exit.inBlock id Q) .normal E L:=fun a W s=>h a W s
theorem ah.h4 {id:Nat} (h:ah c Q .normal E L):ah c (Exit.inBlock id Q) (.exit id) E L:=fun a W s=>by
 show(if id=id then Q .normal a W else Q (.exit id) a W)
 rw [if_pos rfl]; exact h a W s
theorem ah.e4 {id:Nat} (h:ah c Q .ret E L):ah c (Exit.inBlock id Q) .ret E L:=fun a W s=>h a W s
theorem ai.skip (h:ah c Q .normal E L):ai c Q .skip E L:=fun a W s=>wpIn_skip (h a W s)
theorem ai.exit {id:Nat} (h:ah c Q (.exit id) E L):ai c Q (.exit id) E L:=fun a W s=>wpIn_exit (h a W s)
theorem ai.ret (h:ah c Q .ret E L):ai c Q .ret E L:=fun a W s=>wpIn_ret (h a W s)
theorem ai.cond {x:Operand} {b:Bool} {y z:Code} (ar:a4 c E L x (.of b)) (bI:b=true→ai c Q y E L) (a0:b=false→ai c Q z E L):ai c Q (.cond x y z) E L:=
 fun a W s=>wpIn_cond_split (of_bool.1 (ar a W s)) (fun h=>bI h a W s) (fun h=>a0 h a W s)
def gz {σ ε:Type} :Nat→ (σ→Option (σ ⊕ ε))→σ→Option ε
 | 0,_,_=>none
 | n + 1,b,s=>match b s with
   | none=>none
   | some (.inl bW)=>gz n b bW
   | some (.inr e)=>some e
def Nz {σ ε:Type} (c:cT) (E:σ→List (Nat × I)) (L:σ→List aF) (xs:ε→Exit) (fj:ε→List (Nat × I)) (Lx:ε→List aF):σ ⊕ ε→Exit→Act→World→Prop
 | .inl s,x,a,W=>x= .normal∧bs c (E s) (L s) a W
 | .inr e,x,a,W=>x≠ .normal∧x=xs e∧bs c (fj e) (Lx e) a W
theorem ah.round {σ ε:Type} {E':σ→List (Nat × I)} {av:σ→List aF} {xs:ε→Exit} {fj:ε→List (Nat × I)} {Lx:ε→List aF} {s:σ}
 (h:∀ a W,bs c E L a W→bs c (E' s) (av s) a W):ah c (Nz c E' av xs fj Lx (.inl s)) .normal E L:=fun a W st=>⟨rfl,h a W st⟩
theorem I4 {F:Fence} {n:Nat} {P:Program} {body:Code} {σ ε:Type} (b:σ→Option (σ ⊕ ε)) (fa:σ→Act→World→Prop) (X:ε→Exit→Act→World→Prop)
 (pF:∀ s r,b s=some r→ ∀ a W,fa s a W→body.wpIn F n P (fun x a W=>match r with | .inl bW=>x= .normal∧fa bW a W | .inr e=>x≠ .normal∧X e x a W) a W)
 (Q:Exit→Act→World→Prop) (e:ε) (nd:∀ x a W,X e x a W→Q x a W) {b0:σ} {N:Nat} (ar:gz N b b0=some e) {hy:Act} {iC:World} (bB:fa b0 hy iC):
 (Code.loop body).wpIn F n P Q hy iC:=by
 intro dm k cs wG hb aQ
 have key:∀ N s,gz N b s=some e→ ∀ a W,fa s a W→
  ∃ x fK W',Q x fK W'∧ArrivesIn (Machine.fenced P F) P (lone (dm.atR a (.code body :: .inLoop body :: k)) cs W) dm k cs x fK W':=by
  intro N
  induction N with
  | zero=>intro s h; simp [gz] at h
  | succ N bz=>
    intro s h a W kY
    simp only [gz] at h
    split at h
    ·cases h
    ·rename_i bW hs
     obtain⟨x,wh,wi,hq,pQ⟩:=pF s _ hs a W kY dm (.inLoop body :: k) cs wG hb aQ
     obtain⟨ak,GC⟩:=hq
     subst ak
     obtain⟨Gd,Ge,Gf,FM,E0⟩:=bz bW h wh wi GC
     exact⟨Gd,Ge,Gf,FM,.of_steps (StepsIn.trans pQ (.one (fenced_calm hb aQ rfl) stepR_inLoop)) E0⟩
    ·rename_i e' hs
     simp only [Option.some.injEq] at h
     subst h
     obtain⟨x,wh,wi,hq,pQ⟩:=pF s _ hs a W kY dm (.inLoop body :: k) cs wG hb aQ
     obtain⟨ak,HC⟩:=hq
     exact⟨x,wh,wi,nd _ _ _ HC,.pass (x:= .inLoop body) rfl (fun _ _=> .inl ak) pQ⟩
 obtain⟨x,fK,W',hq,pQ⟩:=key N b0 ar hy iC bB
 exact⟨x,fK,W',hq,.of_steps (.one (fenced_calm hb aQ rfl) stepR_loop) pQ⟩
theorem ai.loop {σ ε:Type} {body:Code} {N:Nat} {b:σ→Option (σ ⊕ ε)} {b0:σ} {e:ε} (ar:gz N b b0=some e)
 (E:σ→List (Nat × I)) (L:σ→List aF) (xs:ε→Exit) (fj:ε→List (Nat × I)) (Lx:ε→List aF)
 (qD:∀ s r,b s=some r→ai c (Nz c E L xs fj Lx r) body (E s) (L s))
 (nd:ah c Q (xs e) (fj e) (Lx e)):ai c Q (.loop body) (E b0) (L b0):=fun a W st=>
 I4 b (fun s a W=>bs c (E s) (L s) a W) (fun e x a W=>x=xs e∧bs c (fj e) (Lx e) a W)
  (fun s r hs a W kY=>wpIn_mono (qD s r hs a W kY) (fun x a W h=>by
   cases r with
   | inl bW=>exact h
   | inr e'=>exact⟨h.1,h.2⟩)) Q e (fun x a W ⟨ak,hs⟩=>by subst ak; exact nd a W hs) ar st
def b9 (P:Program) (f:FuncId) (τs:List I) (ρ:I):Prop:=
 ∀ (A:List Nat) (W:World) (vs:List Value),(∀ k∈A,k < W.heap.size)→fM A W τs vs→
   Calls P f vs.toArray W fun e W'=> ∃ v,e= .returned v∧Fr [] W W'∧ρ.holds A W' v
def params:Nat→List I→List (Nat × I)
 | _,[]=> []
 | k,τ :: r=>(k,τ) :: params (k + 1) r
theorem s5 {A:List Nat} {W:World} {τs:List I} {vs:List Value} (h:fM A W τs vs):∀ (k t:Nat) (τ:I),look (params k τs) t=some τ→k≤t∧ ∃ v,vs[t - k]? =some v∧τ.holds A W v:=by
 induction h with
 | nil=>intro k t τ h; simp [params,look] at h
 | cons J r bz=>
   intro k t τ ar
   simp only [params,look] at ar
   by_cases e:Nat.beq k t=true
   ·rw [e] at ar
    simp only [cond_true,Option.some.injEq] at ar
    subst ar
    rw [dX.1 e]
    exact⟨Nat.le_refl _,_,by simp,J⟩
   ·simp only [Bool.not_eq_true] at e
    rw [e] at ar
    have cQ:k≠t:=fun h=>by rw [dX.2 h] at e; cases e
    obtain⟨ad,v,ax,aR⟩:=bz (k + 1) t τ ar
    refine⟨by omega,v,?_,aR⟩
    rw [show t - k=(t - (k + 1)) + 1 by omega,List.getElem?_cons_succ]
    exact ax
theorem b9.enter {P:Program} {f:FuncId} {fn:Func} {code:Code} {n:Nat} {τs:List I} {ρ:I} (a0:P.funcs[f]? =some fn) (hb:fn.body=some code) (aL:fn.ntmps=n) (hlen:Nat.ble τs.length n=true)
 (h:∀ W A,ai ⟨P,n,W,[],A,none,[]⟩ (bodyPost P fn fun e W'=> ∃ v,e= .returned v∧Fr [] W W'∧ρ.holds A W' v) code (params 0 τs) []):b9 P f τs ρ:=by
 intro A W vs fk a3
 refine calls_of_wp a0 hb (wpIn_wide.1 (h W A _ _ ?_))
 have ar:=a3.length
 have hle:τs.length≤n:=Nat.le_of_ble_eq_true hlen
 exact
 {defers:=rfl
  size:=by simp [aL,ar]; omega
  env:=fun t τ ka=>by
   obtain⟨_,v,ad,ax⟩:=s5 a3 0 t τ ka
   refine⟨v,?_,ax⟩
   have b5:t < vs.length:=(List.getElem?_eq_some_iff.1 ad).1
   rw [Array.getElem?_append_left (by simpa using b5)]
   simpa using ad
  dm:= .refl _ _
  own:=by simp
  nodup:=by simp [aJ]
  lt:=by simp [aJ]
  fA:=by simp [aJ]
  eC:=fun k au=>⟨fk k au,by simp [aJ]⟩ }
theorem IN {ρ:I} {A B:List Nat} {W:World} {v:Value} (h:ρ.holds (B ++ A) W v):ρ.holds A W v:=ρ.mono (.drop fun _ h=>List.mem_append.2 (.inr h)) h
end
end Gv
namespace Gv
open Go
set_option linter.unusedVariables false
section
variable {c:cT} {E:List (Nat × I)} {L:List aF} {ops:Array Oper} {Q:Exit→Act→World→Prop}
def jX (c:cT) (ops:Array Oper) (E:List (Nat × I)) (L:List aF) (o:Oper) (τ:I):Prop:=
 ∀ a W,bs c E L a W→
   (Region.wanted o (yielded ops a.tmps)=true→fR c.P o a W fun v W'=>Fr [] W W'∧τ.holds (aJ L ++ c.bM) W' v)∧
   (Region.wanted o (yielded ops a.tmps)=false→τ.holds (aJ L ++ c.bM) W undef)
theorem jX.v {o:Oper} {τ:I} (h:bO c E L o τ) (bx:o.guard=none):jX c ops E L o τ:=fun a W s=>
 ⟨fun _=>h a W s,fun hw=>by simp [Region.wanted,bx] at hw⟩
theorem jX.g {o:Oper} {j g:Nat} {b want:Bool} {τ:I} (h:b=want→bO c E L o τ) (bx:o.guard=some (j,want)) (aC:(ops[j]?).bind (·.dst)=some g) (ar:look E g=some (.of b)):
 jX c ops E L o (.cond (b=want) τ):=fun a W s=>by
 have a7:=Eg aC ar s
 constructor
 ·intro hw
  have hb:b=want:=by simpa [Region.wanted,bx,a7] using hw
  refine fR.wp (h hb a W s) fun v W' ⟨f,a3⟩=>⟨v,rfl,f,fun _=>a3,fun h=>absurd hb h⟩
 ·intro hw
  exact⟨fun hb=>by simp [Region.wanted,bx,a7,hb] at hw,fun _=>rfl⟩
theorem jX.gg {o:Oper} {j g:Nat} {p:Prop} {b want:Bool} {τ:I} (h:p∧b=want→bO c E L o τ) (bx:o.guard=some (j,want)) (aC:(ops[j]?).bind (·.dst)=some g) (ar:look E g=some (.cond p (.of b))):
 jX c ops E L o (.cond (p∧b=want) τ):=fun a W s=>by
 have a7:=D4 aC ar s
 have CL:Region.wanted o (yielded ops a.tmps)=true→p∧b=want:=by
  intro hw
  by_cases hp:p
  ·exact⟨hp,by simpa [Region.wanted,bx,a7.1 hp] using hw⟩
  ·simp [Region.wanted,bx,a7.2 hp] at hw
 constructor
 ·intro hw
  refine fR.wp (h (CL hw) a W s) fun v W' ⟨f,a3⟩=>⟨v,rfl,f,fun _=>a3,fun h=>absurd (CL hw) h⟩
 ·intro hw
  exact⟨fun hb=>by simp [Region.wanted,bx,a7.1 hb.1,hb.2] at hw,fun _=>rfl⟩
inductive eL
 | val (τ:I)
 | new (cp:dA)
 | kQ (i:Nat) (cp:dA)
 | lH (j:Nat) (cp:dA)
def eL.mG:eL→Bool
 | .kQ _ _ | .lH _ _=>true
 | _=>false
def eL.p2 (p:Nat):eL→Option I
 | .val τ=>some τ
 | .new _=>some (.eq (.pointer (some ⟨p,0,none⟩)))
 | _=>none
def he (bj:Nat→Nat) (dS:List (Option Nat)) (hs:List eL) (E:List (Nat × I)):List Nat→List (Nat × I)
 | []=>E
 | j :: r=>match dS[j]?,hs[j]? with
   | some (some s),some h=>match h.p2 (bj j) with
     | some τ=>(s,τ) :: he bj dS hs E r
     | none=>he bj dS hs E r
   | _,_=>he bj dS hs E r
def v9:List aF→Nat→dA→List aF
 | [],_,_=> []
 | e :: r,0,cp=>⟨e.key,cp⟩ :: r
 | e :: r,i + 1,cp=>e :: v9 r i cp
theorem QA {L:List aF} {i:Nat} {e:aF} {cp:dA} (h:L[i]? =some e):v9 L i cp=L.set i ⟨e.key,cp⟩:=by
 induction L generalizing i with
 | nil=>simp at h
 | cons x r bz=>
   cases i with
   | zero=>simp only [List.getElem?_cons_zero,Option.some.injEq] at h; subst h; rfl
   | succ i=>simp only [List.getElem?_cons_succ] at h; simp [v9,bz h]
def dM (L:List aF):List eL→List aF
 | []=>L
 | .kQ i cp :: r=>dM (v9 L i cp) r
 | _ :: r=>dM L r
def hR (j:Nat) (cp:dA):List eL→dA
 | []=>cp
 | .lH i cp' :: r=>hR j (bif Nat.beq i j then cp' else cp) r
 | _ :: r=>hR j cp r
theorem IP (L:List aF) (r:List eL) (h:eL):dM L (r ++ [h])=dM (dM L r) [h]:=by
 induction r generalizing L with
 | nil=>rfl
 | cons x r bz=>cases x <;> simp only [List.cons_append,dM] <;> exact bz _
theorem D8 (j:Nat) (cp:dA) (r:List eL) (h:eL):hR j cp (r ++ [h])=hR j (hR j cp r) [h]:=by
 induction r generalizing cp with
 | nil=>rfl
 | cons x r bz=>cases x <;> simp only [List.cons_append,hR] <;> exact bz _
theorem Bj {L:List aF} :∀ {r:List eL},(∀ h∈r,h.mG=false)→dM L r=L
 | [],_=>rfl
 | h :: r,b3=>by
   have:=b3 h (by simp)
   have bz:=Bj (L:=L) (r:=r) (fun x ak=>b3 x (by simp [ak]))
   cases h <;> first | exact bz | cases this
theorem Bh {j:Nat} {cp:dA} :∀ {r:List eL},(∀ h∈r,h.mG=false)→hR j cp r=cp
 | [],_=>rfl
 | h :: r,b3=>by
   have:=b3 h (by simp)
   have bz:=Bh (j:=j) (cp:=cp) (r:=r) (fun x ak=>b3 x (by simp [ak]))
   cases h <;> first | exact bz | cases this
def n0 (w:Nat→Bool) (i:Nat):Nat→List eL→Bool
 | _,[]=>true
 | k,.kQ j _ :: r=>(!(Nat.beq j i) || w k) && n0 w i (k + 1) r
 | k,.val _ :: r=>n0 w i (k + 1) r
 | k,.new _ :: r=>n0 w i (k + 1) r
 | k,.lH _ _ :: r=>n0 w i (k + 1) r
theorem PO {L:List aF} {i j:Nat} {cp:dA} (h:i≠j):(v9 L i cp)[j]? =L[j]? :=by
 induction L generalizing i j with
 | nil=>rfl
 | cons e r bz=>
   cases i with
   | zero=>cases j with
     | zero=>exact absurd rfl h
     | succ j=>rfl
   | succ i=>cases j with
     | zero=>rfl
     | succ j=>simp only [v9,List.getElem?_cons_succ]; exact bz (by omega)
theorem xZ {L:List aF} {i:Nat} {w:Nat→Bool} :∀ {r:List eL} (b k:Nat),n0 w i k r=true→ (∀ q,q < b→ (∃ j cp,r[q]? =some (.kQ j cp))→w (k + q)=false)→ (dM L (r.take b))[i]? =L[i]?
 | [],b,_,_,_=>by simp [dM]
 | h :: r,0,_,_,_=>by simp [dM]
 | .kQ j cp :: r,b + 1,k,h,hw=>by
   simp only [n0,Bool.and_eq_true,Bool.or_eq_true,Bool.not_eq_true'] at h
   have Wm:w k=false:=by simpa using hw 0 (by omega) ⟨j,cp,by simp⟩
   have cQ:j≠i:=fun e=>by
    rw [e,Nat.beq_refl,Wm] at h
    rcases h.1 with h | h <;> cases h
   rw [List.take_succ_cons,dM,xZ b (k + 1) h.2 (fun q hq ak=>by have:=hw (q + 1) (by omega) (by simpa using ak); rw [← this]; congr 1; omega),PO cQ]
 | .val _ :: r,b + 1,k,h,hw=>by rw [List.take_succ_cons]; exact xZ (r:=r) b (k + 1) h (fun q hq ak=>by have:=hw (q + 1) (by omega) (by simpa using ak); rw [← this]; congr 1; omega)
 | .new _ :: r,b + 1,k,h,hw=>by rw [List.take_succ_cons]; exact xZ (r:=r) b (k + 1) h (fun q hq ak=>by have:=hw (q + 1) (by omega) (by simpa using ak); rw [← this]; congr 1; omega)
 | .lH _ _ :: r,b + 1,k,h,hw=>by rw [List.take_succ_cons]; exact xZ (r:=r) b (k + 1) h (fun q hq ak=>by have:=hw (q + 1) (by omega) (by simpa using ak); rw [← this]; congr 1; omega)
def HD (P:Program) (o:Oper) (cp:dA):Prop:=
 o.guard=none∧ ∃ jq,(∀ A W,cp.holds A W jq)∧ ∀ (a:Act) W,(execOp a.eval o).run P W= .ok (.value (.pointer (some ⟨W.heap.size,0,none⟩))) (W.alloc jq)
def Ae (c:cT) (E:List (Nat × I)) (L:List aF) (o:Oper) (p:Nat) (cp:dA):Prop:=
 o.guard=none∧o.dst=none∧ ∀ a W,bs c E L a W→ ∃ cs dx T,W.heap[p]? =some (.cells cs T (0,0))∧ (execOp a.eval o).run c.P W= .ok .skip (W.setRow p dx)∧cp.holds (aJ L ++ c.bM) W (.cells dx T (0,0))
def pL (c:cT) (ops:Array Oper) (bj:Nat→Nat) (dS:List (Option Nat)) (all:List eL) (E:List (Nat × I)) (L:List aF):Nat→List Oper→List eL→List (List Nat)→Prop
 | _,_,[],_=>True
 | i,o :: os,.val τ :: hs,d :: ds=>(∀ av:List aF,(∀ (j:Nat) (e:aF),L[j]? =some e→n0 (fun k=>Region.waitsFor .any ops k i) j 0 all=true→av[j]? =some e)→jX c ops (he bj dS all E d) av o τ)∧pL c ops bj dS all E L (i + 1) os hs ds
 | i,o :: os,.new cp :: hs,_ :: ds=>HD c.P o cp∧pL c ops bj dS all E L (i + 1) os hs ds
 | i,o :: os,.kQ k cp :: hs,d :: ds=>(∃ (p:Nat) (mc:dA),(dM L (all.take i))[k]? =some ⟨some p,mc⟩∧ ∀ av:List aF,(∀ (j:Nat) (e:aF),(dM L (all.take i))[j]? =some e→av[j]? =some e)→Ae c (he bj dS all E d) av o p cp)∧pL c ops bj dS all E L (i + 1) os hs ds
 | i,o :: os,.lH k cp :: hs,d :: ds=>(d.contains k=true∧ ∃ mc:dA,all[k]? =some (.new mc)∧ ∀ (av:List aF) (q:Nat),av[q]? =some ⟨some (bj k),hR k mc (all.take i)⟩→Ae c (he bj dS all E d) av o (bj k) cp)∧pL c ops bj dS all E L (i + 1) os hs ds
 | _,_,_,_=>False
def Cf (ops:Array Oper) (n:Nat) (dS:List (Option Nat)) (qK:List (List Nat)) (zy:List Bool) (wU:Nat):Bool:=
 decide (dS.length=n) && decide (n≤ops.size) && (dS.filterMap id).all (Nat.blt · wU) && decide (dS.filterMap id).Nodup &&
 ((List.range n).all fun i=>((ops[i]?).map fun o=>(some o.dst ==dS[i]?) && (o.after.all fun e=> !Region.binds .any e || decide (e.on < i))).getD false) &&
 ((List.range n).all fun i=>(qK.getD i []).all fun j=>decide (j < n) && Region.waitsFor .any ops i j) &&
 ((List.range n).all fun i=> !(zy.getD i false) || ((List.range i).all fun j=> !(zy.getD j false) || Region.waitsFor .any ops i j)) &&
 (decide (n=ops.size) || (Region.sinkB .any ops n && Region.chainB .any ops n)) &&
 Region.seqB .any ops (ops.size - n) n ((List.range n).foldl (fun l i=>l.setIfInBounds i true) (Array.replicate ops.size false))
def zd (E:List (Nat × I)) (dS:List Nat):Bool:=match E with
 | []=>true
 | e :: r=> !(dS.contains e.1) && zd r dS
theorem Et {dS:List Nat} :∀ {E:List (Nat × I)},zd E dS=true→ ∀ t τ,look E t=some τ→t ∉ dS
 | [],_,t,τ,h=>by simp [look] at h
 | (s,σ) :: r,hd,t,τ,h=>by
   simp only [zd,Bool.and_eq_true,Bool.not_eq_true'] at hd
   simp only [look] at h
   by_cases e:Nat.beq s t=true
   ·have:=dX.1 e
    subst this
    simpa using hd.1
   ·simp only [Bool.not_eq_true] at e
    rw [e] at h
    exact Et hd.2 t τ h
theorem BQ (f g:Nat→Bool) (i:Nat) (a0:f i=true) (bx:g i=false) (h:∀ j,g j=true→f j=true):∀ n,i < n→ ((List.range n).filter g).length < ((List.range n).filter f).length:=by
 have le:∀ n,((List.range n).filter g).length≤ ((List.range n).filter f).length:=by
  intro n
  induction n with
  | zero=>simp
  | succ n bz=>
    rw [List.range_succ,List.filter_append,List.filter_append,List.length_append,List.length_append]
    have:([n].filter g).length≤ ([n].filter f).length:=by
     cases uu:g n with
     | false=>simp [uu]
     | true=>simp [uu,h n uu]
    omega
 intro n
 induction n with
 | zero=>omega
 | succ n bz=>
   intro b5
   rw [List.range_succ,List.filter_append,List.filter_append,List.length_append,List.length_append]
   by_cases e:i=n
   ·subst e
    have:=le i
    simp [a0,bx]
    omega
   ·have J:=bz (by omega)
    have:([n].filter g).length≤ ([n].filter f).length:=by
     cases uu:g n with
     | false=>simp [uu]
     | true=>simp [uu,h n uu]
    omega
theorem Eu {bj:Nat→Nat} {dS:List (Option Nat)} {all:List eL} :∀ {k:Nat} {os:List Oper} {hs:List eL} {ds:List (List Nat)},pL c ops bj dS all E L k os hs ds→
 ∀ (i:Nat) h,hs[i]? =some h→ ∃ o,os[i]? =some o∧ (match h with
   | .val τ=> ∀ av:List aF,(∀ (j:Nat) (e:aF),L[j]? =some e→n0 (fun q=>Region.waitsFor .any ops q (k + i)) j 0 all=true→av[j]? =some e)→jX c ops (he bj dS all E (ds.getD i [])) av o τ
   | .new cp=>HD c.P o cp
   | .kQ q cp=> ∃ (p:Nat) (mc:dA),(dM L (all.take (k + i)))[q]? =some ⟨some p,mc⟩∧ ∀ av:List aF,(∀ (j:Nat) (e:aF),(dM L (all.take (k + i)))[j]? =some e→av[j]? =some e)→Ae c (he bj dS all E (ds.getD i [])) av o p cp
   | .lH q cp=>(ds.getD i []).contains q=true∧ ∃ mc:dA,all[q]? =some (.new mc)∧ ∀ (av:List aF) (r:Nat),av[r]? =some ⟨some (bj q),hR q mc (all.take (k + i))⟩→Ae c (he bj dS all E (ds.getD i [])) av o (bj q) cp)
 | k,os,[],ds,_,i,h,aq=>by simp at aq
 | k,[],h :: hs,ds,b3,_,_,_=>by cases h <;> simp [pL] at b3
 | k,o :: os,h :: hs,[],b3,_,_,_=>by cases h <;> simp [pL] at b3
 | k,o :: os,bB :: hs,d :: ds,b3,i,h,aq=>by
   have hd:pL c ops bj dS all E L (k + 1) os hs ds:=by cases bB <;> exact b3.2
   cases i with
   | zero=>
     simp only [List.getElem?_cons_zero,Option.some.injEq] at aq
     subst aq
     refine⟨o,by simp,?_⟩
     cases bB <;> exact b3.1
   | succ i=>
     simp only [List.getElem?_cons_succ] at aq
     obtain⟨o',J,ad⟩:=Eu hd i h aq
     refine⟨o',by simpa using J,?_⟩
     rw [show k + (i + 1)=k + 1 + i by omega]
     cases h <;> exact ad
theorem J4 {bj:Nat→Nat} {dS:List (Option Nat)} {hs:List eL} {t:Nat} {τ:I} :∀ {ds:List Nat},look (he bj dS hs E ds) t=some τ→ (∃ j∈ds,dS[j]? =some (some t)∧ ∃ h,hs[j]? =some h∧h.p2 (bj j)=some τ)∨look E t=some τ
 | [],h=> .inr h
 | j :: r,h=>by
   have rest:look (he bj dS hs E r) t=some τ→ (∃ k∈j :: r,dS[k]? =some (some t)∧ ∃ h,hs[k]? =some h∧h.p2 (bj k)=some τ)∨look E t=some τ:=fun h=>by
    rcases J4 h with⟨k,au,J⟩ | J
    ·exact .inl ⟨k,List.mem_cons_of_mem _ au,J⟩
    ·exact .inr J
   simp only [he] at h
   split at h
   ·rename_i s au zz nv
    split at h
    ·rename_i σ kS
     simp only [look] at h
     by_cases e:Nat.beq s t=true
     ·rw [e] at h
      simp only [cond_true,Option.some.injEq] at h
      subst h
      exact .inl ⟨j,by simp,by rw [zz,dX.1 e],au,nv,kS⟩
     ·simp only [Bool.not_eq_true] at e
      rw [e] at h
      exact rest h
    ·exact rest h
   ·exact rest h
def sf (bj:Nat→Nat) (E:List (Nat × I)):Nat→List (Option Nat)→List eL→List (Nat × I)
 | i,some s :: fU,.val τ :: hs=>(s,τ) :: sf bj E (i + 1) fU hs
 | i,some s :: fU,.new _ :: hs=>(s,.eq (.pointer (some ⟨bj i,0,none⟩))) :: sf bj E (i + 1) fU hs
 | i,_ :: fU,_ :: hs=>sf bj E (i + 1) fU hs
 | _,_,_=>E
def k5 (bj:Nat→Nat) (all:List eL) (L:List aF):Nat→List eL→List aF
 | i,.new cp :: hs=>⟨some (bj i),hR i cp all⟩ :: k5 bj all L (i + 1) hs
 | i,_ :: hs=>k5 bj all L (i + 1) hs
 | _,[]=>L
theorem I5 {bj:Nat→Nat} {t:Nat} {τ:I} :∀ {dS:List (Option Nat)} {hs:List eL} (k:Nat),look (sf bj E k dS hs) t=some τ→
 (∃ j:Nat,dS[j]? =some (some t)∧ ∃ h,hs[j]? =some h∧h.p2 (bj (k + j))=some τ)∨look E t=some τ
 | [],hs,k,h=> .inr (by cases hs <;> exact h)
 | s :: fU,[],k,h=> .inr (by cases s <;> exact h)
 | s :: fU,x :: hs,k,h=>by
   have rest:look (sf bj E (k + 1) fU hs) t=some τ→ (∃ j:Nat,(s :: fU)[j]? =some (some t)∧ ∃ h,(x :: hs)[j]? =some h∧h.p2 (bj (k + j))=some τ)∨look E t=some τ:=fun h=>by
    rcases I5 (k + 1) h with⟨j,J,ad⟩ | J
    ·refine .inl ⟨j + 1,by simpa using J,?_⟩
     rw [show k + (j + 1)=k + 1 + j by omega]
     simpa using ad
    ·exact .inr J
   have one:∀ (bW:Nat) (σ:I),s=some bW→x.p2 (bj k)=some σ→look ((bW,σ) :: sf bj E (k + 1) fU hs) t=some τ→ (∃ j:Nat,(s :: fU)[j]? =some (some t)∧ ∃ h,(x :: hs)[j]? =some h∧h.p2 (bj (k + j))=some τ)∨look E t=some τ:=fun bW σ ev kS h=>by
    simp only [look] at h
    by_cases e:Nat.beq bW t=true
    ·rw [e] at h
     simp only [cond_true,Option.some.injEq] at h
     subst h
     exact .inl ⟨0,by simp [ev,dX.1 e],x,by simp,by simpa using kS⟩
    ·simp only [Bool.not_eq_true] at e
     rw [e] at h
     exact rest h
   cases s with
   | none=>cases x <;> exact rest h
   | some bW=>
     cases x with
     | val σ=>exact one bW σ rfl rfl h
     | new cp=>exact one bW _ rfl rfl h
     | kQ i cp=>exact rest h
     | lH i cp=>exact rest h
theorem Eh {n:Nat} {aX:Array Bool} (inv:HeadInv .any ops n aX) (aL:n≤ops.size) (jN:∀ i,i < n→aX.getD i true=true):
 aX=(List.range n).foldl (fun l i=>l.setIfInBounds i true) (Array.replicate ops.size false):=by
 have key:∀ m,m≤ops.size→ ((List.range m).foldl (fun l i=>l.setIfInBounds i true) (Array.replicate ops.size false)).size=ops.size∧
  ∀ j (d:Bool),j < ops.size→ ((List.range m).foldl (fun l i=>l.setIfInBounds i true) (Array.replicate ops.size false)).getD j d=decide (j < m):=by
  intro m
  induction m with
  | zero=>intro _; exact⟨by simp,fun j d aC=>by simp [aC]⟩
  | succ m bz=>
    intro hm
    obtain⟨J,ad⟩:=bz (by omega)
    rw [List.range_succ,List.foldl_append]
    simp only [List.foldl_cons,List.foldl_nil]
    refine⟨by simpa using J,fun j d aC=> ?_⟩
    by_cases e:m=j
    ·subst e
     simp [J,aC]
    ·rw [getD_set_ne d e,ad j d aC]
     by_cases ax:j < m
     ·simp [ax]; omega
     ·simp [ax]; omega
 obtain⟨J,ad⟩:=key n aL
 apply Array.ext
 ·rw [inv.size,J]
 ·intro i MW Wn
  have aq:i < ops.size:=by rw [← inv.size]; exact MW
  have ax:=ad i true aq
  have aE:aX.getD i true=aX[i]:=by simp [MW]
  have bd:((List.range n).foldl (fun l i=>l.setIfInBounds i true) (Array.replicate ops.size false)).getD i true=((List.range n).foldl (fun l i=>l.setIfInBounds i true) (Array.replicate ops.size false))[i]:=by
   simp [Wn]
  rw [← bd,ax,← aE]
  by_cases aR:i < n
  ·rw [jN i aR]; simp [aR]
  ·rw [inv.tail i (by omega) aq]; simp [aR]
theorem vv (bj:Nat→Nat) (all:List eL) (L:List aF):∀ (hs:List eL) (i:Nat),k5 bj all L i hs=k5 bj all [] i hs ++ L
 | [],_=>rfl
 | .new cp :: hs,i=>by simp only [k5]; rw [vv bj all L hs (i + 1)]; rfl
 | .val _ :: hs,i=>vv bj all L hs (i + 1)
 | .kQ _ _ :: hs,i=>vv bj all L hs (i + 1)
 | .lH _ _ :: hs,i=>vv bj all L hs (i + 1)
theorem Ev {bj:Nat→Nat} {all:List eL} {e:aF} :∀ {hs:List eL} {i:Nat},e∈k5 bj all [] i hs→ ∃ (j:Nat) (cp:dA),hs[j]? =some (.new cp)∧e=⟨some (bj (i + j)),hR (i + j) cp all⟩
 | [],_,h=>by simp [k5] at h
 | x :: hs,i,h=>by
   have rest:e∈k5 bj all [] (i + 1) hs→ ∃ (j:Nat) (cp:dA),(x :: hs)[j]? =some (.new cp)∧e=⟨some (bj (i + j)),hR (i + j) cp all⟩:=fun h=>by
    obtain⟨j,cp,J,ad⟩:=Ev (hs:=hs) (i:=i + 1) h
    refine⟨j + 1,cp,by simpa using J,?_⟩
    rw [show i + (j + 1)=i + 1 + j by omega]; exact ad
   cases x with
   | new cp=>
     rcases List.mem_cons.1 h with h | h
     ·exact⟨0,cp,by simp,by simpa using h⟩
     ·exact rest h
   | val _=>exact rest h
   | kQ _ _=>exact rest h
   | lH _ _=>exact rest h
theorem It {bj:Nat→Nat} {all:List eL} :∀ (hs:List eL) (i:Nat),(∀ (j k:Nat) (u v:dA),hs[j]? =some (.new u)→hs[k]? =some (.new v)→bj (i + j)=bj (i + k)→j=k)→ (aJ (k5 bj all [] i hs)).Nodup
 | [],_,_=>by simp [k5,aJ]
 | x :: hs,i,h=>by
   have aQ:(aJ (k5 bj all [] (i + 1) hs)).Nodup:=It hs (i + 1) fun j k u v J ad ax=>by
    have:=h (j + 1) (k + 1) u v (by simpa using J) (by simpa using ad) (by rw [show i + (j + 1)=i + 1 + j by omega,show i + (k + 1)=i + 1 + k by omega]; exact ax)
    omega
   cases x with
   | val _=>exact aQ
   | kQ _ _=>exact aQ
   | lH _ _=>exact aQ
   | new cp=>
     simp only [k5,aJ]
     refine List.nodup_cons.2 ⟨fun hm=> ?_,aQ⟩
     obtain⟨e,he,au⟩:=km.1 hm
     obtain⟨j,u,J,ad⟩:=Ev he
     rw [ad] at au
     simp only [Option.some.injEq] at au
     have:=h 0 (j + 1) cp u (by simp) (by simpa using J) (by rw [show i + (j + 1)=i + 1 + j by omega]; simpa using au.symm)
     omega
def eN (bj:Nat→Nat) (all:List eL) (b:Nat) (da:List Nat):List aF:=da.map fun j=>⟨some (bj j),match all[j]? with | some (.new cp)=>hR j cp (all.take b) | _=> .dead⟩
theorem yi (bj:Nat→Nat) (all:List eL) (b:Nat):∀ (da:List Nat),aJ (eN bj all b da)=da.map bj
 | []=>rfl
 | j :: da=>by
   have:=yi bj all b da
   simp only [eN,List.map_cons,aJ] at this ⊢
   rw [this]
structure wH (c:cT) (n:Nat) (dS:List (Option Nat)) (hs:List eL) (E:List (Nat × I)) (L:List aF) (aX:Array Bool) (bj:Nat→Nat) (da:List Nat) (b:Nat) (a:Act) (W:World):Prop where
 st:bs c E (dM L (hs.take b) ++ eN bj hs b da) a W
 done:∀ (j:Nat) s h τ,j < n→aX.getD j false=true→dS[j]? =some (some s)→hs[j]? =some h→h.p2 (bj j)=some τ→ ∃ v,a.tmps[s]? =some v∧τ.holds (aJ (dM L (hs.take b) ++ eN bj hs b da) ++ c.bM) W v
 news:∀ (j:Nat),j∈da↔ (j < n∧aX.getD j false=true∧ ∃ cp,hs[j]? =some (.new cp))
 stored:∀ (j:Nat) h,hs[j]? =some h→h.mG=true→ (aX.getD j false=true↔j < b)
 ble:b≤n
theorem Q5 {hs:List eL} {b i:Nat} {h:eL} (hb:b≤i) (aq:hs[i]? =some h) (aL:∀ (j:Nat) x,b≤j→j < i→hs[j]? =some x→x.mG=false):
 ∃ r,hs.take i=hs.take b ++ r∧ ∀ x∈r,x.mG=false:=by
 refine⟨(hs.drop b).take (i - b),?_,fun x ak=> ?_⟩
 ·rw [← List.take_add]; congr 1; omega
 ·obtain⟨j,aC⟩:=List.mem_iff_getElem?.1 ak
  rw [List.getElem?_take] at aC
  split at aC
  ·rw [List.getElem?_drop] at aC
   exact aL (b + j) x (by omega) (by omega) aC
  ·cases aC
theorem E1 (L:List aF) (r s:List eL):dM L (r ++ s)=dM (dM L r) s:=by
 induction r generalizing L with
 | nil=>rfl
 | cons x r bz=>cases x <;> simp only [List.cons_append,dM] <;> exact bz _
theorem EC (j:Nat) (cp:dA) (r s:List eL):hR j cp (r ++ s)=hR j (hR j cp r) s:=by
 induction r generalizing cp with
 | nil=>rfl
 | cons x r bz=>cases x <;> simp only [List.cons_append,hR] <;> exact bz _
theorem tm {L R:List aF} (h:L.Perm R):(aJ L).Perm (aJ R):=by
 induction h with
 | nil=>exact .nil
 | cons x _ bz=>cases au:x.key <;> simp only [aJ,au] <;> first | exact bz | exact bz.cons _
 | swap x y l=>
   cases ak:x.key <;> cases a7:y.key <;> simp only [aJ,ak,a7]
   all_goals first | exact .refl _ | exact .swap _ _ _
 | trans _ _ J ad=>exact J.trans ad
theorem bs.perm {E L av a W} (h:bs c E L a W) (p:L.Perm av):bs c E av a W:=
 h.sub (fun e he=>p.mem_iff.2 he) ((tm p).nodup_iff.1 h.nodup)
theorem xU {j:Nat} {cp:dA} :∀ {r:List eL},(∀ q x,eL.lH q x∈r→q≠j)→hR j cp r=cp
 | [],_=>rfl
 | .lH q x :: r,h=>by
   have J:=h q x (by simp)
   have e:Nat.beq q j=false:=by
    cases hb:Nat.beq q j with
    | false=>rfl
    | true=>exact absurd (dX.1 hb) J
   simp only [hR,e,cond_false]
   exact xU fun q x hm=>h q x (by simp [hm])
 | .val _ :: r,h=>xU (r:=r) fun q x hm=>h q x (by simp [hm])
 | .new _ :: r,h=>xU (r:=r) fun q x hm=>h q x (by simp [hm])
 | .kQ _ _ :: r,h=>xU (r:=r) fun q x hm=>h q x (by simp [hm])
theorem ID (f:Nat→Nat):∀ (l:List Nat),(l.map f).Nodup→l.Nodup
 | [],_=>by simp
 | x :: r,h=>by
   simp only [List.map_cons] at h
   obtain⟨J,ad⟩:=List.nodup_cons.1 h
   exact List.nodup_cons.2 ⟨fun hm=>J (List.mem_map.2 ⟨x,hm,rfl⟩),ID f r ad⟩
theorem RC {bj me:Nat→Nat} {all:List eL} {b:Nat} {da:List Nat} (h:∀ j∈da,me j=bj j):eN me all b da=eN bj all b da:=by
 unfold eN
 exact List.map_congr_left fun j aC=>by rw [h j aC]
theorem QB {n:Nat} {dS:List (Option Nat)} {hs:List eL} {qK:List (List Nat)} (gI:Cf ops n dS qK (hs.map eL.mG) c.n=true) (aw:zd E (dS.filterMap id)=true) (hlen:hs.length=n)
 (b3:∀ bj,pL c ops bj dS hs E L 0 ops.toList hs qK) (bI:∀ bj,ag c ops Q (ops.toList.drop n) (sf bj E 0 dS hs) (k5 bj hs (dM L hs) 0 hs)):
 ∀ m (aX:Array Bool) (bj:Nat→Nat) (da:List Nat) (b:Nat) (a:Act) (W:World),((List.range n).filter fun i=> !aX.getD i true).length≤m→HeadInv .any ops n aX→wH c n dS hs E L aX bj da b a W→
   wpAnyIn c.F 9 c.P .any ops Q (m + (ops.size - n)) aX a W:=by
 simp only [Cf,Bool.and_eq_true,decide_eq_true_eq,Bool.or_eq_true] at gI
 obtain⟨⟨⟨⟨⟨⟨⟨⟨lj,aL⟩,b5⟩,fB⟩,VB⟩,LL⟩,VC⟩,tK⟩,oU⟩:=gI
 have qZ:∀ i,i < n→ ∃ o,ops[i]? =some o∧dS[i]? =some o.dst∧ ∀ e∈o.after,Region.binds .any e=true→e.on < i:=by
  intro i aq
  have J:=List.all_eq_true.1 VB i (List.mem_range.2 aq)
  cases a6:ops[i]? with
  | none=>simp [a6] at J
  | some o=>
    simp only [a6,Option.map_some,Option.getD_some,Bool.and_eq_true,beq_iff_eq] at J
    refine⟨o,rfl,J.1.symm,fun e he hb=> ?_⟩
    have:=Array.all_eq_true_iff_forall_mem.1 J.2 e he
    simp [hb] at this
    exact this
 have Cs:∀ (i s:Nat),dS[i]? =some (some s)→s < c.n:=fun i s h=>by
  have:s∈dS.filterMap id:=List.mem_filterMap.2 ⟨some s,List.mem_of_getElem? h,rfl⟩
  have:=List.all_eq_true.1 b5 s this
  simpa using this
 have Mu:∀ (i j s:Nat),dS[i]? =some (some s)→dS[j]? =some (some s)→i=j:=by
  have key:∀ (l:List (Option Nat)),(l.filterMap id).Nodup→ ∀ (i j s:Nat),l[i]? =some (some s)→l[j]? =some (some s)→i=j:=by
   intro l
   induction l with
   | nil=>intro _ i j s h; simp at h
   | cons x r bz=>
     intro fB i j s aq aC
     have aQ:(r.filterMap id).Nodup:=by
      cases x with
      | none=>simpa using fB
      | some y=>simp only [List.filterMap_cons_some (f:=id) (a:=some y) (b:=y) rfl] at fB; exact(List.nodup_cons.1 fB).2
     have oT:x=some s→s ∉ r.filterMap id:=fun e=>by
      subst e
      simp only [List.filterMap_cons_some (f:=id) (a:=some s) (b:=s) rfl] at fB
      exact(List.nodup_cons.1 fB).1
     cases i with
     | zero=>
       simp only [List.getElem?_cons_zero,Option.some.injEq] at aq
       cases j with
       | zero=>rfl
       | succ j=>
         simp only [List.getElem?_cons_succ] at aC
         exact absurd (List.mem_filterMap.2 ⟨some s,List.mem_of_getElem? aC,rfl⟩:s∈r.filterMap id) (oT aq)
     | succ i=>
       simp only [List.getElem?_cons_succ] at aq
       cases j with
       | zero=>
         simp only [List.getElem?_cons_zero,Option.some.injEq] at aC
         exact absurd (List.mem_filterMap.2 ⟨some s,List.mem_of_getElem? aq,rfl⟩:s∈r.filterMap id) (oT aC)
       | succ j=>
         simp only [List.getElem?_cons_succ] at aC
         rw [bz aQ i j s aq aC]
  exact key dS fB
 intro m
 induction m with
 | zero=>
   intro aX bj da b a W hm inv mid
   have jN:∀ i,i < n→aX.getD i true=true:=by
    intro i aq
    cases h:aX.getD i true with
    | true=>rfl
    | false=>
      have:i∈ (List.range n).filter fun i=> !aX.getD i true:=List.mem_filter.2 ⟨List.mem_range.2 aq,by rw [h]; rfl⟩
      rw [List.length_eq_zero_iff.1 (Nat.le_zero.1 hm)] at this
      cases this
   have ar:=Eh inv aL jN
   rw [← ar] at oU
   have tL:(ops.toList.drop n).length=ops.size - n:=by simp
   rw [Nat.zero_add,← tL]
   rw [← tL] at oU
   refine xK (ops.toList.drop n) n aX a W (fun j=>by simp) oU (bI bj a W ?_)
   have mx:∀ j,j < n→aX.getD j false=true:=fun j q0=>by
    have ax:=jN j q0
    have aR:j < aX.size:=by rw [inv.size]; omega
    simpa [aR] using ax
   have q0:∀ (j:Nat) (h:eL),hs[j]? =some h→j < n:=fun j h aC=>by have:=(List.getElem?_eq_some_iff.1 aC).1; omega
   have KG:∀ x∈hs.drop b,x.mG=false:=fun x ak=>by
    obtain⟨j,aC⟩:=List.mem_iff_getElem?.1 ak
    rw [List.getElem?_drop] at aC
    cases gR:x.mG with
    | false=>rfl
    | true=>
      have:=(mid.stored (b + j) x aC gR).1 (mx _ (q0 _ _ aC))
      omega
   have Mv:dM L hs=dM L (hs.take b):=by
    conv=>lhs; rw [← List.take_append_drop b hs]
    rw [E1,Bj KG]
   have GD:∀ (j:Nat) cp,hR j cp hs=hR j cp (hs.take b):=fun j cp=>by
    conv=>lhs; rw [← List.take_append_drop b hs]
    rw [EC,Bh KG]
   have FN:(da.map bj).Nodup:=by
    have:=mid.st.nodup
    rw [eF,yi] at this
    exact(List.nodup_append.1 this).2.1
   have VD:∀ (j k:Nat),j∈da→k∈da→bj j=bj k→j=k:=by
    have key:∀ (l:List Nat),(l.map bj).Nodup→ ∀ j k:Nat,j∈l→k∈l→bj j=bj k→j=k:=by
     intro l
     induction l with
     | nil=>intro _ j k h; cases h
     | cons x r Wo=>
       intro aL j k aC au e
       simp only [List.map_cons] at aL
       obtain⟨J,ad⟩:=List.nodup_cons.1 aL
       rcases List.mem_cons.1 aC with ax | aC
       ·rcases List.mem_cons.1 au with aR | au
        ·rw [ax,aR]
        ·exact absurd (List.mem_map.2 ⟨k,au,by rw [← e,ax]⟩) J
       ·rcases List.mem_cons.1 au with aR | au
        ·exact absurd (List.mem_map.2 ⟨j,aC,by rw [e,aR]⟩) J
        ·exact Wo ad j k aC au e
    exact key da FN
   have GF:∀ (j:Nat) cp,hs[j]? =some (.new cp)→j∈da:=fun j cp aC=>(mid.news j).2 ⟨q0 j _ aC,mx j (q0 j _ aC),cp,aC⟩
   have FO:∀ e∈k5 bj hs [] 0 hs,e∈eN bj hs b da:=fun e he=>by
    obtain⟨j,cp,J,ad⟩:=Ev he
    rw [Nat.zero_add] at ad
    refine List.mem_map.2 ⟨j,GF j cp J,?_⟩
    simp only [J]
    rw [ad,GD]
   have MX:bs c E (k5 bj hs (dM L hs) 0 hs) a W:=by
    rw [vv,Mv]
    refine mid.st.sub (fun e he=> ?_) ?_
    ·rcases List.mem_append.1 he with he | he
     ·exact List.mem_append.2 (.inr (FO e he))
     ·exact List.mem_append.2 (.inl he)
    ·rw [eF]
     have eX:=mid.st.nodup
     rw [eF,yi] at eX
     obtain⟨J,ad,ax⟩:=List.nodup_append.1 eX
     refine List.nodup_append.2 ⟨It hs 0 fun j k u v aE bd ej=> ?_,J,fun x ak y a7 e=> ?_⟩
     ·simp only [Nat.zero_add] at ej
      exact VD j k (GF j u aE) (GF k v bd) ej
     ·subst e
      obtain⟨e,he,sr⟩:=km.1 ak
      have:x∈aJ (eN bj hs b da):=km.2 ⟨e,FO e he,sr⟩
      rw [yi] at this
      exact ax x a7 x this rfl
   have j5:∀ k∈aJ (k5 bj hs (dM L hs) 0 hs) ++ c.bM,k∈aJ (dM L (hs.take b) ++ eN bj hs b da) ++ c.bM:=fun k au=>by
    rw [vv,eF,Mv] at au
    rw [eF]
    simp only [List.mem_append] at au ⊢
    rcases au with(au | au) | au
    ·obtain⟨e,he,sr⟩:=km.1 au
     exact .inl (.inr (km.2 ⟨e,FO e he,sr⟩))
    ·exact .inl (.inl au)
    ·exact .inr au
   refine { MX with env:=fun t τ ew=> ?_ }
   rcases I5 0 ew with⟨j,J,h,ad,ax⟩ | J
   ·rw [Nat.zero_add] at ax
    obtain⟨v,aR,aW⟩:=mid.done j t h τ (q0 j h ad) (mx j (q0 j h ad)) J ad ax
    exact⟨v,aR,τ.mono (.drop j5) aW⟩
   ·exact MX.env t τ J
 | succ m bz=>
   intro aX bj da b a W hm inv mid
   by_cases jN:∀ i,i < n→aX.getD i true=true
   ·have bB:((List.range n).filter fun i=> !aX.getD i true).length≤m:=by
     have:((List.range n).filter fun i=> !aX.getD i true)= []:=List.filter_eq_nil_iff.2 fun i aq=>by simp [jN i (List.mem_range.1 aq)]
     rw [this]; simp
    have J:=bz aX bj da b a W bB inv mid
    have more:∀ f (aX:Array Bool) a W,wpAnyIn c.F 9 c.P .any ops Q f aX a W→wpAnyIn c.F 9 c.P .any ops Q (f + 1) aX a W:=by
     intro f
     induction f with
     | zero=>intro aX a W h; exact⟨fun _=>h.2,fun i aq=>by rw [h.1] at aq; cases aq⟩
     | succ f zA=>intro aX a W h; exact⟨h.1,fun i aq=>wpOpIn_mono (fun fK ph cV=>zA _ fK ph cV) (h.2 i aq)⟩
    rw [show m + 1 + (ops.size - n)=(m + (ops.size - n)) + 1 by omega]
    exact more _ _ _ _ J
   ·rw [show m + 1 + (ops.size - n)=(m + (ops.size - n)) + 1 by omega]
    have hex:∃ i,i < n∧aX.getD i true=false:=by
     have J: ¬ ∀ i,i < n→aX.getD i true=true:=jN
     false_or_by_contra
     rename_i ad
     exact J fun i aq=>by
      cases h:aX.getD i true with
      | true=>rfl
      | false=>exact absurd ⟨i,aq,h⟩ ad
    have yx:∀ t∈Region.ready .any ops aX,t < n:=by
     intro t o2
     rcases Nat.lt_or_ge t n with h | h
     ·exact h
     ·obtain⟨i,aq,hJ⟩:=hex
      rcases tK with J | J
      ·obtain⟨_,o,a6,_⟩:=mem_ready.1 o2
       have:=(Array.getElem?_eq_some_iff.1 a6).1
       omega
      ·have Mw:n < ops.size:=by
        obtain⟨_,o,a6,_⟩:=mem_ready.1 o2
        have:=(Array.getElem?_eq_some_iff.1 a6).1
        omega
       exact absurd o2 (tail_waits J.1 J.2 Mw inv _ i rfl aq hJ t h)
    refine⟨fun bB=> ?_,fun i aq=> ?_⟩
    ·exfalso
     have Sv:∀ k,∀ i,i≤k→i < n→aX.getD i true=false→ ∃ i,i < n∧aX.getD i true=false∧ ∀ j,j < i→aX.getD j true=true:=by
      intro k
      induction k with
      | zero=>intro i kx aq hu; exact⟨i,aq,hu,fun j aC=>by omega⟩
      | succ k zB=>
        intro i kx aq hu
        by_cases hq:∀ j,j < i→aX.getD j true=true
        ·exact⟨i,aq,hu,hq⟩
        ·have:∃ j,j < i∧aX.getD j true=false:=by
          false_or_by_contra
          rename_i ad
          exact hq fun j aC=>by
           cases h:aX.getD j true with
           | true=>rfl
           | false=>exact absurd ⟨j,aC,h⟩ ad
         obtain⟨j,aC,Wp⟩:=this
         exact zB j (by omega) (by omega) Wp
     obtain⟨i0,uv,Wq⟩:=hex
     obtain⟨i,aq,hu,Gg⟩:=Sv i0 i0 (Nat.le_refl _) uv Wq
     obtain⟨o,a6,_,yy⟩:=qZ i aq
     have:i∈Region.ready .any ops aX:=mem_ready.2 ⟨hu,o,a6,fun e he hb=>by
      have J:=Gg e.on (yy e he hb)
      have ad:e.on < aX.size:=by rw [inv.size]; have:=yy e he hb; omega
      simpa [ad] using J⟩
     rw [bB] at this
     cases this
    ·have ec:=yx i aq
     obtain⟨o,a6,lE,yy⟩:=qZ i ec
     obtain⟨hJ,o',qY,mx⟩:=mem_ready.1 aq
     have Wr:o'=o:=Option.some.inj (qY.symm.trans a6)
     subst Wr
     obtain⟨h,c6⟩:∃ h,hs[i]? =some h:=⟨hs[i]'(by omega),by simp⟩
     obtain⟨bT,eW,iS⟩:=Eu (b3 bj) i h c6
     have VE:bT=o':=by
      rw [Array.getElem?_toList] at eW
      exact Option.some.inj (eW.symm.trans a6)
     subst VE
     have oV:((List.range n).filter fun j=> !(aX.setIfInBounds i true).getD j true).length≤m:=by
      have:((List.range n).filter fun j=> !(aX.setIfInBounds i true).getD j true).length < ((List.range n).filter fun j=> !aX.getD j true).length:=by
       refine BQ (fun j=> !aX.getD j true) (fun j=> !(aX.setIfInBounds i true).getD j true) i (by simp only [hJ]; rfl) ?_ (fun j aC=> ?_) n ec
       ·have:i < aX.size:=by rw [inv.size]; omega
        simp [this]
       ·by_cases e:i=j
        ·subst e; simp only [hJ]; rfl
        ·rw [getD_set_ne true e] at aC; exact aC
      omega
     have qL:=inv.set aq ec
     have oW:i < aX.size:=by rw [inv.size]; omega
     have wa:(aX.setIfInBounds i true).getD i false=true:=by simp [oW]
     have jf:aX.getD i false=false:=getD_both hJ
     have VF:i ∉ da:=fun hm=>by have:=((mid.news i).1 hm).2.1; rw [jf] at this; cases this
     have Ct:∀ j∈qK.getD i [],j < n∧aX.getD j false=true:=fun j aC=>by
      have ax:=List.all_eq_true.1 (List.all_eq_true.1 LL i (List.mem_range.2 ec)) j aC
      simp only [Bool.and_eq_true,decide_eq_true_eq] at ax
      obtain⟨jY,g8,e,he,hb,ky⟩:=Region.waitsFor_spec ax.2
      have:jY=bT:=Option.some.inj (g8.symm.trans a6)
      subst this
      have aR:=mx e he hb
      rw [ky] at aR
      exact⟨ax.1,aR⟩
     have eY:bs c (he bj dS hs E (qK.getD i [])) (dM L (hs.take b) ++ eN bj hs b da) a W:=by
      refine { mid.st with env:=fun t σ ew=> ?_ }
      rcases J4 ew with⟨j,aC,J,x,ad,ax⟩ | J
      ·exact mid.done j t x σ (Ct j aC).1 (Ct j aC).2 J ad ax
      ·exact mid.st.env t σ J
     have J5:h.mG=true→b≤i∧ ∃ r,hs.take i=hs.take b ++ r∧ ∀ x∈r,x.mG=false:=fun Mx=>by
      have CM:b≤i:=by
       rcases Nat.lt_or_ge i b with J | J
       ·have:=(mid.stored i h c6 Mx).2 J
        rw [jf] at this; cases this
       ·exact J
      refine⟨CM,Q5 CM c6 fun j x Ya zC ak=> ?_⟩
      cases gR:x.mG with
      | false=>rfl
      | true=>
        have ax:=List.all_eq_true.1 VC i (List.mem_range.2 ec)
        have aE:(hs.map eL.mG).getD i false=true:=by simp [c6,Mx]
        simp only [aE,Bool.not_true,Bool.false_or] at ax
        have aR:=List.all_eq_true.1 ax j (List.mem_range.2 zC)
        have bd:(hs.map eL.mG).getD j false=true:=by simp [ak,gR]
        simp only [bd,Bool.not_true,Bool.false_or] at aR
        obtain⟨jY,g8,e,he,hb,ky⟩:=Region.waitsFor_spec aR
        have:jY=bT:=Option.some.inj (g8.symm.trans a6)
        subst this
        have aW:=mx e he hb
        rw [ky] at aW
        have:=(mid.stored j x ak gR).1 aW
        omega
     unfold wpOpIn
     simp only [a6]
     cases h with
     | val τ=>
       simp only at iS
       have Ws:=iS (dM L (hs.take b) ++ eN bj hs b da) (fun j e aC hu=>by
        have J:(dM L (hs.take b))[j]? =some e:=by
         rw [xZ b 0 hu (fun q hq ⟨p3,cp',ak⟩=>by
          have Wt:=(mid.stored q _ ak rfl).2 hq
          cases hw:Region.waitsFor .any ops (0 + q) (0 + i) with
          | false=>rfl
          | true=>
            obtain⟨GG,Cu,e',CN,CO,My⟩:=Region.waitsFor_spec hw
            rw [Nat.zero_add] at Cu My
            have:=inv.closed q GG Cu Wt e' CN CO
            rw [My,jf] at this
            cases this)]
         exact aC
        rw [List.getElem?_append_left (List.getElem?_eq_some_iff.1 J).1]; exact J)
       obtain⟨J,ad⟩:=Ws a W eY
       have LM:∀ v W',Fr [] W W'→τ.holds (aJ (dM L (hs.take b) ++ eN bj hs b da) ++ c.bM) W' v→wH c n dS hs E L (aX.setIfInBounds i true) bj da b (a.put bT.dst v) W':=by
        intro v W' f a3
        have jT:=mid.st.world f
        refine⟨?_,fun j bW x σ aC ar ev ak kS=> ?_,fun j=> ?_,fun j x ak gR=> ?_,mid.ble⟩
        ·cases hd:bT.dst with
         | none=>exact jT
         | some s=>
           rw [hd] at lE
           refine { (jT.put (d:=s) (Cs i s lE) a3) with env:=fun t σ ew=> ?_ }
           have cQ:s≠t:=fun e=>Et aw t σ ew (by rw [← e]; exact List.mem_filterMap.2 ⟨some s,List.mem_of_getElem? lE,rfl⟩)
           obtain⟨u,aW,bc⟩:=jT.env t σ ew
           exact⟨u,by simp only [Act.put]; rw [Array.getElem?_setIfInBounds_ne cQ]; exact aW,bc⟩
        ·by_cases e:i=j
         ·subst e
          rw [lE] at ev
          rw [c6] at ak
          cases ak
          simp only [eL.p2,Option.some.injEq] at kS
          subst kS
          simp only [Option.some.injEq] at ev
          rw [ev]
          exact⟨v,by rw [ev] at lE; simp [Act.put,jT.size,Cs i bW lE],a3⟩
         ·rw [getD_set_ne false e] at ar
          obtain⟨u,aW,bc⟩:=mid.done j bW x σ aC ar ev ak kS
          refine⟨u,?_,σ.mono (.dm f) bc⟩
          cases hd:bT.dst with
          | none=>exact aW
          | some s=>
            rw [hd] at lE
            have cQ:s≠bW:=fun bd=>e (Mu i j s lE (by rw [bd]; exact ev))
            simp only [Act.put]; rw [Array.getElem?_setIfInBounds_ne cQ]; exact aW
        ·rw [mid.news j]
         by_cases e:i=j
         ·subst e
          constructor
          ·rintro ⟨_,aW,_⟩; rw [jf] at aW; cases aW
          ·rintro ⟨_,_,cp,aW⟩; rw [c6] at aW; cases aW
         ·rw [getD_set_ne false e]
        ·have e:i≠j:=fun e=>by subst e; rw [c6] at ak; cases ak; cases gR
         rw [getD_set_ne false e]
         exact mid.stored j x ak gR
       split
       ·rename_i hw
        exact(J hw).wpIn fun v W' ⟨f,a3⟩=>bz _ bj da b _ _ oV qL (LM v W' f a3)
       ·rename_i hw
        have CP:Region.wanted bT (yielded ops a.tmps)=false:=by simpa using hw
        exact⟨fun _ _=>trivial,bz _ bj da b _ _ oV qL (LM undef W (.refl _ _) (ad CP))⟩
     | new cp=>
       simp only at iS
       obtain⟨zD,jq,ed,jg⟩:=iS
       have Ui:∀ q x,eL.lH q x∈hs.take b→q≠i:=fun q x hm e=>by
        subst e
        obtain⟨j,aC⟩:=List.mem_iff_getElem?.1 hm
        rw [List.getElem?_take] at aC
        split at aC
        ·rename_i Wu
         have Wv:=(mid.stored j _ aC rfl).2 Wu
         have q0:j < n:=by have:=(List.getElem?_eq_some_iff.1 aC).1; omega
         obtain⟨jY,g8,MY⟩:=Eu (b3 bj) j _ aC
         simp only at MY
         have ax:=List.all_eq_true.1 (List.all_eq_true.1 LL j (List.mem_range.2 q0)) q (by simpa using MY.1)
         simp only [Bool.and_eq_true,decide_eq_true_eq] at ax
         obtain⟨GG,Cu,e,he,hb,ky⟩:=Region.waitsFor_spec ax.2
         have:=inv.closed j GG Cu Wv e he hb
         rw [ky,jf] at this
         cases this
        ·cases aC
       have Cv:hR i cp (hs.take b)=cp:=xU Ui
       let me:Nat→Nat:=fun j=>if j=i then W.heap.size else bj j
       have Ww:∀ j,j∈da→me j=bj j:=fun j aC=>if_neg (fun e=>VF (by rw [← e]; exact aC))
       have GH:me i=W.heap.size:=if_pos rfl
       have pW:dM L (hs.take b) ++ eN me hs b (i :: da)=dM L (hs.take b) ++ (⟨some W.heap.size,cp⟩ :: eN bj hs b da):=by
        have:eN me hs b (i :: da)=⟨some W.heap.size,cp⟩ :: eN me hs b da:=by simp only [eN,List.map_cons,c6,GH,Cv]
        rw [this,RC Ww]
       have ze:wH c n dS hs E L (aX.setIfInBounds i true) me (i :: da) b (a.put bT.dst (.pointer (some ⟨W.heap.size,0,none⟩))) (W.alloc jq):=by
        have jT:bs c E (dM L (hs.take b) ++ eN me hs b (i :: da)) a (W.alloc jq):=by
         rw [pW]
         exact(mid.st.alloc (ed _ _)).perm List.perm_middle.symm
        have gA:Ext (aJ (dM L (hs.take b) ++ eN bj hs b da) ++ c.bM) W (aJ (dM L (hs.take b) ++ eN me hs b (i :: da)) ++ c.bM) (W.alloc jq):=by
         refine⟨by simp,fun k au _=>BO W jq k au,fun k au b5=> ?_⟩
         rw [pW] at au
         simp only [eF,aJ,List.mem_append,List.mem_cons] at au ⊢
         rcases au with(h | h | h) | h
         ·exact .inl (.inl h)
         ·omega
         ·exact .inl (.inr h)
         ·exact .inr h
        refine⟨?_,fun j bW x σ aC ar ev ak kS=> ?_,fun j=> ?_,fun j x ak gR=> ?_,mid.ble⟩
        ·cases hd:bT.dst with
         | none=>exact jT
         | some s=>
           rw [hd] at lE
           refine { (jT.put (d:=s) (τ:= .any) (Cs i s lE) trivial) with env:=fun t σ ew=> ?_ }
           have cQ:s≠t:=fun e=>Et aw t σ ew (by rw [← e]; exact List.mem_filterMap.2 ⟨some s,List.mem_of_getElem? lE,rfl⟩)
           obtain⟨u,aW,bc⟩:=jT.env t σ ew
           exact⟨u,by simp only [Act.put]; rw [Array.getElem?_setIfInBounds_ne cQ]; exact aW,bc⟩
        ·by_cases e:i=j
         ·subst e
          rw [lE] at ev
          rw [c6] at ak
          cases ak
          simp only [eL.p2,Option.some.injEq] at kS
          subst kS
          simp only [Option.some.injEq] at ev
          rw [ev]
          exact⟨.pointer (some ⟨W.heap.size,0,none⟩),by rw [ev] at lE; simp [Act.put,jT.size,Cs i bW lE],by rw [GH]; rfl⟩
         ·rw [getD_set_ne false e] at ar
          have Wx:me j=bj j:=if_neg (fun e'=>e e'.symm)
          rw [Wx] at kS
          obtain⟨u,aW,bc⟩:=mid.done j bW x σ aC ar ev ak kS
          refine⟨u,?_,σ.mono gA bc⟩
          cases hd:bT.dst with
          | none=>exact aW
          | some s=>
            rw [hd] at lE
            have cQ:s≠bW:=fun bd=>e (Mu i j s lE (by rw [bd]; exact ev))
            simp only [Act.put]; rw [Array.getElem?_setIfInBounds_ne cQ]; exact aW
        ·rw [List.mem_cons,mid.news j]
         by_cases e:i=j
         ·subst e
          exact⟨fun _=>⟨ec,wa,cp,c6⟩,fun _=> .inl rfl⟩
         ·rw [getD_set_ne false e]
          exact⟨fun h=>h.resolve_left (fun e'=>e e'.symm),.inr⟩
        ·have e:i≠j:=fun e=>by subst e; rw [c6] at ak; cases ak; cases gR
         rw [getD_set_ne false e]
         exact mid.stored j x ak gR
       rw [if_pos (by simp [Region.wanted,zD])]
       refine Pv (jg a W) ?_
       exact bz _ me (i :: da) b _ _ oV qL ze
     | kQ q cp=>
       simp only at iS
       obtain⟨CM,r,uw,nw⟩:=J5 rfl
       have MZ:dM L (hs.take i)=dM L (hs.take b):=by rw [uw,E1,Bj nw]
       rw [Nat.zero_add,MZ] at iS
       obtain⟨p,mc,hq,ss⟩:=iS
       have iN:(dM L (hs.take b) ++ eN bj hs b da)[q]? =some ⟨some p,mc⟩:=by
        rw [List.getElem?_append_left (List.getElem?_eq_some_iff.1 hq).1]; exact hq
       obtain⟨zD,zf,ss⟩:=ss (dM L (hs.take b) ++ eN bj hs b da) (fun j e aC=>by
        rw [List.getElem?_append_left (List.getElem?_eq_some_iff.1 aC).1]; exact aC)
       obtain⟨cs,dx,T,J,ad,ax⟩:=ss a W eY
       have zz:=mid.st.store iN J ax
       have wj:hs.take (i + 1)=hs.take i ++ [.kQ q cp]:=by rw [List.take_add_one,c6]; rfl
       have ux:dM L (hs.take (i + 1))=(dM L (hs.take b)).set q ⟨some p,cp⟩:=by
        rw [wj,IP,MZ]
        simp only [dM]
        exact QA hq
       have GI:eN bj hs (i + 1) da=eN bj hs b da:=by
        unfold eN
        refine List.map_congr_left fun j _=> ?_
        congr 1
        split
        ·rw [wj,D8,uw,EC,Bh nw]; rfl
        ·rfl
       have zE:dM L (hs.take (i + 1)) ++ eN bj hs (i + 1) da=(dM L (hs.take b) ++ eN bj hs b da).set q ⟨some p,cp⟩:=by
        rw [ux,GI,List.set_append_left _ _ (List.getElem?_eq_some_iff.1 hq).1]
       have oc:aJ (dM L (hs.take (i + 1)) ++ eN bj hs (i + 1) da)=aJ (dM L (hs.take b) ++ eN bj hs b da):=by rw [zE]; exact vO (cp:=cp) iN
       have jC:p∈aJ (dM L (hs.take b) ++ eN bj hs b da):=km.2 ⟨_,List.mem_of_getElem? iN,rfl⟩
       have gA:Ext (aJ (dM L (hs.take b) ++ eN bj hs b da) ++ c.bM) W (aJ (dM L (hs.take b) ++ eN bj hs b da) ++ c.bM) (W.setRow p dx):=
        ⟨by simp,fun k _ bg=>setRow_other W p k dx (fun e=>bg (e ▸ List.mem_append.2 (.inl jC))),fun _ h _=>h⟩
       have ze:wH c n dS hs E L (aX.setIfInBounds i true) bj da (i + 1) (a.put bT.dst undef) (W.setRow p dx):=by
        rw [zf]
        refine⟨by rw [zE]; exact zz,fun j bW x σ aC ar ev ak kS=> ?_,fun j=> ?_,fun j x ak gR=> ?_,ec⟩
        ·rw [oc]
         by_cases e:i=j
         ·subst e; rw [c6] at ak; cases ak; cases kS
         ·rw [getD_set_ne false e] at ar
          obtain⟨u,aW,bc⟩:=mid.done j bW x σ aC ar ev ak kS
          exact⟨u,aW,σ.mono gA bc⟩
        ·rw [mid.news j]
         by_cases e:i=j
         ·subst e
          constructor
          ·rintro ⟨_,aW,_⟩; rw [jf] at aW; cases aW
          ·rintro ⟨_,_,cp,aW⟩; rw [c6] at aW; cases aW
         ·rw [getD_set_ne false e]
        ·by_cases e:i=j
         ·subst e; exact⟨fun _=>by omega,fun _=>wa⟩
         ·rw [getD_set_ne false e,mid.stored j x ak gR]
          constructor
          ·intro _; omega
          ·intro aC
           rcases Nat.lt_or_ge j b with aW | aW
           ·exact aW
           ·have:x∈r:=by
             have bc:(hs.take i)[j]? =some x:=by rw [List.getElem?_take,if_pos (by omega)]; exact ak
             rw [uw,List.getElem?_append_right (by rw [List.length_take]; omega)] at bc
             exact List.mem_of_getElem? bc
            have:=nw x this
            rw [gR] at this; cases this
       rw [if_pos (by simp [Region.wanted,zD])]
       refine IC ad ?_
       exact bz _ bj da (i + 1) _ _ oV qL ze
     | lH q cp=>
       simp only at iS
       obtain⟨CM,r,uw,nw⟩:=J5 rfl
       obtain⟨Mz,mc,q1,ss⟩:=iS
       rw [Nat.zero_add] at ss
       have Cv:∀ (j:Nat) x,hR j x (hs.take i)=hR j x (hs.take b):=fun j x=>by rw [uw,EC,Bh nw]
       have VG:q∈da:=(mid.news q).2 ⟨(Ct q (by simpa using Mz)).1,(Ct q (by simpa using Mz)).2,mc,q1⟩
       obtain⟨k,au⟩:=List.mem_iff_getElem?.1 VG
       have sg:(eN bj hs b da)[k]? =some ⟨some (bj q),hR q mc (hs.take i)⟩:=by
        simp only [eN,List.getElem?_map,au,Option.map_some,q1,Cv]
       have iN:(dM L (hs.take b) ++ eN bj hs b da)[(dM L (hs.take b)).length + k]? =some ⟨some (bj q),hR q mc (hs.take i)⟩:=by
        rw [List.getElem?_append_right (by omega),Nat.add_sub_cancel_left]; exact sg
       obtain⟨zD,zf,ss⟩:=ss (dM L (hs.take b) ++ eN bj hs b da) _ iN
       obtain⟨cs,dx,T,J,ad,ax⟩:=ss a W eY
       have zz:=mid.st.store iN J ax
       have wj:hs.take (i + 1)=hs.take i ++ [.lH q cp]:=by rw [List.take_add_one,c6]; rfl
       have ux:dM L (hs.take (i + 1))=dM L (hs.take b):=by
        rw [wj,IP]
        simp only [dM]
        rw [uw,E1,Bj nw]
       have FN:da.Nodup:=by
        have:=mid.st.nodup
        rw [eF,yi] at this
        exact ID bj da (List.nodup_append.1 this).2.1
       have GI:eN bj hs (i + 1) da=(eN bj hs b da).set k ⟨some (bj q),cp⟩:=by
        apply List.ext_getElem?
        intro j
        rw [List.getElem?_set]
        by_cases e:k=j
        ·subst e
         have zF:k < (eN bj hs b da).length:=(List.getElem?_eq_some_iff.1 sg).1
         rw [if_pos rfl,if_pos zF]
         simp only [eN,List.getElem?_map,au,Option.map_some,q1]
         rw [wj,D8]
         simp [hR]
        ·rw [if_neg e]
         simp only [eN,List.getElem?_map]
         cases aC:da[j]? with
         | none=>rfl
         | some x=>
           have Wy:x≠q:=fun bd=>by
            subst bd
            obtain⟨cR,cy⟩:=List.getElem?_eq_some_iff.1 aC
            obtain⟨dH,dR⟩:=List.getElem?_eq_some_iff.1 au
            exact e ((List.getElem_inj FN).1 (dR.trans cy.symm))
           simp only [Option.map_some]
           congr 2
           split
           ·rw [wj,D8,Cv]
            have:Nat.beq q x=false:=by
             cases hb:Nat.beq q x with
             | false=>rfl
             | true=>exact absurd (dX.1 hb).symm Wy
            simp [hR,this]
           ·rfl
       have zE:dM L (hs.take (i + 1)) ++ eN bj hs (i + 1) da=(dM L (hs.take b) ++ eN bj hs b da).set ((dM L (hs.take b)).length + k) ⟨some (bj q),cp⟩:=by
        rw [ux,GI,List.set_append_right _ _ (by omega),Nat.add_sub_cancel_left]
       have oc:aJ (dM L (hs.take (i + 1)) ++ eN bj hs (i + 1) da)=aJ (dM L (hs.take b) ++ eN bj hs b da):=by rw [zE]; exact vO (cp:=cp) iN
       have jC:bj q∈aJ (dM L (hs.take b) ++ eN bj hs b da):=km.2 ⟨_,List.mem_of_getElem? iN,rfl⟩
       have gA:Ext (aJ (dM L (hs.take b) ++ eN bj hs b da) ++ c.bM) W (aJ (dM L (hs.take b) ++ eN bj hs b da) ++ c.bM) (W.setRow (bj q) dx):=
        ⟨by simp,fun k _ bg=>setRow_other W (bj q) k dx (fun e=>bg (e ▸ List.mem_append.2 (.inl jC))),fun _ h _=>h⟩
       have ze:wH c n dS hs E L (aX.setIfInBounds i true) bj da (i + 1) (a.put bT.dst undef) (W.setRow (bj q) dx):=by
        rw [zf]
        refine⟨by rw [zE]; exact zz,fun j bW x σ aC ar ev ak kS=> ?_,fun j=> ?_,fun j x ak gR=> ?_,ec⟩
        ·rw [oc]
         by_cases e:i=j
         ·subst e; rw [c6] at ak; cases ak; cases kS
         ·rw [getD_set_ne false e] at ar
          obtain⟨u,aW,bc⟩:=mid.done j bW x σ aC ar ev ak kS
          exact⟨u,aW,σ.mono gA bc⟩
        ·rw [mid.news j]
         by_cases e:i=j
         ·subst e
          constructor
          ·rintro ⟨_,aW,_⟩; rw [jf] at aW; cases aW
          ·rintro ⟨_,_,cp,aW⟩; rw [c6] at aW; cases aW
         ·rw [getD_set_ne false e]
        ·by_cases e:i=j
         ·subst e; exact⟨fun _=>by omega,fun _=>wa⟩
         ·rw [getD_set_ne false e,mid.stored j x ak gR]
          constructor
          ·intro _; omega
          ·intro aC
           rcases Nat.lt_or_ge j b with aW | aW
           ·exact aW
           ·have:x∈r:=by
             have bc:(hs.take i)[j]? =some x:=by rw [List.getElem?_take,if_pos (by omega)]; exact ak
             rw [uw,List.getElem?_append_right (by rw [List.length_take]; omega)] at bc
             exact List.mem_of_getElem? bc
            have:=nw x this
            rw [gR] at this; cases this
       rw [if_pos (by simp [Region.wanted,zD])]
       refine IC ad ?_
       exact bz _ bj da (i + 1) _ _ oV qL ze
theorem ai.draw {nx:Nat} {l:List Oper} (hm:c.P.follows .mixedOrders=true) (n:Nat) (dS:List (Option Nat)) (qK:List (List Nat)) (hs:List eL) (zy:List Bool) (gI:Cf l.toArray n dS qK zy c.n=true) (uU:hs.map eL.mG=zy) (aw:zd E (dS.filterMap id)=true)
 (hlen:Nat.beq hs.length n=true) (b3:∀ bj,pL c l.toArray bj dS hs E L 0 l hs qK)
 (bI:∀ bj:Nat→Nat,ag c l.toArray Q (l.drop n) (sf bj E 0 dS hs) (k5 bj hs (dM L hs) 0 hs)):ai c Q (.region nx l.toArray true) E L:=fun a W s=>by
 subst uU
 refine wpIn_region_any hm ?_
 have aL:n≤l.toArray.size:=by
  simp only [Cf,Bool.and_eq_true,decide_eq_true_eq] at gI
  exact gI.1.1.1.1.1.1.1.2
 have zg:HeadInv .any l.toArray n (Array.replicate l.toArray.size false):=
  {size:=by simp
   closed:=fun j jY _ ar=>by rw [getD_replicate_false] at ar; cases ar
   tail:=fun t _ bI=>by simp at bI; simp [bI] }
 have VH:wH c n dS hs E L (Array.replicate l.toArray.size false) (fun _=>0) [] 0 a W.drew:=
  {st:=by simpa [dM,eN] using s.world (Fr.drew W)
   done:=fun j s h τ _ ar=>by rw [getD_replicate_false] at ar; cases ar
   news:=fun j=>by
    constructor
    ·intro h; cases h
    ·rintro ⟨_,h,_⟩; rw [getD_replicate_false] at h; cases h
   stored:=fun j h _ _=>by
    rw [getD_replicate_false]
    constructor
    ·intro h; cases h
    ·intro h; omega
   ble:=Nat.zero_le _ }
 have h:=QB (ops:=l.toArray) (Q:=Q) gI aw (dX.1 hlen) (by simpa using b3) (by simpa using bI) n (Array.replicate l.toArray.size false) (fun _=>0) [] 0 a W.drew
  (Nat.le_trans (List.length_filter_le _ _) (by simp)) zg VH
 rw [show n + (l.toArray.size - n)=l.toArray.size by omega] at h
 exact h
end
end Gv
namespace Gv
open Go
set_option linter.unusedVariables false
set_option linter.unusedSimpArgs false
structure bq (P:Program) (t:TypeId) (α:Type) [ae α]:Prop where
 size:(P.info? t).map (·.size)=some (ae.size α)
 M0:∃ d,P.underlying t=some d∧ (match d with | .struct _ | .array _ _=>true | _=>false)=ae.agg α
structure cc (P:Program) (t:TypeId) {α:Type} [ae α] (x:α):Prop where
 zero:∃ i z,P.info? t=some i∧i.zero=some z∧ ∀ A W,(I.of x).holds A W z
theorem bq.info {P t α} [ae α] (h:bq P t α):∃ i,P.info? t=some i∧i.size=ae.size α:=by
 have:=h.size
 cases aq:P.info? t with
 | none=>simp [aq] at this
 | some i=>exact⟨i,rfl,by simpa [aq] using this⟩
theorem bq.isAgg {P t α} [ae α] (h:bq P t α) (W:World):(isAgg t).run P W= .ok (ae.agg α) W:=by
 obtain⟨d,hd,he⟩:=h.M0
 unfold Go.isAgg
 rw [Sem.run_bind,run_underlying hd W]
 simp only [Result.andThen_ok]
 cases d <;> simp_all
theorem bq.sizeOf {P t α} [ae α] (h:bq P t α) (W:World):(Go.sizeOf t).run P W= .ok (ae.size α) W:=by
 obtain⟨i,aq,hs⟩:=h.info
 simp [Go.sizeOf,typeInfo,aq,hs]
theorem ig (b off j:Nat):(⟨b,off,none⟩:Addr).add j=⟨b,off + j,none⟩:=by unfold Addr.add; split <;> simp_all
theorem sW {P:Program} {W:World} {b off:Nat} {cur:Array Value} {T t:TypeId} {ha:Nat × Nat} {α:Type} [ae α] {A:List Nat} {x:α} (ty:bq P t α)
 (hb:W.heap[b]? =some (.cells cur T ha)) (hs:off + ae.size α≤cur.size) (aQ:ae.rep A W ((cur.toList.drop off).take (ae.size α)) x):
 ∃ v,(loadVar t ⟨b,off,none⟩).run P W= .ok v W∧ (I.of x).holds A W v:=by
 have ar:=ae.len aQ
 have tM:∀ j v,((cur.toList.drop off).take (ae.size α))[j]? =some v→W.cell? ((⟨b,off,none⟩:Addr).add j)=some v:=by
  intro j v a3
  rw [ig,cell_of_row W b (off + j) cur T ha hb]
  rw [List.getElem?_take] at a3
  split at a3
  ·rw [List.getElem?_drop] at a3; simpa using a3
  ·cases a3
 cases bg:ae.agg α with
 | true=>
   have J:=run_loadCells_list (P:=P) W ⟨b,off,none⟩ _ tM
   rw [ar] at J
   refine⟨.agg ((cur.toList.drop off).take (ae.size α)).toArray,?_,?_,?_⟩
   ·simp [loadVar,Sem.run_bind,ty.isAgg,ty.sizeOf,bg,J]
   ·simp [shaped,bg]
   ·simpa [Value.cells] using aQ
 | false=>
   have J:ae.size α=1:=ae.flat bg
   rw [J] at ar
   obtain⟨v,a3⟩:=List.length_eq_one_iff.1 ar
   have ad:=tM 0 v (by rw [J,a3]; rfl)
   have ax:v.oneCell'=true:=ae.one aQ v (by rw [J,a3]; simp)
   refine⟨v,?_,?_,?_⟩
   ·rw [ig,Nat.add_zero] at ad
    simp [loadVar,Sem.run_bind,ty.isAgg,bg,ad]
   ·simp [shaped,bg,ax]
   ·rw [nM ax]
    rw [J,a3] at aQ
    simpa using aQ
def fw (cur:List Value) (off:Nat) (ds:List Value):List Value:=cur.take off ++ ds ++ cur.drop (off + ds.length)
theorem Q6 {A W v} {α:Type} [ae α] {x:α} (h:(I.of x).holds A W v):v.cells.toList.length=ae.size α∧ ∀ u∈v.cells.toList,u.oneCell'=true:=⟨ae.len h.2,ae.one h.2⟩
theorem xI {P:Program} {W:World} {b off:Nat} {cur:Array Value} {T t:TypeId} {α:Type} [ae α] {A:List Nat} {x:α} {v:Value} (ty:bq P t α)
 (hb:W.heap[b]? =some (.cells cur T (0,0))) (hs:off + ae.size α≤cur.size) (a3:(I.of x).holds A W v):
 (storeVar t ⟨b,off,none⟩ v).run P W= .ok () (W.setRow b (fw cur.toList off v.cells.toList).toArray):=by
 obtain⟨ar,J⟩:=Q6 a3
 have ad:=run_storeCells_at P b off T v.cells.toList 0 cur W hb (by rw [ar]; omega) J
 have dL:v.cells.size=ae.size α:=by simpa using ar
 simp only [Nat.add_zero] at ad
 simp only [storeVar,Sem.run_bind,ty.sizeOf,Result.andThen_ok,dL]
 simp only [ne_eq,not_true_eq_false,↓reduceIte,Sem.run_pure,Sem.run_bind,Result.andThen_ok]
 simpa [fw] using ad
structure aO (β γ:Type) [ae β] [ae γ] where
 off:Nat
 get:β→γ
 set:β→γ→β
 fI:off + ae.size γ≤ae.size β
 hN:∀ {A W cs b},ae.rep A W cs b→ae.rep A W ((cs.drop off).take (ae.size γ)) (get b)
 kk:∀ {A W cs b ds g},ae.rep A W cs b→ae.rep A W ds g→ae.rep A W (cs.take off ++ ds ++ cs.drop (off + ae.size γ)) (set b g)
def aO.id (β:Type) [ae β]:aO β β where
 off:=0
 get b:=b
 set _ g:=g
 fI:=by simp
 hN h:=by
  have:=ae.len h
  rw [List.drop_zero,← this,List.take_length]; exact h
 kk h bx:=by
  have J:=ae.len h
  rw [List.take_zero,List.nil_append,Nat.zero_add,← J,List.drop_length,List.append_nil]; exact bx
theorem sY (cs:List Value) (bS s1 bT s2:Nat) (h:bT + s2≤s1):(((cs.drop bS).take s1).drop bT).take s2=(cs.drop (bS + bT)).take s2:=by
 apply List.ext_getElem?
 intro i
 simp only [List.getElem?_take,List.getElem?_drop]
 split
 ·rw [if_pos (by omega)]; congr 1; omega
 ·rfl
theorem I6 (cs ds:List Value) (bS s1 bT s2:Nat) (h:bT + s2≤s1) (aj:bS + s1≤cs.length):
 cs.take bS ++ (((cs.drop bS).take s1).take bT ++ ds ++ ((cs.drop bS).take s1).drop (bT + s2)) ++ cs.drop (bS + s1)=cs.take (bS + bT) ++ ds ++ cs.drop (bS + bT + s2):=by
 have aE:cs.take (bS + bT)=cs.take bS ++ ((cs.drop bS).take s1).take bT:=by
  rw [List.take_take,Nat.min_eq_left (by omega),List.take_add]
 have bd:cs.drop (bS + bT + s2)=((cs.drop bS).take s1).drop (bT + s2) ++ cs.drop (bS + s1):=by
  apply List.ext_getElem?
  intro i
  simp only [List.getElem?_append,List.getElem?_drop,List.getElem?_take,List.length_drop,List.length_take]
  split
  ·rw [if_pos (by omega)]; congr 1; omega
  ·congr 1; omega
 rw [aE,bd]
 simp only [List.append_assoc]
def aO.comp {α β γ:Type} [ae α] [ae β] [ae γ] (l:aO α β) (m:aO β γ):aO α γ where
 off:=l.off + m.off
 get b:=m.get (l.get b)
 set b g:=l.set b (m.set (l.get b) g)
 fI:=by have:=l.fI; have:=m.fI; omega
 hN h:=by
  have:=m.hN (l.hN h)
  rwa [sY _ _ _ _ _ m.fI] at this
 kk h bx:=by
  have J:=l.kk h (m.kk (l.hN h) bx)
  have ad:=ae.len h
  have ax:=l.fI
  rwa [I6 _ _ _ _ _ _ m.fI (by omega)] at J
def cg {α:Type} [Inhabited α] {n:Nat} (v:Vector α n) (k:Nat):α:=v[k]?.getD default
def iJ {α:Type} {n:Nat} (v:Vector α n) (k:Nat) (x:α):Vector α n:=v.setIfInBounds k x
instance {α:Type} [Inhabited α] {n:Nat} :Inhabited (Vector α n):=⟨Vector.replicate n default⟩
instance XT {α:Type} [ae α] [Inhabited α] {n:Nat} :ae (Vector α n) where
 size:=n * ae.size α
 agg:=true
 rep A W cs v:=fQ A W cs v.toList
 len h:=by rw [h.1]; simp
 one h:=by
  intro u hu
  obtain⟨j,aC⟩:=List.mem_iff_getElem?.1 hu
  have b5:=(List.getElem?_eq_some_iff.1 aC).1
  have J:=h.1
  by_cases hs:ae.size α=0
  ·rw [hs,Nat.mul_zero] at J; omega
  ·have hp:0 < ae.size α:=Nat.pos_of_ne_zero hs
   have aq:j / ae.size α < _:=(Nat.div_lt_iff_lt_mul hp).2 (by rw [J] at b5; exact b5)
   refine ae.one (h.2 _ aq) u (List.mem_iff_getElem?.2 ⟨j % ae.size α,?_⟩)
   rw [List.getElem?_take,if_pos (Nat.mod_lt _ hp),List.getElem?_drop,Nat.mul_comm,Nat.div_add_mod]
   exact aC
 flat h:=by cases h
 mono e h:=h.mono e
theorem PQ {α:Type} [Inhabited α] {n:Nat} (v:Vector α n) {k:Nat} (h:k < n):cg v k=v.toList[k]'(by simpa using h):=by simp [cg,h]
theorem ED {α:Type} [ae α] {A W} {cs ds:List Value} {xs:List α} {x:α} {k:Nat} (h:fQ A W cs xs) (au:k < xs.length) (hd:ae.rep A W ds x):
 fQ A W (cs.take (k * ae.size α) ++ ds ++ cs.drop (k * ae.size α + ae.size α)) (xs.set k x):=by
 have ar:=h.1
 have Yb:=ae.len hd
 have hle:(k + 1) * ae.size α≤xs.length * ae.size α:=Nat.mul_le_mul_right _ au
 rw [Nat.succ_mul] at hle
 refine⟨by simp only [List.length_append,List.length_take,List.length_drop,List.length_set]; omega,fun i aq=> ?_⟩
 rw [List.length_set] at aq
 by_cases e:k=i
 ·subst e
  have:((cs.take (k * ae.size α) ++ ds ++ cs.drop (k * ae.size α + ae.size α)).drop (k * ae.size α)).take (ae.size α)=ds:=by
   rw [List.append_assoc,List.drop_append_of_le_length (by simp only [List.length_take]; omega),List.drop_of_length_le (by simp only [List.length_take]; omega),List.nil_append,
    List.take_append_of_le_length (by omega),List.take_of_length_le (by omega)]
  rw [this]
  simpa using hd
 ·have J:=h.2 i aq
  have:((cs.take (k * ae.size α) ++ ds ++ cs.drop (k * ae.size α + ae.size α)).drop (i * ae.size α)).take (ae.size α)=(cs.drop (i * ae.size α)).take (ae.size α):=by
   apply List.ext_getElem?
   intro j
   simp only [List.getElem?_take,List.getElem?_drop]
   split
   ·rename_i aC
    simp only [List.getElem?_append,List.length_append,List.length_take,List.getElem?_take,List.getElem?_drop]
    rcases Nat.lt_or_gt_of_ne e with ad | ad
    ·have:(k + 1) * ae.size α≤i * ae.size α:=Nat.mul_le_mul_right _ ad
     rw [Nat.succ_mul] at this
     rw [if_neg (by omega)]; congr 1; omega
    ·have:(i + 1) * ae.size α≤k * ae.size α:=Nat.mul_le_mul_right _ ad
     rw [Nat.succ_mul] at this
     rw [if_pos (by omega),if_pos (by omega),if_pos (by omega)]
   ·rfl
  rw [this]
  simpa [List.getElem_set_ne e] using J
def aO.idx {α:Type} [ae α] [Inhabited α] (n k:Nat) (au:k < n):aO (Vector α n) α where
 off:=k * ae.size α
 get v:=cg v k
 set v x:=iJ v k x
 fI:=by
  show k * ae.size α + ae.size α≤n * ae.size α
  rw [← Nat.succ_mul]; exact Nat.mul_le_mul_right _ au
 hN h:=by
  rename_i b
  rw [PQ b au]
  exact h.2 k (by simpa using au)
 kk h hd:=by
  rename_i b ds g
  have:=ED h (k:=k) (by simpa using au) hd
  show fQ _ _ _ (iJ b k g).toList
  rw [show(iJ b k g).toList=b.toList.set k g by simp [iJ]]
  exact this
def idx (n:Nat) (i:Int):Option Nat:=if 0≤i∧i < n then some i.toNat else none
theorem eU {n:Nat} {i:Int} {k:Nat} (h:idx n i=some k):k < n∧i=k:=by
 unfold idx at h
 split at h
 ·rename_i aq
  simp only [Option.some.injEq] at h
  omega
 ·cases h
section
variable {c:cT} {E:List (Nat × I)} {L:List aF} {ops:Array Oper} {Q:Exit→Act→World→Prop}
variable {d:Option Tmp} {ty:TypeId} {pos:String} {af:Array Edge} {g:Option (Nat × Bool)}
theorem cj {x:Operand} {τ:I} (h:a4 c E L x τ):bO c E L ⟨d,.move x,ty,pos,af,g⟩ τ:= .pure fun a W s=>⟨_,rfl,h a W s⟩
theorem eJ {x:Operand} {τ:I} (h:a4 c E L x τ):bO c E L ⟨d,.assign x,ty,pos,af,g⟩ τ:= .pure fun a W s=>⟨_,rfl,h a W s⟩
theorem y0 {x y:Operand} {b e:Bool} {p:Prop} (ak:a4 c E L x (.of b)) (a7:a4 c E L y (.cond p (.of e))) (hp:b=false→p):
 bO c E L ⟨d,.pick x (.const (.bool true)) y,ty,pos,af,g⟩ (.of (b || e)):= .pure fun a W s=>by
 have J:=of_bool.1 (ak a W s)
 cases b with
 | true=>exact⟨.bool true,by simp only [execOp,J,asBool]; rfl,of_bool.2 rfl⟩
 | false=>
   have ad:=of_bool.1 ((a7 a W s).1 (hp rfl))
   exact⟨.bool e,by simp [execOp,asBool,J,ad],of_bool.2 rfl⟩
theorem oH {x y:Operand} {b e:Bool} {p:Prop} (ak:a4 c E L x (.of b)) (a7:a4 c E L y (.cond p (.of e))) (hp:b=true→p):
 bO c E L ⟨d,.pick x y (.const (.bool false)),ty,pos,af,g⟩ (.of (b && e)):= .pure fun a W s=>by
 have J:=of_bool.1 (ak a W s)
 cases b with
 | false=>exact⟨.bool false,by simp only [execOp,J,asBool]; rfl,of_bool.2 rfl⟩
 | true=>
   have ad:=of_bool.1 ((a7 a W s).1 (hp rfl))
   exact⟨.bool e,by simp [execOp,asBool,J,ad],of_bool.2 rfl⟩
theorem ko {x:Operand} {b:Bool} {t:TypeId} (ak:a4 c E L x (.of b)):bO c E L ⟨d,.unOp .not t x,ty,pos,af,g⟩ (.of (!b)):= .pure fun a W s=>
 ⟨.bool (!b),by simp [execOp,Op.unary,of_bool.1 (ak a W s)],of_bool.2 rfl⟩
theorem fE {x:Operand} {t:TypeId} {i p o:Nat} {β γ:Type} [ae β] [ae γ] {b:β} (l:aO β γ) {r:γ} (ef:bq c.P t γ) (ak:a4 c E L x (.eq (.pointer (some ⟨p,o,none⟩))))
 (an:L[i]? =some ⟨some p,.var b⟩) (a6:o=l.off) (aQ:l.get b=r):bO c E L ⟨d,.load t x,ty,pos,af,g⟩ (.of r):= .pure fun a W s=>by
 subst a6
 subst aQ
 obtain⟨jq,ed,cs,T,rfl,fq⟩:=s.own _ (List.mem_of_getElem? an)
 have J:cs.toList.length=ae.size β:=ae.len fq
 obtain⟨v,ad,ax⟩:=sW (A:=aJ L ++ c.bM) ef ed (by have:=l.fI; simp at J; omega) (l.hN fq)
 refine⟨v,?_,ax⟩
 have aR:a.eval x=_:=ak a W s
 simp [execOp,Instr.loadAt,Instr.sureAddr,aR,ad]
theorem eG {x:Operand} {t:TypeId} {γ:Type} [ae γ] {r:γ} (ef:bq c.P t γ) (ak:a4 c E L x (.ptr r)):bO c E L ⟨d,.load t x,ty,pos,af,g⟩ (.of r):= .pure fun a W s=>by
 obtain⟨b,off,cur,T,ha,aR,hb,b3,hs,aQ⟩:=ak a W s
 obtain⟨v,ad,ax⟩:=sW ef b3 hs aQ
 exact⟨v,by simp [execOp,Instr.loadAt,Instr.sureAddr,aR,ad],ax⟩
structure b4 (P:Program) (s:TypeId) (f o:Nat):Prop where
 at_:∃ fs fd i,P.underlying s=some (.struct fs)∧fs[f]? =some fd∧fd.offset=o∧P.info? fd.type=some i∧i.size≠0
theorem IH {P:Program} {s:TypeId} {f o:Nat} (h:b4 P s f o) (p off:Nat) (W:World):
 (Instr.fieldAt s (.pointer (some ⟨p,off,none⟩)) f).run P W= .ok (.pointer (some ⟨p,off + o,none⟩)) W:=by
 obtain⟨fs,fd,i,J,ad,ax,aR,aW⟩:=h.at_
 simp [Instr.fieldAt,run_underlying J,ad,Instr.sureAddr,fieldPlace,Go.sizeOf,typeInfo,aR,aW,ig,ax]
theorem a1 {x:Operand} {s f o p off:Nat} (fd:b4 c.P s f o) (ak:a4 c E L x (.eq (.pointer (some ⟨p,off,none⟩)))):
 bO c E L ⟨d,.fieldAddr s x f,ty,pos,af,g⟩ (.eq (.pointer (some ⟨p,off + o,none⟩))):= .pure fun a W st=>by
 have aR:a.eval x=_:=ak a W st
 exact⟨_,by simp [execOp,aR,IH fd],rfl⟩
theorem Ca {x:Operand} {s f o:Nat} {β γ:Type} [ae β] [ae γ] {b:β} (l:aO β γ) {r:γ} (fd:b4 c.P s f o) (ak:a4 c E L x (.ptr b)) (a6:l.off=o) (aQ:l.get b=r):
 bO c E L ⟨d,.fieldAddr s x f,ty,pos,af,g⟩ (.ptr r):= .pure fun a W st=>by
 subst a6
 subst aQ
 obtain⟨q,off,cur,T,ha,aR,hb,b3,hs,fq⟩:=ak a W st
 refine⟨.pointer (some ⟨q,off + l.off,none⟩),by simp [execOp,aR,IH fd],q,off + l.off,cur,T,ha,rfl,hb,b3,by have:=l.fI; omega,?_⟩
 have:=l.hN fq
 rwa [sY _ _ _ _ _ l.fI] at this
structure sB (P:Program) (t:TypeId) (n s:Nat):Prop where
 at_:∃ e i,P.underlying t=some (.array n e)∧P.info? e=some i∧i.size=s
theorem Pf {P:Program} {t n s:Nat} (h:sB P t n s) (p off:Nat) (k:Nat) (au:k < n) (W:World):
 (Instr.indexAt t (.pointer (some ⟨p,off,none⟩)) (.int .i64 (k:Int))).run P W= .ok (.pointer (some ⟨p,off + k * s,none⟩)) W:=by
 obtain⟨e,i,J,ad,ax⟩:=h.at_
 simp [Instr.indexAt,asIntOf,run_underlying J,Instr.sureAddr,Go.sizeOf,typeInfo,ad,ax,au,ig]
theorem oN {x y:Operand} {t n s p off:Nat} {i:Int} {k:Nat} (XD:sB c.P t n s) (ak:a4 c E L x (.eq (.pointer (some ⟨p,off,none⟩)))) (a7:a4 c E L y (.of i)) (au:k < n∧i=k):
 bO c E L ⟨d,.indexAddr t x y,ty,pos,af,g⟩ (.eq (.pointer (some ⟨p,off + k * s,none⟩))):= .pure fun a W st=>by
 have aR:a.eval x=_:=ak a W st
 have aW:=of_int.1 (a7 a W st)
 obtain⟨bc,rfl⟩:=au
 exact⟨_,by simp [execOp,aR,aW,Pf XD p off k bc],rfl⟩
theorem ag.alloc {t:TypeId} {rest:List Oper} {a9:Nat} {α:Type} [ae α] {z:α} (fV:cc c.P t z) (aL:Nat.blt a9 c.n=true)
 (k:∀ p,ag c ops Q rest ((a9,.eq (.pointer (some ⟨p,0,none⟩))) :: E) (⟨some p,.var z⟩ :: L)):ag c ops Q (⟨some a9,.alloc t,ty,pos,af,none⟩ :: rest) E L:=fun a W s=>by
 obtain⟨i,dN,J,ad,ax⟩:=fV.zero
 refine hA rfl (R:=fun v W'=>v= .pointer (some ⟨W.heap.size,0,none⟩)∧W'=W.alloc (.cells dN.cells t)) (.k2 ?_ ⟨rfl,rfl⟩) fun v W' ⟨a3,hw⟩=> ?_
 ·simp [execOp,Instr.alloc,zeroValue,typeInfo,J,ad,newVar,newRow]
 ·subst a3
  subst hw
  exact k _ _ _ ((s.alloc (cp:= .var z) ⟨dN.cells,t,rfl,(ax _ _).2⟩).put (by simpa using aL) rfl)
theorem Bp {P:Program} {t:TypeId} {α:Type} [ae α] {z:α} (fV:cc P t z):HD P ⟨d,.alloc t,ty,pos,af,none⟩ (.var z):=by
 obtain⟨i,dN,J,ad,ax⟩:=fV.zero
 refine⟨rfl,.cells dN.cells t,fun A W=>⟨dN.cells,t,rfl,(ax A W).2⟩,fun a W=> ?_⟩
 simp [execOp,Instr.alloc,zeroValue,typeInfo,J,ad,newVar,newRow]
theorem yr {x y:Operand} {t:TypeId} {i p o:Nat} {β γ:Type} [ae β] [ae γ] {b b':β} {v:γ} (l:aO β γ) (ef:bq c.P t γ) (ak:a4 c E L x (.eq (.pointer (some ⟨p,o,none⟩))))
 (a7:a4 c E L y (.of v)) (an:L[i]? =some ⟨some p,.var b⟩) (a6:o=l.off) (hb:l.set b v=b'):Ae c E L ⟨none,.store t x y,ty,pos,af,none⟩ p (.var b'):=⟨rfl,rfl,fun a W s=>by
 subst a6
 subst hb
 obtain⟨jq,ed,cs,T,rfl,fq⟩:=s.own _ (List.mem_of_getElem? an)
 have J:cs.toList.length=ae.size β:=ae.len fq
 have ec:=l.fI
 have a3:=a7 a W s
 have ad:=xI (A:=aJ L ++ c.bM) ef ed (off:=l.off) (by simp at J; omega) a3
 have aR:a.eval x=_:=ak a W s
 refine⟨cs,(fw cs.toList l.off (a.eval y).cells.toList).toArray,T,ed,?_,?_⟩
 ·simp [execOp,Instr.storeAt,Instr.sureAddr,aR,ad]
 ·refine⟨_,T,rfl,?_⟩
  have:=l.kk fq a3.2
  simpa [fw,ae.len a3.2] using this⟩
theorem ag.box {t:TypeId} {x:Operand} {rest:List Oper} {a9:Nat} {α:Type} [ae α] {z:α} (ak:a4 c E L x (.of z)) (aL:Nat.blt a9 c.n=true)
 (k:∀ p,ag c ops Q rest ((a9,.eq (.pointer (some ⟨p,0,none⟩))) :: E) (⟨some p,.var z⟩ :: L)):ag c ops Q (⟨some a9,.box t x,ty,pos,af,none⟩ :: rest) E L:=fun a W s=>by
 refine hA rfl (R:=fun v W'=>v= .pointer (some ⟨W.heap.size,0,none⟩)∧W'=W.alloc (.cells (a.eval x).cells t)) (.k2 ?_ ⟨rfl,rfl⟩) fun v W' ⟨a3,hw⟩=> ?_
 ·simp [execOp,Instr.box,newVar,newRow]
 ·subst a3
  subst hw
  exact k _ _ _ ((s.alloc (cp:= .var z) ⟨_,t,rfl,(ak a W s).2⟩).put (by simpa using aL) rfl)
theorem ag.store {x y:Operand} {t:TypeId} {rest:List Oper} {i p o:Nat} {β γ:Type} [ae β] [ae γ] {b b':β} {v:γ} (l:aO β γ) (ef:bq c.P t γ) (ak:a4 c E L x (.eq (.pointer (some ⟨p,o,none⟩))))
 (a7:a4 c E L y (.of v)) (an:L[i]? =some ⟨some p,.var b⟩) (a6:o=l.off) (hb:l.set b v=b')
 (k:ag c ops Q rest E (L.set i ⟨some p,.var b'⟩)):ag c ops Q (⟨none,.store t x y,ty,pos,af,none⟩ :: rest) E L:=fun a W s=>by
 subst a6
 subst hb
 obtain⟨jq,ed,cs,T,rfl,fq⟩:=s.own _ (List.mem_of_getElem? an)
 have J:cs.toList.length=ae.size β:=ae.len fq
 have ec:=l.fI
 have a3:=a7 a W s
 have ad:=xI (A:=aJ L ++ c.bM) ef ed (off:=l.off) (by simp at J; omega) a3
 have aR:a.eval x=_:=ak a W s
 refine hA rfl (R:=fun v W'=>W'=W.setRow p (fw cs.toList l.off (a.eval y).cells.toList).toArray) (.vG ?_ rfl) fun v W' hw=> ?_
 ·simp [execOp,Instr.storeAt,Instr.sureAddr,aR,ad]
 ·subst hw
  refine k _ _ (s.store an ed ?_)
  refine⟨_,T,rfl,?_⟩
  have:=l.kk fq a3.2
  simpa [fw,ae.len a3.2] using this
def gV (c:cT) (E:List (Nat × I)) (L:List aF):List Operand→List I→Prop
 | [],[]=>True
 | x :: xs,τ :: τs=>a4 c E L x τ∧gV c E L xs τs
 | _,_=>False
theorem gV.holds:∀ {xs:List Operand} {τs:List I},gV c E L xs τs→ ∀ a W,bs c E L a W→fM (aJ L ++ c.bM) W τs (xs.map a.eval)
 | [],[],_,_,_,_=> .nil
 | x :: xs,τ :: τs,h,a,W,s=> .cons (h.1 a W s) (h.2.holds a W s)
 | [],_ :: _,h,_,_,_=>h.elim
 | _ :: _,[],h,_,_,_=>h.elim
structure bR (P:Program) (f:FuncId):Prop where
 at_:∃ fn,P.funcs[f]? =some fn∧fn.body.isNone=false∧ (fn.name == "runtime.NumGoroutine")=false
theorem bR.run {P:Program} {f:FuncId} (h:bR P f) (args:Array Value) (W:World):(callFunc f args).run P W= .ok (.enter f args) W:=by
 obtain⟨fn,J,ad,ax⟩:=h.at_
 simp only [callFunc,Sem.run_bind,run_program,Result.andThen_ok,J,ax,ad]
 rfl
theorem lz {f:FuncId} {xs:List Operand} {ats:Array TypeId} {τs:List I} {ρ:I} (ea:bR c.P f) (h:b9 c.P f τs ρ) (ak:gV c E L xs τs):
 bO c E L ⟨d,.call ⟨.value (.func f),xs.toArray,ats⟩,ty,pos,af,g⟩ ρ:=fun a W s=>by
 refine .te (f:=f) (args:=(xs.map a.eval).toArray) (W':=W) ?_ (h _ W _ s.BP (ak.holds a W s))
 simp [execOp,resolve,Deferred.ofValue,Act.eval,invoke,ea.run]
theorem qh {P:Program} {W:World} {t off:Nat} {cs:Array Value} {α:Type} [ae α] {A:List Nat} {x:α} (ty:bq P t α) (hs:off + ae.size α≤cs.size)
 (aQ:ae.rep A W ((cs.toList.drop off).take (ae.size α)) x):∃ v,(part t cs off).run P W= .ok v W∧ (I.of x).holds A W v:=by
 have ar:=ae.len aQ
 cases bg:ae.agg α with
 | true=>
   refine⟨.agg (cs.extract off (off + ae.size α)),?_,?_,?_⟩
   ·simp [part,ty.isAgg,ty.sizeOf,bg]
   ·simp [shaped,bg]
   ·simpa [Value.cells,List.extract,Array.toList_extract] using aQ
 | false=>
   have J:ae.size α=1:=ae.flat bg
   have b5:off < cs.size:=by omega
   have ad:(cs.toList.drop off).take (ae.size α)= [cs[off]]:=by
    rw [J]
    apply List.ext_getElem?
    intro j
    rw [List.getElem?_take,List.getElem?_drop]
    cases j with
    | zero=>simp [b5]
    | succ j=>simp
   rw [ad] at aQ
   have ax:cs[off].oneCell'=true:=ae.one aQ _ (by simp)
   refine⟨cs[off],?_,?_,?_⟩
   ·simp [part,ty.isAgg,bg,b5]
   ·simp [shaped,bg,ax]
   ·rw [nM ax]; simpa using aQ
structure HE (P:Program) (s f t o:Nat):Prop where
 at_:∃ fs fd,P.underlying s=some (.struct fs)∧fs[f]? =some fd∧fd.offset=o∧fd.type=t
theorem ER {x:Operand} {s f t o:Nat} {β γ:Type} [ae β] [ae γ] {b:β} (l:aO β γ) {r:γ} (XE:HE c.P s f t o) (ef:bq c.P t γ) (bg:ae.agg β=true) (ak:a4 c E L x (.of b)) (a6:l.off=o) (aQ:l.get b=r):
 bO c E L ⟨d,.field s x f,ty,pos,af,g⟩ (.of r):= .pure fun a W st=>by
 subst a6
 subst aQ
 obtain⟨J,ad⟩:=ak a W st
 simp only [shaped,bg,if_true] at J
 obtain⟨cs,su⟩:=J
 obtain⟨fs,fd,ax,aR,aW,bc⟩:=XE.at_
 rw [su] at ad
 simp only [Value.cells] at ad
 have ar:cs.toList.length=ae.size β:=ae.len ad
 obtain⟨v,cn,eo⟩:=qh (A:=aJ L ++ c.bM) (P:=c.P) (W:=W) (cs:=cs) (off:=l.off) ef (by have:=l.fI; simp at ar; omega) (l.hN ad)
 refine⟨v,?_,eo⟩
 simp [execOp,Instr.field,run_underlying ax,aR,su,asAgg,aW,bc,cn]
theorem lC {x:Operand} {i:Nat} {τs:List I} {τ:I} (ak:a4 c E L x (.eA τs)) (aq:τs[i]? =some τ):bO c E L ⟨d,.extract x i,ty,pos,af,g⟩ τ:= .pure fun a W st=>by
 obtain⟨vs,J,ad⟩:=ak a W st
 have get:∀ {τs:List I} {vs:List Value},fM (aJ L ++ c.bM) W τs vs→ ∀ (i:Nat) (τ:I),τs[i]? =some τ→ ∃ v,vs[i]? =some v∧τ.holds (aJ L ++ c.bM) W v:=by
  intro τs vs h
  induction h with
  | nil=>intro i τ h; simp at h
  | cons J _ bz=>
    intro i τ h
    cases i with
    | zero=>simp only [List.getElem?_cons_zero,Option.some.injEq] at h; subst h; exact⟨_,rfl,J⟩
    | succ i=>simp only [List.getElem?_cons_succ] at h ⊢; exact bz i τ h
 obtain⟨v,ax,aR⟩:=get ad i τ aq
 refine⟨v,?_,aR⟩
 have aW:vs[i]? =some v:=by simpa using ax
 simp [execOp,Instr.extract,J,aW]
end
end Gv
namespace Gv
open Go
set_option linter.unusedVariables false
set_option linter.unusedSimpArgs false
def bu (x:Int):Int:=IntKind.i64.wrap x
theorem hO {x:Int} (h: -9223372036854775808≤x) (cV:x≤9223372036854775807):bu x=x:=by
 unfold bu
 rw [IntKind.wrap_i64]
 omega
def se (a b:Int):Option Int:=if b=0 then none else some (a.tmod b)
theorem Em {a b r:Int} (h:se a b=some r):b≠0∧a.tmod b=r:=by unfold se at h; split at h <;> simp_all
theorem wrap_u64 (n:Int):IntKind.u64.wrap n=n % 18446744073709551616:=by simp [IntKind.wrap,IntKind.signed,IntKind.bits]
theorem RD (P:Program) (W:World) (k HF:IntKind) (a b:Int) (h:0≤b):(Op.shift .shl k a HF b).run P W= .ok (.int k (k.wrap (a * 2 ^ min b.toNat k.bits))) W:=by
 unfold Op.shift
 rw [if_neg (by omega)]
 rfl
theorem RE (P:Program) (W:World) (k HF:IntKind) (a b:Int) (h:0≤b):(Op.shift .shr k a HF b).run P W= .ok (.int k (a.fdiv (2 ^ min b.toNat k.bits))) W:=by
 unfold Op.shift
 rw [if_neg (by omega)]
 rfl
section
variable {c:cT} {E:List (Nat × I)} {L:List aF}
variable {d:Option Tmp} {ty:TypeId} {pos:String} {af:Array Edge} {g:Option (Nat × Bool)} {x y:Operand} {t t2:TypeId}
theorem ep {a b:Int} (ak:a4 c E L x (.of a)) (a7:a4 c E L y (.of b)):bO c E L ⟨d,.binOp .add t x y t2,ty,pos,af,g⟩ (.of (bu (a + b))):= .pure fun A W s=>
 ⟨.int .i64 (bu (a + b)),by simp [execOp,eqGuard,binOp,Op.intArith,of_int.1 (ak A W s),of_int.1 (a7 A W s),bu],of_int.2 rfl⟩
theorem kn {a b:Int} (ak:a4 c E L x (.of a)) (a7:a4 c E L y (.of b)):bO c E L ⟨d,.binOp .sub t x y t2,ty,pos,af,g⟩ (.of (bu (a - b))):= .pure fun A W s=>
 ⟨.int .i64 (bu (a - b)),by simp [execOp,eqGuard,binOp,Op.intArith,of_int.1 (ak A W s),of_int.1 (a7 A W s),bu],of_int.2 rfl⟩
theorem TB {a b:Int} (ak:a4 c E L x (.of a)) (a7:a4 c E L y (.of b)):bO c E L ⟨d,.binOp .mul t x y t2,ty,pos,af,g⟩ (.of (bu (a * b))):= .pure fun A W s=>
 ⟨.int .i64 (bu (a * b)),by simp [execOp,eqGuard,binOp,Op.intArith,of_int.1 (ak A W s),of_int.1 (a7 A W s),bu],of_int.2 rfl⟩
theorem Fu {a b r:Int} (ak:a4 c E L x (.of a)) (a7:a4 c E L y (.of b)) (h:b≠0∧a.tmod b=r):bO c E L ⟨d,.binOp .rem t x y t2,ty,pos,af,g⟩ (.of r):= .pure fun A W s=>
 ⟨.int .i64 r,by obtain⟨J,rfl⟩:=h; simp [execOp,eqGuard,binOp,Op.intDiv,of_int.1 (ak A W s),of_int.1 (a7 A W s),J],of_int.2 rfl⟩
theorem gr {a b:Int} (ak:a4 c E L x (.of a)) (a7:a4 c E L y (.of b)):bO c E L ⟨d,.binOp .lss t x y t2,ty,pos,af,g⟩ (.of (decide (a < b))):= .pure fun A W s=>
 ⟨.bool (decide (a < b)),by simp only [execOp,eqGuard,binOp,of_int.1 (ak A W s),of_int.1 (a7 A W s)]; rfl,of_bool.2 rfl⟩
theorem yG {a b:Int} (ak:a4 c E L x (.of a)) (a7:a4 c E L y (.of b)):bO c E L ⟨d,.binOp .leq t x y t2,ty,pos,af,g⟩ (.of (decide (a≤b))):= .pure fun A W s=>
 ⟨.bool (decide (a≤b)),by simp only [execOp,eqGuard,binOp,of_int.1 (ak A W s),of_int.1 (a7 A W s)]; rfl,of_bool.2 rfl⟩
theorem qx {a b:Int} (ak:a4 c E L x (.of a)) (a7:a4 c E L y (.of b)):bO c E L ⟨d,.binOp .gtr t x y t2,ty,pos,af,g⟩ (.of (decide (a > b))):= .pure fun A W s=>
 ⟨.bool (decide (a > b)),by simp only [execOp,eqGuard,binOp,of_int.1 (ak A W s),of_int.1 (a7 A W s)]; rfl,of_bool.2 rfl⟩
theorem nX {a b:Int} (ak:a4 c E L x (.of a)) (a7:a4 c E L y (.of b)):bO c E L ⟨d,.binOp .geq t x y t2,ty,pos,af,g⟩ (.of (decide (a≥b))):= .pure fun A W s=>
 ⟨.bool (decide (a≥b)),by simp only [execOp,eqGuard,binOp,of_int.1 (ak A W s),of_int.1 (a7 A W s)]; rfl,of_bool.2 rfl⟩
theorem gP {a b:Int} (ak:a4 c E L x (.of a)) (a7:a4 c E L y (.of b)):bO c E L ⟨d,.binOp .eql t x y t2,ty,pos,af,g⟩ (.of (a ==b)):= .pure fun A W s=>
 ⟨.bool (a ==b),by simp only [execOp,eqGuard,binOp,of_int.1 (ak A W s),of_int.1 (a7 A W s)]; rfl,of_bool.2 rfl⟩
theorem oG {a b:Int} (ak:a4 c E L x (.of a)) (a7:a4 c E L y (.of b)):bO c E L ⟨d,.binOp .neq t x y t2,ty,pos,af,g⟩ (.of (a !=b)):= .pure fun A W s=>
 ⟨.bool (a !=b),by simp only [execOp,eqGuard,binOp,of_int.1 (ak A W s),of_int.1 (a7 A W s)]; rfl,of_bool.2 rfl⟩
theorem yF {a b:Int} {ats:Array TypeId} (ak:a4 c E L x (.of a)) (a7:a4 c E L y (.of b)):bO c E L ⟨d,.call ⟨.builtin .min,#[x,y],ats⟩,ty,pos,af,g⟩ (.of (min a b)):= .pure fun A W s=>
 ⟨.int .i64 (min a b),by
   simp [execOp,resolve,invoke,builtin,Builtin.min_,Builtin.min2,of_int.1 (ak A W s),of_int.1 (a7 A W s)]
   split <;> omega,of_int.2 rfl⟩
theorem BX {a b:Int} {ats:Array TypeId} (ak:a4 c E L x (.of a)) (a7:a4 c E L y (.of b)):bO c E L ⟨d,.call ⟨.builtin .max,#[x,y],ats⟩,ty,pos,af,g⟩ (.of (max a b)):= .pure fun A W s=>
 ⟨.int .i64 (max a b),by
   simp [execOp,resolve,invoke,builtin,Builtin.max_,Builtin.max2,of_int.1 (ak A W s),of_int.1 (a7 A W s)]
   split <;> omega,of_int.2 rfl⟩
theorem Uj (a:BitVec 8):(a.toNat:Int) < 256:=by have:=a.isLt; omega
theorem S8 {a:BitVec 8} {src dst:TypeId} {e:TypeDesc} (hs:c.P.underlying src=some e) (hd:c.P.underlying dst=some (.int .i64)) (ak:a4 c E L x (.of a)):bO c E L ⟨d,.convert src dst x,ty,pos,af,g⟩ (.of (a.toNat:Int)):= .pure fun A W s=>
 ⟨.int .i64 a.toNat,by
   have h:IntKind.i64.wrap (a.toNat:Int)=(a.toNat:Int):=hO (by omega) (by have:=Uj a; omega)
   simp only [execOp,convert,Sem.run_bind,run_underlying hs,run_underlying hd,Uh.1 (ak A W s),Conv.intToInt,Result.andThen_ok,h]; rfl,of_int.2 rfl⟩
theorem yz (a:BitVec 64):(a.toNat:Int) < 18446744073709551616:=by have:=a.isLt; omega
theorem ofInt_u64 (a:BitVec 64):BitVec.ofInt 64 (a.toNat:Int)=a:=by simp
theorem RF (a b:BitVec 64):IntKind.u64.wrap ((a.toNat:Int) + (b.toNat:Int))=((a + b).toNat:Int):=by rw [wrap_u64,BitVec.toNat_add]; omega
theorem Rv {a b:BitVec 64} (ak:a4 c E L x (.of a)) (a7:a4 c E L y (.of b)):bO c E L ⟨d,.binOp .add t x y t2,ty,pos,af,g⟩ (.of (a + b)):= .pure fun A W s=>
 ⟨.int .u64 (a + b).toNat,by simp [execOp,eqGuard,binOp,Op.intArith,gN.1 (ak A W s),gN.1 (a7 A W s),RF],gN.2 rfl⟩
theorem RG (a b:BitVec 64):IntKind.u64.wrap ((a.toNat:Int) - (b.toNat:Int))=((a - b).toNat:Int):=by rw [wrap_u64,BitVec.toNat_sub]; have:=yz a; have:=yz b; omega
theorem ti {a b:BitVec 64} (ak:a4 c E L x (.of a)) (a7:a4 c E L y (.of b)):bO c E L ⟨d,.binOp .sub t x y t2,ty,pos,af,g⟩ (.of (a - b)):= .pure fun A W s=>
 ⟨.int .u64 (a - b).toNat,by simp [execOp,eqGuard,binOp,Op.intArith,gN.1 (ak A W s),gN.1 (a7 A W s),RG],gN.2 rfl⟩
theorem tj {a b:BitVec 64} (ak:a4 c E L x (.of a)) (a7:a4 c E L y (.of b)):bO c E L ⟨d,.binOp .and t x y t2,ty,pos,af,g⟩ (.of (a &&& b)):= .pure fun A W s=>
 ⟨.int .u64 (a &&& b).toNat,by
   simp only [execOp,eqGuard,binOp,gN.1 (ak A W s),gN.1 (a7 A W s)]
   have h:IntKind.u64.wrap ((a &&& b).toNat:Int)=((a &&& b).toNat:Int):=by rw [wrap_u64]; have:=yz (a &&& b); omega
   rw [← h]
   conv=>rhs; rw [← ofInt_u64 a,← ofInt_u64 b]
   rfl,gN.2 rfl⟩
theorem vK {a b:BitVec 64} (ak:a4 c E L x (.of a)) (a7:a4 c E L y (.of b)):bO c E L ⟨d,.binOp .or t x y t2,ty,pos,af,g⟩ (.of (a ||| b)):= .pure fun A W s=>
 ⟨.int .u64 (a ||| b).toNat,by
   simp only [execOp,eqGuard,binOp,gN.1 (ak A W s),gN.1 (a7 A W s)]
   have h:IntKind.u64.wrap ((a ||| b).toNat:Int)=((a ||| b).toNat:Int):=by rw [wrap_u64]; have:=yz (a ||| b); omega
   rw [← h]
   conv=>rhs; rw [← ofInt_u64 a,← ofInt_u64 b]
   rfl,gN.2 rfl⟩
theorem JY {a b:BitVec 64} (ak:a4 c E L x (.of a)) (a7:a4 c E L y (.of b)):bO c E L ⟨d,.binOp .xor t x y t2,ty,pos,af,g⟩ (.of (a ^^^ b)):= .pure fun A W s=>
 ⟨.int .u64 (a ^^^ b).toNat,by
   simp only [execOp,eqGuard,binOp,gN.1 (ak A W s),gN.1 (a7 A W s)]
   have h:IntKind.u64.wrap ((a ^^^ b).toNat:Int)=((a ^^^ b).toNat:Int):=by rw [wrap_u64]; have:=yz (a ^^^ b); omega
   rw [← h]
   conv=>rhs; rw [← ofInt_u64 a,← ofInt_u64 b]
   rfl,gN.2 rfl⟩
theorem RH (a:BitVec 64) (n:Nat):IntKind.u64.wrap ((a.toNat:Int) * 2 ^ min n 64)=((a <<< n).toNat:Int):=by
 rw [wrap_u64,BitVec.toNat_shiftLeft,Nat.shiftLeft_eq]
 rcases Nat.lt_or_ge n 64 with h | h
 ·rw [Nat.min_eq_left (by omega)]; simp
 ·rw [Nat.min_eq_right h]
  have e:(a.toNat * 2 ^ n) % 2 ^ 64=0:=by
   rw [show n=64 + (n - 64) by omega,Nat.pow_add]
   exact Nat.mod_eq_zero_of_dvd ⟨a.toNat * 2 ^ (n - 64),by rw [← Nat.mul_assoc,Nat.mul_comm a.toNat,Nat.mul_assoc]⟩
  rw [e]
  have bd:(2:Int) ^ 64=18446744073709551616:=by decide
  rw [bd]; omega
theorem RI (a:BitVec 64) (n:Nat):(a.toNat:Int).fdiv (2 ^ min n 64)=((a >>> n).toNat:Int):=by
 rw [BitVec.toNat_ushiftRight,Nat.shiftRight_eq_div_pow]
 have e:∀ m:Nat,(a.toNat:Int).fdiv (2 ^ m)=((a.toNat / 2 ^ m:Nat):Int):=by
  intro m
  rw [show((2:Int) ^ m)=((2 ^ m:Nat):Int) by simp]
  rw [Int.fdiv_eq_ediv_of_nonneg _ (Int.natCast_nonneg _)]
  exact(Int.natCast_ediv _ _).symm
 rw [e]
 rcases Nat.lt_or_ge n 64 with h | h
 ·rw [Nat.min_eq_left (by omega)]
 ·rw [Nat.min_eq_right h]
  have J:a.toNat / 2 ^ 64=0:=Nat.div_eq_of_lt a.isLt
  have ad:a.toNat / 2 ^ n=0:=Nat.div_eq_of_lt (Nat.lt_of_lt_of_le a.isLt (Nat.pow_le_pow_right (by omega) h))
  rw [J,ad]
theorem nP {a:BitVec 64} {b:BitVec 64} (ak:a4 c E L x (.of a)) (a7:a4 c E L y (.of b)):bO c E L ⟨d,.binOp .shl t x y t2,ty,pos,af,g⟩ (.of (a <<< b.toNat)):= .pure fun A W s=>
 ⟨.int .u64 (a <<< b.toNat).toNat,by
   simp only [execOp,eqGuard,binOp,gN.1 (ak A W s),gN.1 (a7 A W s)]
   have h:=RD c.P W .u64 .u64 a.toNat b.toNat (by omega)
   simp only [Int.toNat_natCast,IntKind.bits,RH] at h
   exact congrArg (fun r:Result Value=>r.andThen fun v w=> .ok (Next.value v) w) h,gN.2 rfl⟩
theorem ye {a:BitVec 64} {b:BitVec 64} (ak:a4 c E L x (.of a)) (a7:a4 c E L y (.of b)):bO c E L ⟨d,.binOp .shr t x y t2,ty,pos,af,g⟩ (.of (a >>> b.toNat)):= .pure fun A W s=>
 ⟨.int .u64 (a >>> b.toNat).toNat,by
   simp only [execOp,eqGuard,binOp,gN.1 (ak A W s),gN.1 (a7 A W s)]
   have h:=RE c.P W .u64 .u64 a.toNat b.toNat (by omega)
   simp only [Int.toNat_natCast,IntKind.bits,RI] at h
   exact congrArg (fun r:Result Value=>r.andThen fun v w=> .ok (Next.value v) w) h,gN.2 rfl⟩
theorem ES {a b:BitVec 64} (ak:a4 c E L x (.of a)) (a7:a4 c E L y (.of b)):bO c E L ⟨d,.binOp .eql t x y t2,ty,pos,af,g⟩ (.of (a ==b)):= .pure fun A W s=>
 ⟨.bool (a ==b),by
   simp only [execOp,eqGuard,binOp,gN.1 (ak A W s),gN.1 (a7 A W s)]
   have h:((a.toNat:Int) ==(b.toNat:Int))=(a ==b):=by
    rw [Bool.eq_iff_iff]; simp [bne]; exact⟨fun h=>BitVec.eq_of_toNat_eq (by omega),fun h=>by rw [h]⟩
   rw [← h]; rfl,of_bool.2 rfl⟩
theorem Ru {a b:BitVec 64} (ak:a4 c E L x (.of a)) (a7:a4 c E L y (.of b)):bO c E L ⟨d,.binOp .neq t x y t2,ty,pos,af,g⟩ (.of (a !=b)):= .pure fun A W s=>
 ⟨.bool (a !=b),by
   simp only [execOp,eqGuard,binOp,gN.1 (ak A W s),gN.1 (a7 A W s)]
   have h:((a.toNat:Int) !=(b.toNat:Int))=(a !=b):=by
    rw [Bool.eq_iff_iff]; simp [bne]; exact⟨fun h=>fun e=>h (by rw [e]),fun h=>by intro e; exact h (BitVec.eq_of_toNat_eq (by omega))⟩
   rw [← h]; rfl,of_bool.2 rfl⟩
theorem iZ {a:Int} {src dst:TypeId} {e:TypeDesc} (hs:c.P.underlying src=some e) (hd:c.P.underlying dst=some (.int .u64)) (ak:a4 c E L x (.of a)):bO c E L ⟨d,.convert src dst x,ty,pos,af,g⟩ (.of (BitVec.ofInt 64 a)):= .pure fun A W s=>
 ⟨.int .u64 (BitVec.ofInt 64 a).toNat,by
   have h:IntKind.u64.wrap a=((BitVec.ofInt 64 a).toNat:Int):=by rw [wrap_u64,BitVec.toNat_ofInt]; omega
   simp [execOp,convert,run_underlying hs,run_underlying hd,of_int.1 (ak A W s),Conv.intToInt,h],gN.2 rfl⟩
theorem Sf {a:BitVec 64} {src dst:TypeId} {e:TypeDesc} (hs:c.P.underlying src=some e) (hd:c.P.underlying dst=some (.int .i64)) (ak:a4 c E L x (.of a)):bO c E L ⟨d,.convert src dst x,ty,pos,af,g⟩ (.of (bu a.toNat)):= .pure fun A W s=>
 ⟨.int .i64 (bu a.toNat),by
   simp only [execOp,convert,Sem.run_bind,run_underlying hs,run_underlying hd,gN.1 (ak A W s),Conv.intToInt,Result.andThen_ok]; rfl,of_int.2 rfl⟩
end
end Gv
namespace Gv
open Go
set_option linter.unusedVariables false
set_option linter.unusedSimpArgs false
def tu (tmps:Array Value):ResultVar→Sem Value
 | .tmp t=>pure (tmps.getD t undef)
 | .cell a t=>do loadVar t (← asAddr (tmps.getD a undef))
theorem vx (fn:Func) (tmps:Array Value):results fn tmps=(do
 let vs ← fn.results.mapM (tu tmps)
 pure (if h:vs.size=1 then vs[0] else .tuple vs)):=by
 unfold results
 congr 1
section
variable {c:cT} {E:List (Nat × I)} {L:List aF} {ops:Array Oper} {Q:Exit→Act→World→Prop}
def rl (c:cT) (E:List (Nat × I)) (L:List aF) (r:ResultVar) (τ:I):Prop:=
 ∀ a W,bs c E L a W→ ∃ v,(tu a.tmps r).run c.P W= .ok v W∧τ.holds c.bM W v
theorem tS {t:Nat} {τ:I} (h:look E t=some τ):rl c E L (.tmp t) τ:=fun a W s=>by
 obtain⟨v,J,ad⟩:=s.env t τ h
 exact⟨v,by simp [tu,J],IN ad⟩
theorem VI {t:Nat} {ty:TypeId} {i p:Nat} {α:Type} [ae α] {x:α} (ef:bq c.P ty α) (h:look E t=some (.eq (.pointer (some ⟨p,0,none⟩)))) (an:L[i]? =some ⟨some p,.var x⟩):rl c E L (.cell t ty) (.of x):=fun a W s=>by
 obtain⟨v,J,ad⟩:=s.env t _ h
 subst ad
 obtain⟨jq,ed,cs,T,rfl,fq⟩:=s.own _ (List.mem_of_getElem? an)
 have ar:cs.toList.length=ae.size α:=ae.len fq
 have dL:cs.size=ae.size α:=by simpa using ar
 obtain⟨v,ax,aR⟩:=sW (A:=aJ L ++ c.bM) (off:=0) ef ed (by omega) (by rw [List.drop_zero,← ar,List.take_length]; exact fq)
 exact⟨v,by simp [tu,J,asAddr,ax],IN aR⟩
def uc (c:cT) (ρ:I):Ending→World→Prop:=fun e W'=> ∃ v,e= .returned v∧Fr c.X c.iC W'∧ρ.holds c.bM W' v
theorem ah.je {fn:Func} {r:ResultVar} {τ:I} (aQ:fn.results= #[r]) (h:rl c E L r τ) (hv:c.ds= []:=by rfl):ah c (bodyPost c.P fn (uc c τ)) .ret E L:=fun a W s=>by
 obtain⟨v,J,ad⟩:=h a W s
 exact⟨s.vz hv,v,by simp [vx,aQ,J],v,rfl,s.dm,ad⟩
theorem ah.Ck {fn:Func} {r gJ:ResultVar} {τ o3:I} (aQ:fn.results= #[r,gJ]) (h:rl c E L r τ) (ad:rl c E L gJ o3) (hv:c.ds= []:=by rfl):ah c (bodyPost c.P fn (uc c (.eA [τ,o3]))) .ret E L:=fun a W s=>by
 obtain⟨v,ax,aR⟩:=h a W s
 obtain⟨v2,aW,bc⟩:=ad a W s
 exact⟨s.vz hv,.tuple #[v,v2],by simp [vx,aQ,ax,aW],_,rfl,s.dm,_,rfl,.cons aR (.cons bc .nil)⟩
theorem ah.L8 {fn:Func} {r gJ pj:ResultVar} {τ o3 M1:I} (aQ:fn.results= #[r,gJ,pj]) (h:rl c E L r τ) (ad:rl c E L gJ o3) (ax:rl c E L pj M1) (hv:c.ds= []:=by rfl):ah c (bodyPost c.P fn (uc c (.eA [τ,o3,M1]))) .ret E L:=fun a W s=>by
 obtain⟨v,aR,aW⟩:=h a W s
 obtain⟨v2,bc,cn⟩:=ad a W s
 obtain⟨XF,eo,fx⟩:=ax a W s
 exact⟨s.vz hv,.tuple #[v,v2,XF],by simp [vx,aQ,aR,bc,eo],_,rfl,s.dm,_,rfl,.cons aW (.cons cn (.cons fx .nil))⟩
theorem b9.of {P:Program} {f:FuncId} {fn:Func} {code:Code} {n:Nat} {τs:List I} {ρ:I} (a0:P.funcs[f]? =some fn) (hb:fn.body=some code) (aL:fn.ntmps=n) (hlen:Nat.ble τs.length n=true)
 (h:∀ W A,ai ⟨P,n,W,[],A,none,[]⟩ (bodyPost P fn (uc ⟨P,n,W,[],A,none,[]⟩ ρ)) code (params 0 τs) []):b9 P f τs ρ:=b9.enter a0 hb aL hlen h
end
structure lk (P:Program) (t:TypeId) (α:Type) [ae α] [DecidableEq α] (k:Nat):Prop where
 run:∀ d,k≤d→ ∀ A W u v (x y:α),(I.of x).holds A W u→ (I.of y).holds A W v→ (Op.equalIn d t u v).run P W= .ok (decide (x=y)) W
theorem J6 {P t K} (h:P.underlying t=some (.int K)):lk P t Int 1 where
 run d hd A W u v x y ak a7:=by
  obtain⟨d,rfl⟩:∃ e,d=e + 1:=⟨d - 1,by omega⟩
  rw [of_int.1 ak,of_int.1 a7,run_equalIn_int W d t .i64 K x y h]
  congr 1
theorem RJ {P t K} (h:P.underlying t=some (.int K)):lk P t (BitVec 64) 1 where
 run d hd A W u v x y ak a7:=by
  obtain⟨d,rfl⟩:∃ e,d=e + 1:=⟨d - 1,by omega⟩
  rw [gN.1 ak,gN.1 a7,run_equalIn_int W d t .u64 K _ _ h]
  congr 1
  rw [Bool.eq_iff_iff]; simp only [beq_iff_eq,decide_eq_true_eq]
  exact⟨fun h=>BitVec.eq_of_toNat_eq (by omega),fun h=>by rw [h]⟩
theorem Q7 {P t} (h:P.underlying t=some .bool):lk P t Bool 1 where
 run d hd A W u v x y ak a7:=by
  obtain⟨d,rfl⟩:∃ e,d=e + 1:=⟨d - 1,by omega⟩
  rw [of_bool.1 ak,of_bool.1 a7,run_equalIn_bool' W d t x y h]
  congr 1
theorem D1 {P:Program} {W:World} (f:Nat→Sem Bool) (p:Nat→Bool):∀ (l:List Nat),(∀ i∈l,(f i).run P W= .ok (p i) W)→
 (forIn (m:=Sem) l ((none,()):Option Bool × Unit) (fun i _=>do
  let __do_lift ← f i
  if (!__do_lift)=true then pure (ForInStep.done (some false,())) else
   pure (ForInStep.yield (none,())))).run P W= .ok (if l.all p then(none,()) else(some false,())) W
 | [],_=>by simp
 | i :: r,h=>by
   have J:=h i (by simp)
   have ad:=D1 (P:=P) (W:=W) f p r (fun j aC=>h j (by simp [aC]))
   cases hp:p i with
   | false=>simp [List.forIn_cons,J,hp]
   | true=>
     rw [List.forIn_cons]
     simp only [Sem.run_bind,J,hp,Result.andThen_ok,Bool.not_true,Bool.false_eq_true,if_false,Sem.run_pure]
     rw [ad]
     simp [hp]
theorem J7 {P t e n k} {α:Type} [ae α] [Inhabited α] [DecidableEq α] (h:P.underlying t=some (.array n e)) (eg:bq P e α) (he:lk P e α k):lk P t (Vector α n) (k + 1) where
 run d hd A W u v x y ak a7:=by
  obtain⟨d,rfl⟩:∃ e,d=e + 1:=⟨d - 1,by omega⟩
  obtain⟨J,ad⟩:=ak
  obtain⟨ax,aR⟩:=a7
  obtain⟨xs,rfl⟩:∃ cs,u= .agg cs:=by simpa [shaped,ae.agg] using J
  obtain⟨ys,rfl⟩:∃ cs,v= .agg cs:=by simpa [shaped,ae.agg] using ax
  simp only [Value.cells] at ad aR
  have q2:xs.toList.length=n * ae.size α:=ae.len ad
  have zG:ys.toList.length=n * ae.size α:=ae.len aR
  have qE:∀ i∈List.range' 0 n,((do
   let a ← part e xs (i * ae.size α)
   let b ← part e ys (i * ae.size α)
   Op.equalIn d e a b):Sem Bool).run P W= .ok (decide (cg x i=cg y i)) W:=by
   intro i aq
   have fY:i < n:=by simpa using aq
   have ec:i * ae.size α + ae.size α≤n * ae.size α:=(aO.idx (α:=α) n i fY).fI
   obtain⟨a,bg,q3⟩:=qh (A:=A) (P:=P) (W:=W) (cs:=xs) (off:=i * ae.size α) eg (by simp at q2; omega) ((aO.idx (α:=α) n i fY).hN ad)
   obtain⟨b,hb,zH⟩:=qh (A:=A) (P:=P) (W:=W) (cs:=ys) (off:=i * ae.size α) eg (by simp at zG; omega) ((aO.idx (α:=α) n i fY).hN aR)
   simp only [Sem.run_bind,bg,hb,Result.andThen_ok]
   exact he.run d (by omega) A W a b _ _ q3 zH
  have a0:=D1 (P:=P) (W:=W) _ _ _ qE
  have jN:(List.range' 0 n).all (fun i=>decide (cg x i=cg y i))=decide (x=y):=by
   rw [Bool.eq_iff_iff,List.all_eq_true,decide_eq_true_eq]
   constructor
   ·intro h
    apply Vector.ext
    intro i aq
    have:=h i (by simpa using aq)
    simpa [cg,aq] using this
   ·rintro rfl i _
    simp
  rw [jN] at a0
  simp only [Op.equalIn,Sem.run_bind,run_underlying h,Result.andThen_ok,eg.sizeOf,Std.Legacy.Range.forIn_eq_forIn_range']
  simp only [Std.Legacy.Range.size,Nat.sub_zero,Nat.add_one_sub_one,Nat.div_one] at a0 ⊢
  simp only [bind_assoc] at a0
  rw [a0]
  by_cases zI:x=y
  ·simp [zI]
  ·simp [zI]
end Gv
namespace Gv
open Go
set_option linter.unusedVariables false
set_option linter.unusedSimpArgs false
section
variable {c:cT} {E:List (Nat × I)} {L:List aF} {ops:Array Oper} {Q:Exit→Act→World→Prop}
variable {d:Option Tmp} {ty:TypeId} {pos:String} {af:Array Edge} {g:Option (Nat × Bool)} {x y:Operand} {t t2:TypeId}
theorem TN {α:Type} [ae α] [DecidableEq α] {k:Nat} {a b:α} (uV:lk c.P t α k) (au:Nat.ble k 10000=true) (bx:c.P.eqGuardType c.P.depth t=false) (bg:ae.agg α=true) (ak:a4 c E L x (.of a)) (a7:a4 c E L y (.of b)):
 bO c E L ⟨d,.binOp .eql t x y t2,ty,pos,af,g⟩ (.of (decide (a=b))):= .pure fun A W s=>by
 have J:=ak A W s
 have ad:=a7 A W s
 obtain⟨xs,gR⟩:∃ cs,A.eval x= .agg cs:=by simpa [shaped,bg] using J.1
 obtain⟨ys,sv⟩:∃ cs,A.eval y= .agg cs:=by simpa [shaped,bg] using ad.1
 have ax:=uV.run 10000 (Nat.le_of_ble_eq_true au) _ W _ _ a b J ad
 rw [gR,sv] at ax
 refine⟨.bool (decide (a=b)),?_,of_bool.2 rfl⟩
 simp only [execOp,gR,sv,Sem.run_bind,run_eqGuard_agg W .eql t x y xs ys bx,Result.andThen_ok,run_eql_struct,ax,Sem.run_pure]
theorem S1 {α:Type} [ae α] [DecidableEq α] {k:Nat} {a b:α} (uV:lk c.P t α k) (au:Nat.ble k 10000=true) (bx:c.P.eqGuardType c.P.depth t=false) (bg:ae.agg α=true) (ak:a4 c E L x (.of a)) (a7:a4 c E L y (.of b)):
 bO c E L ⟨d,.binOp .neq t x y t2,ty,pos,af,g⟩ (.of (!decide (a=b))):= .pure fun A W s=>by
 have J:=ak A W s
 have ad:=a7 A W s
 obtain⟨xs,gR⟩:∃ cs,A.eval x= .agg cs:=by simpa [shaped,bg] using J.1
 obtain⟨ys,sv⟩:∃ cs,A.eval y= .agg cs:=by simpa [shaped,bg] using ad.1
 have ax:=uV.run 10000 (Nat.le_of_ble_eq_true au) _ W _ _ a b J ad
 rw [gR,sv] at ax
 refine⟨.bool (!decide (a=b)),?_,of_bool.2 rfl⟩
 simp only [execOp,gR,sv,Sem.run_bind,run_eqGuard_agg W .neq t x y xs ys bx,Result.andThen_ok,run_neq_struct,ax,Sem.run_pure]
end
theorem J8 {P:Program} {W:World} {d:Nat} {xs ys:Array Value} :(Op.eqFields d xs ys []).run P W= .ok true W:=rfl
theorem tf {P:Program} {A:List Nat} {W:World} {d:Nat} {xs ys:Array Value} {β γ:Type} [ae β] [ae γ] [DecidableEq γ] (l:aO β γ) {HG HH:β} {fd:Field} {fs:List Field} {k:Nat} {r:Bool} (eg:bq P fd.type γ) (a6:fd.offset=l.off) (aL:(fd.name == "_")=false)
 (uV:lk P fd.type γ k) (hd:k≤d) (ak:ae.rep A W xs.toList HG) (a7:ae.rep A W ys.toList HH) (aQ:(Op.eqFields d xs ys fs).run P W= .ok r W):
 (Op.eqFields d xs ys (fd :: fs)).run P W= .ok (decide (l.get HG=l.get HH) && r) W:=by
 have q2:xs.toList.length=ae.size β:=ae.len ak
 have zG:ys.toList.length=ae.size β:=ae.len a7
 have ec:=l.fI
 obtain⟨a,bg,q3⟩:=qh (A:=A) (P:=P) (W:=W) (cs:=xs) (off:=l.off) eg (by simp at q2; omega) (l.hN ak)
 obtain⟨b,hb,zH⟩:=qh (A:=A) (P:=P) (W:=W) (cs:=ys) (off:=l.off) eg (by simp at zG; omega) (l.hN a7)
 have q4:fd.name≠ "_" :=fun e=>by rw [e] at aL; simp at aL
 simp only [Op.eqFields,if_pos q4,Sem.run_bind,a6,bg,hb,Result.andThen_ok,uV.run d hd A W a b _ _ q3 zH]
 by_cases h:l.get HG=l.get HH
 ·simp [h,aQ]
 ·simp [h]
theorem IQ {P:Program} {t:TypeId} {β:Type} [ae β] [DecidableEq β] {k:Nat} {fs:Array Field} (bg:ae.agg β=true) (hu:P.underlying t=some (.struct fs)) (hp:P.stoodInHeld t=false)
 (h:∀ d,k≤d→ ∀ A W (xs ys:Array Value) (x y:β),ae.rep A W xs.toList x→ae.rep A W ys.toList y→ (Op.eqFields d xs ys fs.toList).run P W= .ok (decide (x=y)) W):lk P t β (k + 1) where
 run d hd A W u v x y ak a7:=by
  obtain⟨d,rfl⟩:∃ e,d=e + 1:=⟨d - 1,by omega⟩
  obtain⟨xs,rfl⟩:∃ cs,u= .agg cs:=by simpa [shaped,bg] using ak.1
  obtain⟨ys,rfl⟩:∃ cs,v= .agg cs:=by simpa [shaped,bg] using a7.1
  have a0:P.fieldsOf t=fs:=by simp [Program.fieldsOf,hu]
  rw [run_equalIn_struct W d t xs ys (by rw [a0]; exact hu) hp,a0]
  exact h d (by omega) A W xs ys x y (by simpa [Value.cells] using ak.2) (by simpa [Value.cells] using a7.2)
theorem Iu {P:Program} {W:World} (fs:Array Field) (h:fs.all (fun f=>(P.info? f.type).isSome)=true):
 (fs.mapM (m:=Sem) fun f=>do pure (f.offset,← Go.sizeOf f.type)).run P W= .ok (fs.map fun f=>(f.offset,P.cellsOf f.type)) W:=by
 obtain⟨l⟩:=fs
 have key:∀ (l:List Field),l.all (fun f=>(P.info? f.type).isSome)=true→ (l.mapM (m:=Sem) fun f=>do pure (f.offset,← Go.sizeOf f.type)).run P W= .ok (l.map fun f=>(f.offset,P.cellsOf f.type)) W:=by
  intro l
  induction l with
  | nil=>intro _; rfl
  | cons f r bz=>
    intro h
    simp only [List.all_cons,Bool.and_eq_true] at h
    obtain⟨i,aq⟩:=Option.isSome_iff_exists.1 h.1
    rw [List.mapM_cons]
    simp only [Sem.run_bind,Go.sizeOf,typeInfo,run_program,Result.andThen_ok,aq,Sem.run_pure]
    have:=bz h.2
    simp only [Sem.run_bind,Go.sizeOf,typeInfo] at this
    rw [this]
    simp [Program.cellsOf,aq]
 have cV:l.all (fun f=>(P.info? f.type).isSome)=true:=by simpa using h
 rw [List.mapM_toArray]
 simp only [Sem.run_map,key l cV,Result.andThen_ok]
 simp
theorem PR (ds:List Value) (off:Nat):∀ (j:Nat) (cs:Array Value),off + j + ds.length≤cs.size→
 (ds.zipIdx j).foldl (fun cs (c,j)=>cs.setIfInBounds (off + j) c) cs=(cs.toList.take (off + j) ++ ds ++ cs.toList.drop (off + j + ds.length)).toArray:=by
 induction ds with
 | nil=>intro j cs _; simp
 | cons v r bz=>
   intro j cs h
   simp only [List.length_cons] at h
   rw [List.zipIdx_cons,List.foldl_cons,bz (j + 1) _ (by simp; omega)]
   simp only [Array.toList_setIfInBounds]
   have:=list_seg_step cs.toList (off + j) v r (by simp; omega)
   rw [show off + (j + 1)=off + j + 1 by omega]
   simp only [List.length_cons]
   rw [this]
theorem Br {place:Nat→Option (Nat × Nat)} {cs:Array Value} {i off sz:Nat} {v:Value} {rest:List (Nat × Value)} (hp:place i=some (off,sz)) (a3:v.cells.size=sz) (hle:off + sz≤cs.size):
 Instr.fill place cs ((i,v) :: rest)=Instr.fill place (fw cs.toList off v.cells.toList).toArray rest:=by
 simp only [Instr.fill,hp]
 rw [if_neg (by simp [a3]; omega)]
 have:=PR v.cells.toList off 0 cs (by simp [a3]; omega)
 simp only [Nat.add_zero] at this
 congr 1
 rw [← Array.foldl_toList]
 have dg:(v.cells.zipIdx).toList=v.cells.toList.zipIdx:=by simp
 rw [dg,this]
 simp [fw]
section
variable {c:cT} {E:List (Nat × I)} {L:List aF} {ops:Array Oper} {Q:Exit→Act→World→Prop}
variable {d:Option Tmp} {ty:TypeId} {pos:String} {af:Array Edge} {g:Option (Nat × Bool)} {x y:Operand} {t t2:TypeId}
inductive pM (c:cT) (E:List (Nat × I)) (L:List aF) (place:Nat→Option (Nat × Nat)) {β:Type} [ae β]:β→List (Nat × Operand)→β→Prop
 | nil {b} :pM c E L place b [] b
 | cons {b dH b':β} {γ:Type} [ae γ] {v:γ} {i:Nat} {x:Operand} {r:List (Nat × Operand)} (l:aO β γ):place i=some (l.off,ae.size γ)→a4 c E L x (.of v)→l.set b v=dH→pM c E L place dH r b'→pM c E L place b ((i,x) :: r) b'
theorem pM.run {place:Nat→Option (Nat × Nat)} {β:Type} [ae β] {b b':β} {bj:List (Nat × Operand)} (h:pM c E L place b bj b'):∀ a W,bs c E L a W→ ∀ cs:Array Value,ae.rep (aJ L ++ c.bM) W cs.toList b→
 ∃ dx,Instr.fill place cs (bj.map fun(i,x)=>(i,a.eval x))=some dx∧ae.rep (aJ L ++ c.bM) W dx.toList b':=by
 induction h with
 | nil=>intro a W s cs aQ; exact⟨cs,rfl,aQ⟩
 | @cons b dH b' γ _ v i x r l J ad ax _ bz=>
   intro a W s cs aQ
   subst ax
   have a3:=ad a W s
   have dL:(a.eval x).cells.size=ae.size γ:=by have:=ae.len a3.2; simpa using this
   have ar:cs.toList.length=ae.size β:=ae.len aQ
   have ec:=l.fI
   rw [List.map_cons,Br J dL (by simp at ar; omega)]
   refine bz a W s _ ?_
   have:=l.kk aQ a3.2
   simpa [fw,ae.len a3.2] using this
structure gU (P:Program) (t:TypeId) (pl:Array (Nat × Nat)):Prop where
 at_:∃ fs,P.underlying t=some (.struct fs)∧fs.all (fun f=>(P.info? f.type).isSome)=true∧ (fs.map fun f=>(f.offset,P.cellsOf f.type))=pl
theorem cA {β:Type} [ae β] {z b:β} {bj:List (Nat × Operand)} {pl:Array (Nat × Nat)} (bg:ae.agg β=true) (Af:gU c.P t pl) (fV:cc c.P t z)
 (a0:pM c E L (pl[·]?) z bj b):bO c E L ⟨d,.build t bj.toArray,ty,pos,af,g⟩ (.of b):= .pure fun a W s=>by
 obtain⟨fs,hu,hs,rfl⟩:=Af.at_
 obtain⟨i,dN,J,ad,ax⟩:=fV.zero
 obtain⟨dx,aR,aW⟩:=a0.run a W s dN.cells (ax _ _).2
 refine⟨.agg dx,?_,by simp [shaped,bg],by simpa [Value.cells] using aW⟩
 have hm:(bj.toArray.map fun(x:Nat × Operand)=>(x.1,a.eval x.2)).toList=bj.map fun(i,x)=>(i,a.eval x):=by simp
 simp only [execOp,Instr.build,Sem.run_bind,zeroValue,typeInfo,run_program,Result.andThen_ok,J,ad,Sem.run_pure,run_underlying hu,Iu fs hs]
 rw [hm,aR]
 rfl
theorem QZ {β:Type} [ae β] {z b:β} {bj:List (Nat × Operand)} {n e sz:Nat} (bg:ae.agg β=true) (hu:c.P.underlying t=some (.array n e)) (hs:(c.P.info? e).map (·.size)=some sz) (fV:cc c.P t z)
 (a0:pM c E L (fun i=>some (i * sz,sz)) z bj b):bO c E L ⟨d,.build t bj.toArray,ty,pos,af,g⟩ (.of b):= .pure fun a W s=>by
 obtain⟨i,dN,J,ad,ax⟩:=fV.zero
 obtain⟨fy,dP,dL⟩:∃ fy,c.P.info? e=some fy∧fy.size=sz:=by
  cases aq:c.P.info? e with
  | none=>simp [aq] at hs
  | some fy=>exact⟨fy,rfl,by simpa [aq] using hs⟩
 obtain⟨dx,aR,aW⟩:=a0.run a W s dN.cells (ax _ _).2
 refine⟨.agg dx,?_,by simp [shaped,bg],by simpa [Value.cells] using aW⟩
 have hm:(bj.toArray.map fun(x:Nat × Operand)=>(x.1,a.eval x.2)).toList=bj.map fun(i,x)=>(i,a.eval x):=by simp
 simp only [execOp,Instr.build,Sem.run_bind,zeroValue,typeInfo,run_program,Result.andThen_ok,J,ad,Sem.run_pure,run_underlying hu,Go.sizeOf,dP,dL]
 rw [hm,aR]
 rfl
end
def mX {α:Type} [ae α] (A:List Nat) (W:World) (v:Value) (xs:List α):Prop:=
 (v= .slice none 0 0∧xs= [])∨
 ∃ b off cap cur T ha,v= .slice (some ⟨b,off,none⟩) xs.length cap∧b ∉ A∧W.heap[b]? =some (.cells cur T ha)∧xs.length≤cap∧xs.length≤maxLen∧off + xs.length * ae.size α≤cur.size∧
   fQ A W ((cur.toList.drop off).take (xs.length * ae.size α)) xs
theorem mX.mono {α:Type} [ae α] {A W cN W' v} {xs:List α} (e:Ext A W cN W') (h:mX A W v xs):mX cN W' v xs:=by
 rcases h with h | ⟨b,off,cap,cur,T,ha,J,ad,ax,aR,aW,bc,cn⟩
 ·exact .inl h
 ·have b5:b < W.heap.size:=(Array.getElem?_eq_some_iff.1 ax).1
  exact .inr ⟨b,off,cap,cur,T,ha,J,fun hm=>ad (e.new b hm b5),by rw [e.block b b5 ad]; exact ax,aR,aW,bc,cn.mono e⟩
instance XU {α:Type} [ae α]:ae (List α) where
 size:=1
 agg:=false
 rep A W cs xs:= ∃ v,cs= [v]∧mX A W v xs
 len h:=by obtain⟨v,rfl,_⟩:=h; rfl
 one h:=by
  obtain⟨v,rfl,h⟩:=h
  intro u hu
  rw [List.mem_singleton.1 hu]
  rcases h with⟨rfl,_⟩ | ⟨b,off,cap,cur,T,ha,rfl,_⟩ <;> rfl
 flat _:=rfl
 mono e h:=let⟨v,J,ad⟩:=h; ⟨v,J,ad.mono e⟩
theorem mX.one {α:Type} [ae α] {A W v} {xs:List α} (h:mX A W v xs):v.oneCell'=true:=by
 rcases h with⟨rfl,_⟩ | ⟨b,off,cap,cur,T,ha,rfl,_⟩ <;> rfl
theorem lV {α:Type} [ae α] {A W v} {xs:List α} :(I.of xs).holds A W v↔mX A W v xs:=by
 constructor
 ·rintro ⟨J,u,ad,ax⟩
  have:v=u:=m6 J ad
  rw [this]; exact ax
 ·intro h
  exact⟨h.one,v,by rw [nM h.one],h⟩
def aN {α:Type} [Inhabited α] (xs:List α) (k:Nat):α:=xs[k]?.getD default
theorem gf {α:Type} [Inhabited α] (xs:List α) {k:Nat} (h:k < xs.length):aN xs k=xs[k]:=by simp [aN,h]
def tt {α:Type} (xs:List α) (lo aq:Int):Option (List α):=if 0≤lo∧lo≤aq∧aq≤xs.length then some ((xs.drop lo.toNat).take (aq.toNat - lo.toNat)) else none
theorem PS {α:Type} {xs r:List α} {lo aq:Int} (h:tt xs lo aq=some r):∃ a b:Nat,lo=a∧aq=b∧a≤b∧b≤xs.length∧r=(xs.drop a).take (b - a):=by
 unfold tt at h
 split at h
 ·rename_i aj
  simp only [Option.some.injEq] at h
  exact⟨lo.toNat,aq.toNat,by omega,by omega,by omega,by omega,h.symm⟩
 ·cases h
def hQ {α:Type} (bytes:Nat) (xs ys:List α):Option (List α):=if (xs.length + ys.length) * bytes≤140737488355328∧xs.length + ys.length≤maxLen then some (xs ++ ys) else none
theorem I7 {α:Type} {bytes:Nat} {xs ys r:List α} (h:hQ bytes xs ys=some r):(xs.length + ys.length) * bytes≤140737488355328∧xs.length + ys.length≤maxLen∧r=xs ++ ys:=by
 unfold hQ at h
 split at h
 ·rename_i aj; simp only [Option.some.injEq] at h; exact⟨aj.1,aj.2,h.symm⟩
 ·cases h
section
variable {c:cT} {E:List (Nat × I)} {L:List aF} {ops:Array Oper} {Q:Exit→Act→World→Prop}
variable {d:Option Tmp} {ty:TypeId} {pos:String} {af:Array Edge} {g:Option (Nat × Bool)} {x y:Operand} {t t2:TypeId}
theorem look_nil {α:Type} [ae α]:a4 c E L (.const (.slice none 0 0)) (.of ([]:List α)):=fun _ _ _=>lV.2 (.inl ⟨rfl,rfl⟩)
theorem mX.len {α:Type} [ae α] {A W v} {xs:List α} (h:mX A W v xs):∃ a cap,v= .slice a xs.length cap:=by
 rcases h with⟨rfl,rfl⟩ | ⟨b,off,cap,cur,T,ha,rfl,_⟩
 ·exact⟨none,0,rfl⟩
 ·exact⟨_,_,rfl⟩
theorem gO {α:Type} [ae α] {xs:List α} {e:TypeId} (hu:c.P.underlying t=some (.slice e)) (ak:a4 c E L x (.of xs)):bO c E L ⟨d,.call ⟨.builtin .len,#[x],#[t]⟩,ty,pos,af,g⟩ (.of (xs.length:Int)):= .pure fun a W s=>by
 obtain⟨b,cap,J⟩:=(lV.1 (ak a W s)).len
 exact⟨.int .i64 xs.length,by simp [execOp,resolve,invoke,builtin,Builtin.len_,J,run_underlying hu,goInt],of_int.2 rfl⟩
theorem qy {α:Type} [ae α] [Inhabited α] {xs:List α} {e:TypeId} {i:Int} {k:Nat} (hu:c.P.underlying t=some (.slice e)) (eg:bq c.P e α) (ak:a4 c E L x (.of xs)) (a7:a4 c E L y (.of i)) (au:k < xs.length∧i=k):
 bO c E L ⟨d,.indexAddr t x y,ty,pos,af,g⟩ (.ptr (aN xs k)):= .pure fun a W s=>by
 obtain⟨bc,rfl⟩:=au
 have aW:=of_int.1 (a7 a W s)
 rcases lV.1 (ak a W s) with⟨_,rfl⟩ | ⟨b,off,cap,cur,T,ha,J,ad,ax,aR,cn,eo,fx⟩
 ·simp at bc
 ·obtain⟨fy,dP,dL⟩:=eg.info
  have hle:(k + 1) * ae.size α≤xs.length * ae.size α:=Nat.mul_le_mul_right _ bc
  rw [Nat.succ_mul] at hle
  refine⟨.pointer (some ⟨b,off + k * ae.size α,none⟩),?_,b,off + k * ae.size α,cur,T,ha,rfl,ad,ax,by omega,?_⟩
  ·simp [execOp,Instr.indexAt,asIntOf,run_underlying hu,J,aW,bc,Go.sizeOf,typeInfo,dP,dL,ig]
  ·have:=fx.2 k bc
   rw [sY _ _ _ _ _ hle] at this
   rw [gf xs bc]
   exact this
theorem nL {P:Program} {W:World} {v:Value} {k:IntKind} {n m:Nat} {code:BoundsCode} (h:n≤m) (a3:v= .int k n):(Instr.sliceBound v m code).run P W= .ok n W:=by
 subst a3
 have bB:(n:Int)≤ (m:Int):=by omega
 simp [Instr.sliceBound,asIntOf,h]
theorem RK {α:Type} [ae α] {A W} {xs:List α} {b off cap:Nat} {cur:Array Value} {T:TypeId} {ha:Nat × Nat} {lo aq:Nat} (ad:b ∉ A) (ax:W.heap[b]? =some (.cells cur T ha)) (aR:xs.length≤cap) (cn:xs.length≤maxLen)
 (eo:off + xs.length * ae.size α≤cur.size) (fx:fQ A W ((cur.toList.drop off).take (xs.length * ae.size α)) xs) (h:lo≤aq) (cV:aq≤xs.length):
 mX A W (.slice (some (if cap=lo then⟨b,off,none⟩ else⟨b,off + lo * ae.size α,none⟩)) (aq - lo) (cap - lo)) ((xs.drop lo).take (aq - lo)):=by
 have ar:((xs.drop lo).take (aq - lo)).length=aq - lo:=by simp; omega
 have hm:aq * ae.size α≤xs.length * ae.size α:=Nat.mul_le_mul_right _ cV
 have lJ:lo * ae.size α≤aq * ae.size α:=Nat.mul_le_mul_right _ h
 have hd:(aq - lo) * ae.size α=aq * ae.size α - lo * ae.size α:=Nat.sub_mul _ _ _
 by_cases e:cap=lo
 ·subst e
  have bB:aq=cap:=by omega
  subst bB
  refine .inr ⟨b,off,aq - aq,cur,T,ha,by simp,ad,ax,by simp,by simp,by simp; omega,?_⟩
  simp only [Nat.sub_self,List.take_zero,List.length_nil,Nat.zero_mul]
  exact⟨by simp,fun i aq=>by simp at aq⟩
 ·rw [if_neg e]
  refine .inr ⟨b,off + lo * ae.size α,cap - lo,cur,T,ha,by rw [ar],ad,ax,by omega,by omega,by rw [ar]; omega,?_⟩
  rw [ar]
  refine⟨by simp only [ar,List.length_take,List.length_drop]; simp; omega,fun i fY=> ?_⟩
  rw [ar] at fY
  have gC:=fx.2 (lo + i) (by omega)
  have hle:(lo + i + 1) * ae.size α≤xs.length * ae.size α:=Nat.mul_le_mul_right _ (by omega)
  have Cw:(i + 1) * ae.size α≤ (aq - lo) * ae.size α:=Nat.mul_le_mul_right _ (by omega)
  rw [Nat.succ_mul] at hle Cw
  rw [sY _ _ _ _ _ hle] at gC
  rw [sY _ _ _ _ _ Cw]
  have:((xs.drop lo).take (aq - lo))[i]'(by rw [ar]; exact fY)=xs[lo + i]:=by simp
  rw [this]
  rw [show off + lo * ae.size α + i * ae.size α=off + (lo + i) * ae.size α by rw [Nat.add_mul]; omega]
  exact gC
inductive sC (c:cT) (E:List (Nat × I)) (L:List aF):Option Operand→Int→Int→Prop
 | none {n} :sC c E L .none n n
 | some {x i n} :a4 c E L x (.of (i:Int))→sC c E L (.some x) i n
theorem JV {α:Type} [ae α] {xs r:List α} {e:TypeId} {lo aq:Option Operand} {i j:Int} (hu:c.P.underlying t=some (.slice e)) (eg:bq c.P e α) (ak:a4 c E L x (.of xs)) (fC:sC c E L lo i 0) (c6:sC c E L aq j xs.length)
 (h:tt xs i j=some r):bO c E L ⟨d,.slice t x lo aq none,ty,pos,af,g⟩ (.of r):= .pure fun a W s=>by
 obtain⟨m,n,rfl,rfl,qS,aL,rfl⟩:=PS h
 obtain⟨fy,dP,dL⟩:=eg.info
 rcases lV.1 (ak a W s) with⟨J,rfl⟩ | ⟨b,off,cap,cur,T,ha,J,ad,ax,aR,cn,eo,fx⟩
 ·have pX:n=0:=by simpa using aL
  have gk:m=0:=by omega
  subst pX
  subst gk
  refine⟨.slice none 0 0,?_,lV.2 (.inl ⟨rfl,by simp⟩)⟩
  have an:(match lo.map a.eval with | some v=>Instr.sliceBound v 0 .sliceB | none=>pure 0:Sem Nat).run c.P W= .ok 0 W:=by
   cases fC with
   | none=>rfl
   | some ar=>exact nL (Nat.le_refl _) (of_int.1 (ar a W s))
  have iS:(match aq.map a.eval,(none:Option Value) with | some v,some _=>Instr.sliceBound v 0 .slice3B | some v,none=>Instr.sliceBound v 0 .sliceAcap | none,none=>pure 0 | none,some _=>stuck "Slice: max without high" :Sem Nat).run c.P W= .ok 0 W:=by
   cases c6 with
   | none=>rfl
   | some ar=>exact nL (Nat.le_refl _) (of_int.1 (ar a W s))
  cases fC <;> cases c6
  all_goals
   simp only [execOp,Instr.sliceAt,Instr.slice,Instr.sliceBounds,J,Sem.run_bind,run_underlying hu,Result.andThen_ok,Option.map_none,Option.map_some,Option.isSome_none,Bool.false_eq_true,if_false,if_true,Sem.run_pure] at an iS ⊢
   try simp only [an,iS,Result.andThen_ok,Go.sizeOf,typeInfo,Sem.run_bind,run_program,dP,Sem.run_pure]
   try simp [dP]
 ·refine⟨.slice (some (if cap=m then⟨b,off,none⟩ else⟨b,off + m * ae.size α,none⟩)) (n - m) (cap - m),?_,lV.2 (RK ad ax aR cn eo fx qS aL)⟩
  have an:∀ v,v=Value.int .i64 m→ (Instr.sliceBound v n .sliceB).run c.P W= .ok m W:=fun v a3=>nL qS a3
  have iS:∀ v,v=Value.int .i64 n→ (Instr.sliceBound v cap .sliceAcap).run c.P W= .ok n W:=fun v a3=>nL (by omega) a3
  have MA:(if cap=m then(some ⟨b,off,none⟩:Option Addr) else(some (Addr.add ⟨b,off,none⟩ (m * ae.size α))))=some (if cap=m then⟨b,off,none⟩ else⟨b,off + m * ae.size α,none⟩):=by
   split <;> simp [ig]
  generalize ec:(n:Int)=NA at c6
  generalize zJ:(m:Int)=NB at fC
  generalize zK:(xs.length:Int)=NC at c6
  generalize M3:(0:Int)=ND at fC
  cases fC with
  | none=>
    have gk:m=0:=by omega
    cases c6 with
    | none=>
      have lK:n=xs.length:=by omega
      subst lK
      subst gk
      simp [execOp,Instr.sliceAt,Instr.slice,Instr.sliceBounds,J,run_underlying hu,Go.sizeOf,typeInfo,dP,dL,ig]
    | some ar=>
      have aW:=of_int.1 (ar a W s)
      rw [← ec] at aW
      have bc:=iS _ aW
      subst gk
      simp [execOp,Instr.sliceAt,Instr.slice,Instr.sliceBounds,J,run_underlying hu,Go.sizeOf,typeInfo,dP,dL,ig,bc]
  | some ar=>
    have aW:=of_int.1 (ar a W s)
    rw [← zJ] at aW
    have bc:=an _ aW
    cases c6 with
    | none=>
      have lK:n=xs.length:=by omega
      subst lK
      simp only [execOp,Instr.sliceAt,Instr.slice,Instr.sliceBounds,J,Sem.run_bind,run_underlying hu,Result.andThen_ok,Option.map_none,Option.map_some,Option.isSome_none,Bool.false_eq_true,if_false,if_true,Sem.run_pure,bc,Go.sizeOf,typeInfo,run_program,dP,dL]
      rw [← MA]
    | some ka=>
      have M4:=of_int.1 (ka a W s)
      rw [← ec] at M4
      have Wz:=iS _ M4
      simp only [execOp,Instr.sliceAt,Instr.slice,Instr.sliceBounds,J,Sem.run_bind,run_underlying hu,Result.andThen_ok,Option.map_none,Option.map_some,Option.isSome_none,Bool.false_eq_true,if_false,if_true,Sem.run_pure,bc,Wz,Go.sizeOf,typeInfo,run_program,dP,dL]
      rw [← MA]
end
end Gv
namespace Gv
open Go
set_option linter.unusedVariables false
set_option linter.unusedSimpArgs false
def a5:Option Nat→Nat→Nat→Value
 | some p,n,cap=> .slice (some ⟨p,0,none⟩) n cap
 | none,_,_=> .slice none 0 0
theorem PT {L:List aF} {i:Nat} {cp:dA} :∀ k∈aJ (L.set i ⟨none,cp⟩),∃ j e,j≠i∧L[j]? =some e∧e.key=some k:=by
 intro k au
 obtain⟨e,he,sr⟩:=km.1 au
 obtain⟨j,aC⟩:=List.mem_iff_getElem?.1 he
 rw [List.getElem?_set] at aC
 split at aC
 ·split at aC
  ·simp only [Option.some.injEq] at aC; subst aC; cases sr
  ·cases aC
 ·rename_i cQ
  exact⟨j,e,fun h=>cQ h.symm,aC,sr⟩
theorem vl {L:List aF} {i:Nat} {cp:dA} :aJ (L.set i ⟨none,cp⟩) |>.Sublist (aJ L):=by
 induction L generalizing i with
 | nil=>simp [aJ]
 | cons x r bz=>
   cases i with
   | zero=>
     cases au:x.key with
     | none=>simp [aJ,au]
     | some p=>simp [aJ,au]
   | succ i=>
     cases au:x.key with
     | none=>simpa [aJ,au] using bz
     | some p=>simpa [aJ,au] using bz
theorem bs.kill {c E L a W} (h:bs c E L a W) (i:Nat):bs c E (L.set i ⟨none,.dead⟩) a W:=by
 have j5:=vl (L:=L) (i:=i) (cp:= .dead)
 have au:∀ k∈aJ (L.set i ⟨none,.dead⟩),k∈aJ L:=fun k au=>j5.subset au
 have gA:Ext (aJ L ++ c.bM) W (aJ (L.set i ⟨none,.dead⟩) ++ c.bM) W:= .drop fun k hm=>by
  rcases List.mem_append.1 hm with hm | hm
  ·exact List.mem_append.2 (.inl (au k hm))
  ·exact List.mem_append.2 (.inr hm)
 exact
 {defers:=h.defers
  size:=h.size
  env:=fun t τ ar=>let⟨v,J,ad⟩:=h.env t τ ar; ⟨v,J,τ.mono gA ad⟩
  dm:=h.dm
  own:=fun e he=>by
   obtain⟨j,aC⟩:=List.mem_iff_getElem?.1 he
   rw [List.getElem?_set] at aC
   split at aC
   ·split at aC
    ·simp only [Option.some.injEq] at aC; subst aC; trivial
    ·cases aC
   ·have J:=h.own e (List.mem_of_getElem? aC)
    unfold aF.ok at *
    split at J
    ·obtain⟨o',a6,b3⟩:=J
     exact⟨o',a6,dA.mono _ gA b3⟩
    ·exact J
  nodup:=h.nodup.sublist j5
  lt:=fun k hm=>h.lt k (au k hm)
  fA:=fun k hm=>h.fA k (au k hm)
  eC:=fun k hm=>⟨(h.eC k hm).1,fun ad=>(h.eC k hm).2 (au k ad)⟩ }
theorem bs.x7 {c E L a W} (h:bs c E L a W) {i p:Nat} {cp:dA} (aq:L[i]? =some ⟨some p,cp⟩):p ∉ aJ (L.set i ⟨none,.dead⟩) ++ c.bM:=by
 intro hm
 rcases List.mem_append.1 hm with hm | hm
 ·obtain⟨j,e,cQ,aC,sr⟩:=PT p hm
  exact cQ (Fi h.nodup aC aq sr rfl)
 ·exact(h.eC p hm).2 (km.2 ⟨_,List.mem_of_getElem? aq,rfl⟩)
theorem D9 {α:Type} [ae α] {A W} {cs:Array Value} {xs:List α} {cap:Nat} (h:cs.size=cap * ae.size α) (aL:xs.length≤cap) (aQ:fQ A W (cs.toList.take (xs.length * ae.size α)) xs):
 0 + xs.length * ae.size α≤cs.size∧fQ A W ((cs.toList.drop 0).take (xs.length * ae.size α)) xs:=by
 refine⟨?_,by simpa using aQ⟩
 rw [h,Nat.zero_add]; exact Nat.mul_le_mul_right _ aL
section
variable {c:cT} {E:List (Nat × I)} {L:List aF} {ops:Array Oper} {Q:Exit→Act→World→Prop}
variable {d:Option Tmp} {ty:TypeId} {pos:String} {af:Array Edge} {g:Option (Nat × Bool)} {x y:Operand} {t t2:TypeId}
theorem bs.freeze {a:Act} {W:World} {α:Type} [ae α] {i s cap T:Nat} {key:Option Nat} {xs:List α} (h:bs c E L a W) (ar:look E s=some (.eq (a5 key xs.length cap))) (an:L[i]? =some ⟨key,.row T xs cap⟩):
 bs c ((s,.of xs) :: E) (L.set i ⟨none,.dead⟩) a W:=by
 have au:=h.kill i
 refine { au with env:=fun t τ ew=> ?_ }
 simp only [look] at ew
 by_cases e:Nat.beq s t=true
 ·rw [e] at ew
  simp only [cond_true,Option.some.injEq] at ew
  subst ew
  have:=dX.1 e
  subst this
  obtain⟨v,J,ad⟩:=h.env s _ ar
  refine⟨v,J,lV.2 ?_⟩
  have kT:v=a5 key xs.length cap:=ad
  subst kT
  have a6:=h.own _ (List.mem_of_getElem? an)
  cases key with
  | none=>exact .inl ⟨rfl,a6.1⟩
  | some p=>
    obtain⟨o,ed,cs,rfl,dL,aL,uh,aQ⟩:=a6
    obtain⟨ax,aR⟩:=D9 dL aL aQ
    refine .inr ⟨p,0,cap,cs,T,(0,0),rfl,h.x7 an,ed,aL,by omega,ax,?_⟩
    have j5:=vl (L:=L) (i:=i) (cp:= .dead)
    exact aR.mono (.drop fun k hm=>by
     rcases List.mem_append.1 hm with hm | hm
     ·exact List.mem_append.2 (.inl (j5.subset hm))
     ·exact List.mem_append.2 (.inr hm))
 ·simp only [Bool.not_eq_true] at e
  rw [e] at ew
  exact au.env t τ ew
theorem ag.freeze {l:List Oper} {α:Type} [ae α] {key:Option Nat} {xs:List α} {cap T:Nat} (i s:Nat) (ar:look E s=some (.eq (a5 key xs.length cap))) (an:L[i]? =some ⟨key,.row T xs cap⟩)
 (k:ag c ops Q l ((s,.of xs) :: E) (L.set i ⟨none,.dead⟩)):ag c ops Q l E L:=fun a W st=>k a W (st.freeze ar an)
theorem ah.freeze {x:Exit} {α:Type} [ae α] {key:Option Nat} {xs:List α} {cap T:Nat} (i s:Nat) (ar:look E s=some (.eq (a5 key xs.length cap))) (an:L[i]? =some ⟨key,.row T xs cap⟩)
 (k:ah c Q x ((s,.of xs) :: E) (L.set i ⟨none,.dead⟩)):ah c Q x E L:=fun a W st=>k a W (st.freeze ar an)
theorem ai.freeze {code:Code} {α:Type} [ae α] {key:Option Nat} {xs:List α} {cap T:Nat} (i s:Nat) (ar:look E s=some (.eq (a5 key xs.length cap))) (an:L[i]? =some ⟨key,.row T xs cap⟩)
 (k:ai c Q code ((s,.of xs) :: E) (L.set i ⟨none,.dead⟩)):ai c Q code E L:=fun a W st=>k a W (st.freeze ar an)
theorem bs.Sw {a:Act} {W:World} {α:Type} [ae α] (T:TypeId) (h:bs c E L a W):bs c E (⟨none,.row T ([]:List α) 0⟩ :: L) a W:=
 {h with
  own:=fun e he=>by
   rcases List.mem_cons.1 he with rfl | he
   ·exact⟨rfl,rfl⟩
   ·exact h.own e he }
theorem ag.own {l:List Oper} {α:Type} [ae α] (T:TypeId) (k:ag c ops Q l E (⟨none,.row T ([]:List α) 0⟩ :: L)):ag c ops Q l E L:=fun a W st=>k a W (st.Sw T)
theorem vy:a4 c E L (.const (.slice none 0 0)) (.eq (a5 none 0 0)):=fun _ _ _=>rfl
theorem rR {key:Option Nat} {n cap:Nat} {e i T:Nat} {α:Type} [ae α] {xs:List α} (hu:c.P.underlying t=some (.slice e)) (ak:a4 c E L x (.eq (a5 key n cap))) (aL:n=xs.length) (an:L[i]? =some ⟨key,.row T xs cap⟩):bO c E L ⟨d,.call ⟨.builtin .len,#[x],#[t]⟩,ty,pos,af,g⟩ (.of (n:Int)):= .pure fun a W s=>by
 subst aL
 have J:a.eval x=_:=ak a W s
 have a6:=s.own _ (List.mem_of_getElem? an)
 cases key with
 | none=>
   have:xs= []:=a6.1
   subst this
   exact⟨.int .i64 0,by simp [execOp,resolve,invoke,builtin,Builtin.len_,J,a5,run_underlying hu,goInt],of_int.2 rfl⟩
 | some p=>exact⟨.int .i64 xs.length,by simp [execOp,resolve,invoke,builtin,Builtin.len_,J,a5,run_underlying hu,goInt],of_int.2 rfl⟩
theorem fQ.one {α:Type} [ae α] {A W} {cs:List Value} {xs:List α} (h:fQ A W cs xs):∀ u∈cs,u.oneCell'=true:=by
 intro u hu
 obtain⟨j,aC⟩:=List.mem_iff_getElem?.1 hu
 have b5:=(List.getElem?_eq_some_iff.1 aC).1
 have J:=h.1
 by_cases hs:ae.size α=0
 ·rw [hs,Nat.mul_zero] at J; omega
 ·have hp:0 < ae.size α:=Nat.pos_of_ne_zero hs
  have aq:j / ae.size α < _:=(Nat.div_lt_iff_lt_mul hp).2 (by rw [J] at b5; exact b5)
  refine ae.one (h.2 _ aq) u (List.mem_iff_getElem?.2 ⟨j % ae.size α,?_⟩)
  rw [List.getElem?_take,if_pos (Nat.mod_lt _ hp),List.getElem?_drop,Nat.mul_comm,Nat.div_add_mod]
  exact aC
theorem rF {α:Type} [ae α] {A W} {cs ds:List Value} {xs ys:List α} (h:fQ A W cs xs) (cV:fQ A W ds ys):fQ A W (cs ++ ds) (xs ++ ys):=by
 refine⟨by rw [List.length_append,h.1,cV.1,List.length_append,Nat.add_mul],fun i aq=> ?_⟩
 rw [List.length_append] at aq
 by_cases b5:i < xs.length
 ·have J:=h.2 i b5
  have hle:(i + 1) * ae.size α≤xs.length * ae.size α:=Nat.mul_le_mul_right _ b5
  rw [Nat.succ_mul] at hle
  have kz:=h.1
  rw [List.drop_append_of_le_length (by omega),List.take_append_of_le_length (by simp; omega)]
  rw [List.getElem_append_left b5]
  exact J
 ·have J:=cV.2 (i - xs.length) (by omega)
  have e:i * ae.size α=cs.length + (i - xs.length) * ae.size α:=by
   rw [h.1,← Nat.add_mul]; congr 1; omega
  rw [e,List.drop_append,List.drop_of_length_le (by omega),List.nil_append,show cs.length + (i - xs.length) * ae.size α - cs.length=(i - xs.length) * ae.size α by omega]
  rw [List.getElem_append_right (by omega)]
  exact J
theorem mX.cells {α:Type} [ae α] {A W v} {ys:List α} (h:mX A W v ys):
 (v= .slice none 0 0∧ys= [])∨ ∃ (b off cap:Nat) (news:List Value),v= .slice (some ⟨b,off,none⟩) ys.length cap∧news.length=ys.length * ae.size α∧ (∀ (j:Nat) (u:Value),news[j]? =some u→W.cell? ((⟨b,off,none⟩:Addr).add j)=some u)∧
  (∀ u∈news,u.oneCell'=true)∧fQ A W news ys:=by
 rcases h with h | ⟨b,off,cap,cur,T,ha,J,ad,ax,aR,aW,bc,cn⟩
 ·exact .inl h
 ·refine .inr ⟨b,off,cap,_,J,cn.1,fun j u hu=> ?_,fun u hu=> ?_,cn⟩
  ·rw [List.getElem?_take] at hu
   split at hu
   ·rw [ig,cell_of_row W b (off + j) cur T ha ax]
    rw [List.getElem?_drop] at hu
    simpa using hu
   ·cases hu
  ·exact cn.one u hu
theorem bs.grow {a:Act} {W:World} (h:bs c E L a W) {i:Nat} {kF:aF} (aq:L[i]? =some kF) {o:Obj} {cp:dA} (aj:cp.holds (aJ L ++ c.bM) W o):
 bs c E (L.set i ⟨some W.heap.size,cp⟩) a (W.alloc o):=by
 have J:=h.alloc aj
 refine J.sub (fun e he=> ?_) ?_
 ·obtain⟨j,aC⟩:=List.mem_iff_getElem?.1 he
  rw [List.getElem?_set] at aC
  split at aC
  ·split at aC
   ·simp only [Option.some.injEq] at aC; subst aC; simp
   ·cases aC
  ·exact List.mem_cons_of_mem _ (List.mem_of_getElem? aC)
 ·have n4:W.heap.size ∉ aJ L:=fun hm=>Nat.lt_irrefl _ (h.lt _ hm)
  have key:∀ (L:List aF) (i:Nat) (q:Nat),q ∉ aJ L→ (aJ L).Nodup→ (aJ (L.set i ⟨some q,cp⟩)).Nodup∧ ∀ k∈aJ (L.set i ⟨some q,cp⟩),k=q∨k∈aJ L:=by
   intro L
   induction L with
   | nil=>intro i q _ aL; exact⟨by simpa using aL,by simp [aJ]⟩
   | cons x r bz=>
     intro i q hq aL
     cases ak:x.key with
     | none=>
       have iN:q ∉ aJ r:=by simpa [aJ,ak] using hq
       have q4:(aJ r).Nodup:=by simpa [aJ,ak] using aL
       cases i with
       | zero=>exact⟨by simp only [List.set_cons_zero,aJ]; exact List.nodup_cons.2 ⟨iN,q4⟩,fun k au=>by
        simp only [List.set_cons_zero,aJ,List.mem_cons] at au; rcases au with rfl | au
        ·exact .inl rfl
        ·exact .inr (by simpa [aJ,ak] using au)⟩
       | succ i=>
         obtain⟨J,ad⟩:=bz i q iN q4
         exact⟨by simpa [aJ,ak] using J,fun k au=>by have:=ad k (by simpa [aJ,ak] using au); simpa [aJ,ak] using this⟩
     | some p=>
       simp only [aJ,ak,List.mem_cons,not_or] at hq
       simp only [aJ,ak] at aL
       obtain⟨hp,q4⟩:=List.nodup_cons.1 aL
       cases i with
       | zero=>exact⟨by simp only [List.set_cons_zero,aJ]; exact List.nodup_cons.2 ⟨hq.2,q4⟩,fun k au=>by
        simp only [List.set_cons_zero,aJ,List.mem_cons] at au; rcases au with rfl | au
        ·exact .inl rfl
        ·exact .inr (by simp [aJ,ak,au])⟩
       | succ i=>
         obtain⟨J,ad⟩:=bz i q hq.2 q4
         refine⟨?_,fun k au=> ?_⟩
         ·simp only [List.set_cons_succ,aJ,ak]
          refine List.nodup_cons.2 ⟨fun hm=> ?_,J⟩
          rcases ad p hm with e | q5
          ·exact hq.1 e.symm
          ·exact hp q5
         ·simp only [List.set_cons_succ,aJ,ak,List.mem_cons] at au
          rcases au with rfl | au
          ·exact .inr (by simp [aJ,ak])
          ·rcases ad k au with e | q5
           ·exact .inl e
           ·exact .inr (by simp [aJ,ak,q5])
  exact(key L i _ n4 h.nodup).1
theorem E2 {α:Type} [ae α] {A W} {cs ds:List Value} {xs:List α} {T cap:Nat} (h:fQ A W cs xs) (dg:ds.length=(cap - xs.length) * ae.size α) (aL:xs.length≤cap) (hm:cap≤maxLen) {arr:Array Value} (bg:arr.toList=cs ++ ds):
 (dA.row T xs cap).holds A W (.cells arr T (0,0)):=by
 refine⟨arr,rfl,?_,aL,hm,?_⟩
 ·have:arr.size=(cs ++ ds).length:=by rw [← bg]; simp
  rw [this,List.length_append,h.1,dg,← Nat.add_mul]; congr 1; omega
 ·rw [bg,← h.1,List.take_left]; exact h
theorem ag.app {α:Type} [ae α] {rest:List Oper} {a9 i e bytes cap:Nat} {key:Option Nat} {xs ys r:List α} {z:α} (hu:c.P.underlying t=some (.slice e)) (eg:bq c.P e α) (fV:cc c.P e z)
 (uy:(c.P.info? e).map (·.bytes)=some bytes) (hs:a4 c E L x (.eq (a5 key xs.length cap))) (an:L[i]? =some ⟨key,.row e xs cap⟩) (a7:a4 c E L y (.of ys)) (h:hQ bytes xs ys=some r) (aL:Nat.blt a9 c.n=true)
 (k:∀ oX cap',ag c ops Q rest ((a9,.eq (a5 oX r.length cap')) :: E) (L.set i ⟨oX,.row e r cap'⟩)):
 ag c ops Q (⟨some a9,.call ⟨.builtin .append,#[x,y],#[t,t]⟩,ty,pos,af,none⟩ :: rest) E L:=fun a W s=>by
 obtain⟨uq,mb,rfl⟩:=I7 h
 obtain⟨fy,dN,dP,dg,pY⟩:=fV.zero
 have l6:fy.size=ae.size α:=by
  obtain⟨i2,J,ad⟩:=eg.info
  rw [dP] at J; cases J; exact ad
 have Fj:fy.bytes=bytes:=by simpa [dP] using uy
 have uz:dN.cells.size=ae.size α:=by have:=ae.len (pY [] W).2; simpa using this
 subst Fj
 have J:a.eval x=_:=hs a W s
 have a6:=s.own _ (List.mem_of_getElem? an)
 have jr:a9 < c.n:=by simpa using aL
 have wS:=(lV.1 (a7 a W s)).cells
 have lJ:maxLen=9223372036854775807:=rfl
 have main:∃ oX cap' W',(Builtin.append_ #[t,t] ty #[a.eval x,a.eval y]).run c.P W= .ok (a5 oX (xs ++ ys).length cap') W'∧bs c E (L.set i ⟨oX,.row e (xs ++ ys) cap'⟩) a W':=by
  cases key with
  | none=>
    obtain⟨CQ,uA⟩:xs= []∧cap=0:=a6
    subst CQ
    subst uA
    have wa:L.set i ⟨none,.row e ([]:List α) 0⟩=L:=by
     obtain⟨b5,he⟩:=List.getElem?_eq_some_iff.1 an
     rw [← he]; exact List.set_getElem_self b5
    rcases wS with⟨a3,rfl⟩ | ⟨b,off,cp,news,a3,pZ,Cg,wI,fq⟩
    ·refine⟨none,0,W,?_,by simpa [wa] using s⟩
     simp [J,a3,a5,Builtin.append_,run_underlying hu,Go.sizeOf,typeInfo,dP,Builtin.lenOf,Builtin.firstCells]
    ·by_cases hm:ys.length=0
     ·have:ys= []:=List.eq_nil_of_length_eq_zero hm
      subst this
      refine⟨none,0,W,?_,by simpa [wa] using s⟩
      simp [J,a3,a5,Builtin.append_,run_underlying hu,Go.sizeOf,typeInfo,dP,Builtin.lenOf,Builtin.firstCells,loadCells,loadCellsFrom]
     ·simp only [List.length_nil,Nat.zero_add] at uq mb
      have aQ:=run_append_nil (P:=c.P) W t ty e fy dN hu dP dg ⟨b,off,none⟩ ys.length cp news (by rw [l6]; exact pZ) Cg (by omega) (by omega) (by omega)
      refine⟨some W.heap.size,grownCap W ys.length 0 e,_,by rw [J,a3]; simpa [a5] using aQ,?_⟩
      have q6:=grownCap_ge W ys.length 0 e
      have hle:=grownCap_le_maxLen W ys.length 0 e mb
      have:=(s.world (Fr.drew W)).grow an (o:= .cells (news.toArray ++ Builtin.zeroCells dN.cells (grownCap W ys.length 0 e - ys.length)) e) (cp:= .row e ([] ++ ys) (grownCap W ys.length 0 e))
       (E2 (T:=e) (fq.mono (Ext.dm (Fr.drew W))) (ds:=(Builtin.zeroCells dN.cells (grownCap W ys.length 0 e - ys.length)).toList) (by rw [Array.length_toList,size_zeroCells,uz]) q6 hle (by simp))
      simpa using this
  | some p=>
    obtain⟨jq,ed,cs,rfl,dL,WA,uh,CR⟩:=a6
    have kb:a.eval x= .slice (some ⟨p,0,none⟩) xs.length cap:=J
    rcases wS with⟨a3,rfl⟩ | ⟨b,off,cp,news,a3,pZ,Cg,wI,fq⟩
    ·refine⟨some p,cap,W,?_,?_⟩
     ·simp [kb,a3,a5,Builtin.append_,run_underlying hu,Go.sizeOf,typeInfo,dP,Builtin.lenOf,Builtin.firstCells,storeCells,WA]
     ·have:L.set i ⟨some p,.row e (xs ++ []) cap⟩=L:=by
       obtain⟨b5,he⟩:=List.getElem?_eq_some_iff.1 an
       rw [List.append_nil,← he]; exact List.set_getElem_self b5
      rw [this]; exact s
    ·by_cases v7:xs.length + ys.length≤cap
     ·have Cx:xs.length * fy.size + news.length≤cs.size:=by rw [l6,pZ,dL,← Nat.add_mul]; exact Nat.mul_le_mul_right _ v7
      have aQ:=run_append_room (P:=c.P) W t ty e fy hu dP p xs.length cap cs ed ⟨b,off,none⟩ ys.length cp news (by rw [l6]; exact pZ) Cg wI v7 Cx
      refine⟨some p,cap,_,by rw [kb,a3]; simpa [a5] using aQ,?_⟩
      refine s.store an ed ⟨_,rfl,?_,by simpa using v7,uh,?_⟩
      ·simp only [List.size_toArray,List.length_append,List.length_take,List.length_drop,Array.length_toList]; omega
      ·have ar:(cs.toList.take (xs.length * fy.size)).length=xs.length * ae.size α:=by rw [l6]; exact CR.1
       have wk:=rF CR fq
       rw [l6]
       have hlen:(xs ++ ys).length * ae.size α=(cs.toList.take (xs.length * ae.size α) ++ news).length:=by rw [wk.1]
       have NF:((cs.toList.take (xs.length * ae.size α) ++ news ++ cs.toList.drop (xs.length * ae.size α + news.length)).toArray).toList.take ((xs ++ ys).length * ae.size α)=cs.toList.take (xs.length * ae.size α) ++ news:=by
        rw [hlen]; exact List.take_left
       rw [List.append_assoc] at NF
       rw [NF]
       exact wk
     ·have holds:∀ (j:Nat) u,(cs.toList.take (xs.length * ae.size α))[j]? =some u→W.cell? ((⟨p,0,none⟩:Addr).add j)=some u:=by
       intro j u ll
       rw [List.getElem?_take] at ll
       split at ll
       ·rw [ig,Nat.zero_add,cell_of_row W p j cs e (0,0) ed]; simpa using ll
       ·cases ll
      have aQ:=run_append_grow (P:=c.P) W t ty e fy dN hu dP dg ⟨p,0,none⟩ xs.length cap _ (by rw [l6]; exact CR.1) holds ⟨b,off,none⟩ ys.length cp news (by rw [l6]; exact pZ) Cg (by omega) (by omega) (growslice_fits (by omega) uq)
      have q6:=grownCap_ge W (xs.length + ys.length) cap e
      have hle:=grownCap_le_maxLen W (xs.length + ys.length) cap e mb
      refine⟨some W.heap.size,grownCap W (xs.length + ys.length) cap e,_,by rw [kb,a3]; simpa [a5] using aQ,?_⟩
      have wk:=(rF CR fq).mono (Ext.dm (Fr.drew W))
      have:=(s.world (Fr.drew W)).grow an (o:= .cells ((cs.toList.take (xs.length * ae.size α)).toArray ++ news.toArray ++ Builtin.zeroCells dN.cells (grownCap W (xs.length + ys.length) cap e - (xs.length + ys.length))) e)
       (cp:= .row e (xs ++ ys) (grownCap W (xs.length + ys.length) cap e))
       (E2 (T:=e) wk (ds:=(Builtin.zeroCells dN.cells (grownCap W (xs.length + ys.length) cap e - (xs.length + ys.length))).toList) (by rw [Array.length_toList,size_zeroCells,uz,List.length_append]) (by rw [List.length_append]; exact q6) hle (by simp))
      simpa using this
 obtain⟨oX,cap',W',jg,eY⟩:=main
 refine hA rfl (R:=fun v gD=>v=a5 oX (xs ++ ys).length cap'∧gD=W') (.k2 ?_ ⟨rfl,rfl⟩) fun v gD ⟨a3,hw⟩=> ?_
 ·simp only [execOp,resolve,invoke,builtin,Sem.run_bind,Sem.run_pure,Result.andThen_ok]
  have aE:(#[x,y]:Array Operand).map a.eval= #[a.eval x,a.eval y]:=by simp
  rw [aE,jg]
  rfl
 ·subst a3
  subst hw
  exact k oX cap' _ _ (eY.put jr rfl)
inductive mC (c:cT) (E:List (Nat × I)) (L:List aF) {α:Type} [ae α]:List α→List (Nat × Operand)→List α→Prop
 | nil {b} :mC c E L b [] b
 | cons {b b':List α} {v:α} {i:Nat} {x:Operand} {r:List (Nat × Operand)} :i < b.length→a4 c E L x (.of v)→mC c E L (b.set i v) r b'→mC c E L b ((i,x) :: r) b'
theorem mC.run {α:Type} [ae α] {b b':List α} {bj:List (Nat × Operand)} (h:mC c E L b bj b'):∀ a W,bs c E L a W→ ∀ cs:Array Value,fQ (aJ L ++ c.bM) W cs.toList b→
 ∃ dx,Instr.fill (fun i=>some (i * ae.size α,ae.size α)) cs (bj.map fun(i,x)=>(i,a.eval x))=some dx∧fQ (aJ L ++ c.bM) W dx.toList b'∧b'.length=b.length:=by
 induction h with
 | nil=>intro a W s cs aQ; exact⟨cs,rfl,aQ,rfl⟩
 | @cons b b' v i x r aq ad _ bz=>
   intro a W s cs aQ
   have a3:=ad a W s
   have dL:(a.eval x).cells.size=ae.size α:=by have:=ae.len a3.2; simpa using this
   have ar:=aQ.1
   have hle:(i + 1) * ae.size α≤b.length * ae.size α:=Nat.mul_le_mul_right _ aq
   rw [Nat.succ_mul] at hle
   rw [List.map_cons,Br rfl dL (by simp at ar; omega)]
   obtain⟨dx,ax,aR,aW⟩:=bz a W s (fw cs.toList (i * ae.size α) (a.eval x).cells.toList).toArray (by
    have:=ED aQ aq a3.2
    simpa [fw,ae.len a3.2] using this)
   exact⟨dx,ax,aR,by rw [aW,List.length_set]⟩
theorem x0 {α:Type} [ae α] {A W} {z:α} {dN:Value} (h:(I.of z).holds A W dN) (n:Nat) (hs:ae.size α≠0):fQ A W ((Array.range (n * ae.size α)).map (dN.cells[· % dN.cells.size]!)).toList (List.replicate n z):=by
 have ar:dN.cells.size=ae.size α:=by have:=ae.len h.2; simpa using this
 have hp:0 < ae.size α:=Nat.pos_of_ne_zero hs
 refine⟨by simp,fun i aq=> ?_⟩
 have fY:i < n:=by simpa using aq
 have hle:(i + 1) * ae.size α≤n * ae.size α:=Nat.mul_le_mul_right _ fY
 rw [Nat.succ_mul] at hle
 have:((((Array.range (n * ae.size α)).map (dN.cells[· % dN.cells.size]!)).toList.drop (i * ae.size α)).take (ae.size α))=dN.cells.toList:=by
  apply List.ext_getElem?
  intro j
  rw [List.getElem?_take]
  split
  ·rename_i aC
   rw [List.getElem?_drop]
   have b5:i * ae.size α + j < n * ae.size α:=by omega
   have zh:(i * ae.size α + j) % ae.size α=j:=by rw [Nat.mul_comm,Nat.mul_add_mod]; exact Nat.mod_eq_of_lt aC
   simp only [Array.getElem?_toList,Array.getElem?_map,Array.getElem?_range,b5,if_true,Option.map_some,ar,zh]
   rw [getElem!_pos dN.cells j (by omega)]
   simp [ar,aC]
  ·rename_i aC
   symm
   simp only [Array.getElem?_toList]
   exact Array.getElem?_eq_none (by omega)
 rw [this]
 simpa using h.2
theorem iH {α:Type} [ae α] {e n:Nat} {z:α} {r:List α} {bj:List (Nat × Operand)} (hu:c.P.underlying t=some (.slice e)) (eg:bq c.P e α) (fV:cc c.P e z) (hs:Nat.beq (ae.size α) 0=false) (aL:Nat.ble (n * ae.size α) 16777216=true)
 (a0:mC c E L (List.replicate n z) bj r):bO c E L ⟨d,.buildSlice t n bj.toArray,ty,pos,af,g⟩ (.of r):=fun a W s=>by
 obtain⟨fy,dN,dP,dg,pY⟩:=fV.zero
 have l6:fy.size=ae.size α:=by
  obtain⟨i2,J,ad⟩:=eg.info
  rw [dP] at J; cases J; exact ad
 have ev:ae.size α≠0:=fun h=>by rw [h] at hs; cases hs
 have o4:=x0 (pY (aJ L ++ c.bM) W) n ev
 obtain⟨dx,ax,aR,aW⟩:=a0.run a W s _ o4
 have hlen:r.length=n:=by rw [aW]; simp
 have hm:(bj.toArray.map fun(x:Nat × Operand)=>(x.1,a.eval x.2)).toList=bj.map fun(i,x)=>(i,a.eval x):=by simp
 have VJ:=Nat.le_of_ble_eq_true aL
 refine .k2 (v:= .slice (some ⟨W.heap.size,0,none⟩) n n) (W':=W.alloc (.cells dx e)) ?_ ⟨Fr.alloc W _,lV.2 ?_⟩
 ·simp only [execOp,Instr.buildSlice,Sem.run_bind,run_underlying hu,Result.andThen_ok,Go.sizeOf,typeInfo,run_program,dP,Sem.run_pure,l6]
  rw [if_neg (by omega)]
  try simp only [Sem.run_pure,Result.andThen_ok,Sem.run_bind]
  by_cases bB:n * ae.size α=0
  ·have pX:n=0:=by
    rcases Nat.mul_eq_zero.1 bB with h | h
    ·exact h
    ·exact absurd h ev
   subst pX
   simp only [Nat.zero_mul,if_true,Sem.run_pure,Result.andThen_ok]
   try simp only [Nat.zero_mul] at ax
   have kF:((Array.range 0).map (fun x=>(#[]:Array Value)[x % (#[]:Array Value).size]!))=((Array.range 0).map (dN.cells[· % dN.cells.size]!)):=by simp
   simp only [pure_bind]
   rw [kF,hm,ax]
   simp [newRow]
  ·simp only [bB,if_false,Sem.run_bind,zeroValue,typeInfo,run_program,Result.andThen_ok,dP,dg,Sem.run_pure]
   rw [hm,ax]
   simp [newRow]
 ·have gA:Ext (aJ L ++ c.bM) W (aJ L ++ c.bM) (W.alloc (.cells dx e)):=Ext.dm (Fr.alloc W _)
  refine .inr ⟨W.heap.size,0,n,dx,e,(0,0),by rw [hlen],fun sh=>Nat.lt_irrefl _ (s.BP _ sh),KF W _,by omega,?_,?_,?_⟩
  ·have:r.length * 1≤n * ae.size α:=by rw [hlen]; exact Nat.mul_le_mul_left _ (by omega)
   have:maxLen=9223372036854775807:=rfl
   omega
  ·have:=aR.1; simp at this; omega
  ·have bc:=aR.1
   rw [List.drop_zero,← bc,List.take_length]
   exact aR.mono gA
end
end Gv
namespace Gv
open Go
set_option linter.unusedVariables false
set_option linter.unusedSimpArgs false
theorem BB {cs:List Value} {o s:Nat} {u:Value} (h:u∈cs.drop o):u∈ (cs.drop o).take s∨u∈cs.drop (o + s):=by
 rw [← List.take_append_drop s (cs.drop o)] at h
 rcases List.mem_append.1 h with h | h
 ·exact .inl h
 ·rw [List.drop_drop] at h; exact .inr h
theorem J9 {cs:List Value} {n o:Nat} {u:Value} {p:Prop} (ar:cs.length=n) (a6:o=n) (h:u∈cs.drop o):p:=by
 rw [List.drop_of_length_le (by omega)] at h; cases h
theorem Sx {cs ds:List Value} {o s n:Nat} (ar:cs.length=n) (hd:ds.length=s) (h:o + s≤n):(cs.take o ++ ds ++ cs.drop (o + s)).length=n:=by
 simp only [List.length_append,List.length_take,List.length_drop]; omega
theorem Ka {cs ds:List Value} {o s n:Nat} (ar:cs.length=n) (hd:ds.length=s) (h:o + s≤n):((cs.take o ++ ds ++ cs.drop (o + s)).drop o).take s=ds:=by
 have J:(cs.take o).length=o:=by simp; omega
 rw [List.append_assoc,List.drop_append,J,List.drop_of_length_le (by omega),List.nil_append,Nat.sub_self,List.drop_zero,List.take_append_of_le_length (by omega),List.take_of_length_le (by omega)]
theorem EE {cs ds:List Value} {o s n bT s2:Nat} (ar:cs.length=n) (hd:ds.length=s) (h:o + s≤n) (cQ:bT + s2≤o∨o + s≤bT):((cs.take o ++ ds ++ cs.drop (o + s)).drop bT).take s2=(cs.drop bT).take s2:=by
 apply List.ext_getElem?
 intro i
 simp only [List.getElem?_take,List.getElem?_drop]
 split
 ·rename_i aq
  simp only [List.getElem?_append,List.length_append,List.length_take,List.getElem?_take,List.getElem?_drop]
  have J:min o cs.length=o:=by omega
  rw [J,hd]
  rcases cQ with ad | ad
  ·rw [if_pos (by omega),if_pos (by omega),if_pos (by omega)]
  ·rw [if_neg (by omega)]; congr 1; omega
 ·rfl
structure sw (P:Type) where
 size:Nat
 rep:List Nat→World→List Value→Nat→P→Prop
 one:∀ {A W cs o x n},rep A W cs o x→cs.length=n→o + size=n→ ∀ u∈cs.drop o,u.oneCell'=true
 mono:∀ {A W cN W' cs o x},Ext A W cN W'→rep A W cs o x→rep cN W' cs o x
 pP:∀ {A W cs o x n ds p s},rep A W cs o x→cs.length=n→ds.length=s→p + s≤n→p + s≤o→rep A W (cs.take p ++ ds ++ cs.drop (p + s)) o x
@[reducible] def g9 (B:Type) [ae B]:sw B where
  size:=ae.size B
  rep A W cs o x:=ae.rep A W ((cs.drop o).take (ae.size B)) x
  one h ar a6 u hu:=by
   rcases BB (s:=ae.size B) hu with J | bB
   ·exact ae.one h u J
   ·exact J9 ar a6 bB
  mono e h:=ae.mono e h
  pP h ar hd aL hp:=by rw [EE ar hd aL (.inr hp)]; exact h
@[reducible] def c3 (B:Type) [ae B] {P:Type} (S:sw P):sw (B × P) where
  size:=ae.size B + S.size
  rep A W cs o x:=ae.rep A W ((cs.drop o).take (ae.size B)) x.1∧S.rep A W cs (o + ae.size B) x.2
  one h ar a6 u hu:=by
   rcases BB (s:=ae.size B) hu with J | bB
   ·exact ae.one h.1 u J
   ·exact S.one h.2 ar (by omega) u bB
  mono e h:=⟨ae.mono e h.1,S.mono e h.2⟩
  pP h ar hd aL hp:=⟨by rw [EE ar hd aL (.inr hp)]; exact h.1,S.pP h.2 ar hd aL (by omega)⟩
@[reducible] def ae.str {T P:Type} (S:sw P) (to:T→P) (N:Nat) (jr:S.size=N:=by rfl):ae T where
  size:=N
  agg:=true
  rep A W cs x:=cs.length=N∧S.rep A W cs 0 (to x)
  len h:=h.1
  one h:=fun u hu=>S.one h.2 h.1 (by omega) u (by simpa using hu)
  flat h:=by cases h
  mono e h:=⟨h.1,S.mono e h.2⟩
structure zL {P:Type} (S:sw P) (G:Type) [ae G] where
 off:Nat
 get:P→G
 set:P→G→P
 fI:off + ae.size G≤S.size
 hN:∀ {A W cs o b},S.rep A W cs o b→ae.rep A W ((cs.drop (o + off)).take (ae.size G)) (get b)
 kk:∀ {A W cs n o b ds g},cs.length=n→o + S.size≤n→S.rep A W cs o b→ae.rep A W ds g→S.rep A W (cs.take (o + off) ++ ds ++ cs.drop (o + off + ae.size G)) o (set b g)
def hK {B:Type} [ae B]:zL (g9 B) B where
 off:=0
 get b:=b
 set _ g:=g
 fI:=by show 0 + ae.size B≤ae.size B; omega
 hN h:=h
 kk ar a6 _ bx:=by
  have h:=Ka ar (ae.len bx) a6
  show ae.rep _ _ ((List.drop _ _).take _) _
  rw [Nat.add_zero,h]; exact bx
def dc {B:Type} [ae B] {P:Type} {S:sw P} :zL (c3 B S) B where
 off:=0
 get b:=b.1
 set b g:=(g,b.2)
 fI:=by show 0 + ae.size B≤ae.size B + S.size; omega
 hN h:=h.1
 kk {A W cs n o b ds g} ar a6 h bx:=by
  have a6:o + (ae.size B + S.size)≤n:=a6
  refine⟨?_,S.pP h.2 ar (ae.len bx) (by omega) (by omega)⟩
  rw [Nat.add_zero,Ka ar (ae.len bx) (by omega)]; exact bx
def br {B:Type} [ae B] {P:Type} {S:sw P} {G:Type} [ae G] (l:zL S G):zL (c3 B S) G where
 off:=ae.size B + l.off
 get b:=l.get b.2
 set b g:=(b.1,l.set b.2 g)
 fI:=by have:=l.fI; show ae.size B + l.off + ae.size G≤ae.size B + S.size; omega
 hN h:=by rw [← Nat.add_assoc]; exact l.hN h.2
 kk {A W cs n o b ds g} ar a6 h bx:=by
  have a6:o + (ae.size B + S.size)≤n:=a6
  have aq:=l.fI
  have ad:=l.kk ar (by omega) h.2 bx
  rw [Nat.add_assoc o] at ad
  exact⟨by rw [EE ar (ae.len bx) (by omega) (.inl (by omega))]; exact h.1,ad⟩
def aO.str {T P G:Type} [ae G] {S:sw P} {to:T→P} {N:Nat} (l:zL S G) (off:Nat) (get:T→G) (set:T→G→T) (jr:S.size=N:=by rfl) (a6:l.off=off:=by rfl) (J:∀ b,l.get (to b)=get b:=by intro b; rfl) (ad:∀ b g,l.set (to b) g=to (set b g):=by intro b g; rfl): @aO T G (ae.str S to N jr) _:=
 @aO.mk T G (ae.str S to N jr) _ off get set (by have:=l.fI; show off + ae.size G≤N; omega)
  (fun {A W cs b} h=>by have:=l.hN h.2; rw [Nat.zero_add,a6,J] at this; exact this)
  (fun {A W cs b ds g} h bx=>by
   have ax:=l.kk h.1 (by omega) h.2 bx
   rw [Nat.zero_add,a6,ad] at ax
   have aR:=l.fI
   exact⟨Sx h.1 (ae.len bx) (by omega),ax⟩)
class a2 (α:Type) [ae α] [Inhabited α] where
 cells:List Value
 ok:∀ A W,ae.rep A W cells (default:α)
instance:a2 Bool:=⟨[.bool false],fun _ _=>rfl⟩
instance:a2 Int:=⟨[.int .i64 0],fun _ _=>rfl⟩
instance:a2 (BitVec 64):=⟨[.int .u64 0],fun _ _=>rfl⟩
instance:a2 (BitVec 32):=⟨[.int .u32 0],fun _ _=>rfl⟩
instance:a2 (BitVec 16):=⟨[.int .u16 0],fun _ _=>rfl⟩
instance:a2 (BitVec 8):=⟨[.int .u8 0],fun _ _=>rfl⟩
instance:a2 ByteArray:=⟨[.string ByteArray.empty],fun _ _=>rfl⟩
instance {α:Type} [ae α]:a2 (List α):=⟨[.slice none 0 0],fun _ _=>⟨_,rfl,.inl ⟨rfl,rfl⟩⟩⟩
theorem Jr {α:Type} [ae α] {A W} {HI:List Value} {z:α} (h:ae.rep A W HI z):∀ n,fQ A W (List.replicate n HI).flatten (List.replicate n z)
 | 0=>⟨by simp,fun i aq=>by simp at aq⟩
 | n + 1=>by
   have J:=Jr h n
   have ad:fQ A W HI [z]:=⟨by simp [ae.len h],fun i aq=>by
    have:i=0:=by simpa using aq
    subst this
    rw [Nat.zero_mul,List.drop_zero,← ae.len h,List.take_length]; exact h⟩
   have:=rF ad J
   simpa [List.replicate_succ] using this
instance {α:Type} [ae α] [Inhabited α] [a2 α] {n:Nat} :a2 (Vector α n):=⟨(List.replicate n (a2.cells α)).flatten,fun A W=>by
 have:=Jr (a2.ok (α:=α) A W) n
 show fQ A W _ (Vector.replicate n default).toList
 simpa using this⟩
def Gh (α:Type) [ae α] [Inhabited α] [a2 α]:Value:=if ae.agg α=true then .agg (a2.cells α).toArray else(a2.cells α).headD undef
theorem cc.of {P:Program} {t:TypeId} {α:Type} [ae α] [Inhabited α] [a2 α] (h:(P.info? t).bind (·.zero)=some (Gh α)):cc P t (default:α) where
 zero:=by
  cases aq:P.info? t with
  | none=>simp [aq] at h
  | some i=>
    refine⟨i,Gh α,rfl,by simpa [aq] using h,fun A W=> ?_⟩
    have ok:=a2.ok (α:=α) A W
    unfold Gh
    cases bg:ae.agg α with
    | true=>simp only [if_true]; exact⟨by simp [shaped,bg],by simpa [Value.cells] using ok⟩
    | false=>
      have J:=ae.len ok
      rw [ae.flat bg] at J
      obtain⟨v,a3⟩:=List.length_eq_one_iff.1 J
      have ax:v.oneCell'=true:=ae.one ok v (by rw [a3]; simp)
      simp only [Bool.false_eq_true,if_false,a3,List.headD_cons]
      exact⟨by simp [shaped,bg,ax],by rw [nM ax]; rw [a3] at ok; exact ok⟩
theorem bq.of {P:Program} {t:TypeId} {α:Type} [ae α] {d:TypeDesc} (bg:(match d with | .struct _ | .array _ _=>true | _=>false)=ae.agg α) (hu:P.underlying t=some d) (hs:(P.info? t).map (·.size)=some (ae.size α)):bq P t α:=⟨hs,d,hu,bg⟩
theorem b4.of {P:Program} {s f o:Nat} {fs:Array Field} {fd:Field} {γ:Type} [ae γ] (hu:P.underlying s=some (.struct fs)) (a0:fs[f]? =some fd) (a6:fd.offset=o) (ef:bq P fd.type γ) (hs:Nat.beq (ae.size γ) 0=false):b4 P s f o:=by
 obtain⟨i,J,ad⟩:=ef.info
 exact⟨fs,fd,i,hu,a0,a6,J,fun h=>by rw [← ad,h] at hs; cases hs⟩
theorem sB.of {P:Program} {t n e s:Nat} {γ:Type} [ae γ] (hu:P.underlying t=some (.array n e)) (ef:bq P e γ) (hs:ae.size γ=s):sB P t n s:=by
 obtain⟨i,J,ad⟩:=ef.info
 exact⟨e,i,hu,J,by rw [ad,hs]⟩
theorem bind_some {α β:Type} {m:Option α} {f:α→Option β} {r:β} (h:m.bind f=some r):∃ y,m=some y∧f y=some r:=Option.bind_eq_some_iff.1 h
theorem ij {α:Type} {b:Bool} {p q:Option α} {r:α} (hb:b=true) (h:cond b p q=some r):p=some r:=by rw [hb] at h; exact h
theorem ik {α:Type} {b:Bool} {p q:Option α} {r:α} (hb:b=false) (h:cond b p q=some r):q=some r:=by rw [hb] at h; exact h
theorem aS {α:Type} {a b:α} (h:some a=some b):a=b:=Option.some.inj h
def c5 {α:Type} [Inhabited α] (b want:Bool) (m:Option α):Option α:=if b=want then m else some default
theorem h2 {α:Type} [Inhabited α] {b want:Bool} {m:Option α} {y:α} (h:c5 b want m=some y) (hb:b=want):m=some y:=by unfold c5 at h; rw [if_pos hb] at h; exact h
def gu:Nat:=2 ^ 80
theorem bs.n1 {c E L a W} (h:bs c E L a W) (n:Nat):bs c E (L.drop n) a W:=
 h.sub (fun e he=>List.mem_of_mem_drop he) (by
   have:(aJ (L.drop n)).Sublist (aJ L):=by
    induction L generalizing n with
    | nil=>simp
    | cons x r bz=>
      cases n with
      | zero=>simp
      | succ n=>
        have aQ:∀ n,(aJ (r.drop n)).Sublist (aJ r):=by
         intro n
         have key:∀ (r:List aF) n,(aJ (r.drop n)).Sublist (aJ r):=by
          intro r
          induction r with
          | nil=>intro n; simp
          | cons y r M5=>
            intro n
            cases n with
            | zero=>simp
            | succ n=>
              simp only [List.drop_succ_cons]
              cases au:y.key with
              | none=>simpa [aJ,au] using M5 n
              | some p=>simp only [aJ,au]; exact(M5 n).cons _
         exact key r n
        simp only [List.drop_succ_cons]
        cases au:x.key with
        | none=>simpa [aJ,au] using aQ n
        | some p=>simp only [aJ,au]; exact(aQ n).cons _
   exact h.nodup.sublist this)
section
variable {c:cT} {E:List (Nat × I)} {L:List aF} {ops:Array Oper} {Q:Exit→Act→World→Prop}
theorem ai.c5 {γ:Type} {x:Operand} {b:Bool} {y z:Code} (E':γ→List (Nat × I)) (av:γ→List aF) (ar:a4 c E L x (.of b)) (sD:∀ g,ah c Q .normal (E' g) (av g))
 (bI:(∀ g,ah c Q .normal (E' g) (av g))→b=true→ai c Q y E L) (a0:(∀ g,ah c Q .normal (E' g) (av g))→b=false→ai c Q z E L):ai c Q (.cond x y z) E L:=
 ai.cond ar (bI sD) (a0 sD)
theorem ah.meet {x:Exit} {E':List (Nat × I)} {av:List aF} (n:Nat) (an:L.drop n=av) (h:gT E E') (k:ah c Q x E' av):ah c Q x E L:=fun a W s=>k a W (by rw [← an]; exact(s.n1 n).less h.look)
def wJ {σ ε γ δ:Type} (c:cT) (E:σ→γ→List (Nat × I)) (L:σ→γ→List aF) (xs:ε→Exit) (fj:ε→δ→List (Nat × I)) (Lx:ε→δ→List aF):σ ⊕ ε→Exit→Act→World→Prop
 | .inl s,x,a,W=>x= .normal∧ ∃ g,bs c (E s g) (L s g) a W
 | .inr e,x,a,W=>x≠ .normal∧x=xs e∧ ∃ g,bs c (fj e g) (Lx e g) a W
theorem ah.Sy {σ ε γ δ:Type} {E':σ→γ→List (Nat × I)} {av:σ→γ→List aF} {xs:ε→Exit} {fj:ε→δ→List (Nat × I)} {Lx:ε→δ→List aF} {s:σ} (g:γ) (n:Nat)
 (an:L.drop n=av s g) (h:gT E (E' s g)):ah c (wJ c E' av xs fj Lx (.inl s)) .normal E L:=fun a W st=>⟨rfl,g,by rw [← an]; exact(st.n1 n).less h.look⟩
theorem ah.Sz {σ ε γ δ:Type} {E':σ→γ→List (Nat × I)} {av:σ→γ→List aF} {xs:ε→Exit} {fj:ε→δ→List (Nat × I)} {Lx:ε→δ→List aF} {e:ε} {x:Exit} (g:δ) (n:Nat)
 (ak:x=xs e) (aL:x≠ .normal) (an:L.drop n=Lx e g) (h:gT E (fj e g)):ah c (wJ c E' av xs fj Lx (.inr e)) x E L:=fun a W st=>⟨aL,ak,g,by rw [← an]; exact(st.n1 n).less h.look⟩
theorem ai.Cd {σ ε γ δ:Type} {body:Code} {N:Nat} {b:σ→Option (σ ⊕ ε)} {b0:σ} {e:ε} (ar:gz N b b0=some e)
 (E':σ→γ→List (Nat × I)) (av:σ→γ→List aF) (xs:ε→Exit) (fj:ε→δ→List (Nat × I)) (Lx:ε→δ→List aF) (g0:γ) (an:L=av b0 g0) (aw:gT E (E' b0 g0))
 (qD:∀ s r,b s=some r→ ∀ g,ai c (wJ c E' av xs fj Lx r) body (E' s g) (av s g))
 (nd:∀ g,ah c Q (xs e) (fj e g) (Lx e g)):ai c Q (.loop body) E L:=fun a W st=>by
 subst an
 exact I4 b (fun s a W=> ∃ g,bs c (E' s g) (av s g) a W) (fun e x a W=>x=xs e∧ ∃ g,bs c (fj e g) (Lx e g) a W)
  (fun s r hs a W ⟨g,kY⟩=>wpIn_mono (qD s r hs g a W kY) (fun x a W h=>by
   cases r with
   | inl bW=>exact h
   | inr e'=>exact⟨h.1,h.2⟩)) Q e (fun x a W ⟨ak,g,hs⟩=>by subst ak; exact nd g a W hs) ar ⟨g0,st.less aw.look⟩
end
end Gv
namespace Gv
open Go
set_option linter.unusedVariables false
set_option linter.unusedSimpArgs false
theorem bO.as {c E L o} {α:Type} [ae α] {a b:α} (h:bO c E L o (.of a)) (e:a=b):bO c E L o (.of b):=by subst e; exact h
def I.ue {α β:Type} [ae α] [ae β] (P:Program) (F:α→Option β):I where
 holds A W v:= ∃ f fst cap,v= .func (.func f) fst cap∧bR P f∧ ∀ cN W',Ext A W cN W'→ (∀ k∈cN,k < W'.heap.size)→ ∀ x r pk,F x=some r→ (I.of x).holds cN W' pk→
  Calls P f (fst ++ #[pk] ++ cap) W' fun e zM=> ∃ v,e= .returned v∧Fr [] W' zM∧ (I.of r).holds cN zM v
 mono e h:=let⟨f,fst,cap,J,ad,ax⟩:=h; ⟨f,fst,cap,J,ad,fun cN W' e'=>ax cN W' (e.trans e')⟩
def I.CG {α β γ:Type} [ae α] [ae β] [ae γ] (P:Program) (F:α→β→Option γ):I where
 holds A W v:= ∃ f fst cap,v= .func (.func f) fst cap∧bR P f∧ ∀ cN W',Ext A W cN W'→ (∀ k∈cN,k < W'.heap.size)→ ∀ x y r pk De,F x y=some r→ (I.of x).holds cN W' pk→ (I.of y).holds cN W' De→
  Calls P f (fst ++ #[pk,De] ++ cap) W' fun e zM=> ∃ v,e= .returned v∧Fr [] W' zM∧ (I.of r).holds cN zM v
 mono e h:=let⟨f,fst,cap,J,ad,ax⟩:=h; ⟨f,fst,cap,J,ad,fun cN W' e'=>ax cN W' (e.trans e')⟩
section
variable {c:cT} {E:List (Nat × I)} {L:List aF} {d:Option Tmp} {ty:TypeId} {pos:String} {af:Array Edge} {g:Option (Nat × Bool)}
theorem Q2 {α β:Type} [ae α] [ae β] {F:α→Option β} {f:FuncId} (ea:bR c.P f) (h:∀ x r,F x=some r→b9 c.P f [.of x] (.of r)):a4 c E L (.func f) (.ue c.P F):=fun a W s=>
 ⟨f,#[],#[],rfl,ea,fun cN W' _ fk x r pk nC ak=>by simpa using h x r nC cN W' [pk] fk (.cons ak .nil)⟩
theorem Bo {α β:Type} [ae α] [ae β] {F:α→Option β} {mY x:Operand} {ats:Array TypeId} {Ag:α} {r:β} (a0:a4 c E L mY (.ue c.P F)) (ak:a4 c E L x (.of Ag)) (h:F Ag=some r):
 bO c E L ⟨d,.call ⟨.value mY,#[x],ats⟩,ty,pos,af,g⟩ (.of r):=fun a W s=>by
 obtain⟨f,fst,cap,J,ea,ad⟩:=a0 a W s
 refine .te (f:=f) (args:=fst ++ #[a.eval x] ++ cap) (W':=W) ?_ (ad _ W (Ext.refl _ _) s.BP _ _ _ h (ak a W s))
 simp [execOp,resolve,Deferred.ofValue,J,invoke,ea.run]
theorem Jp {α β γ:Type} [ae α] [ae β] [ae γ] {F:α→β→Option γ} {mY x y:Operand} {ats:Array TypeId} {Ag:α} {NG:β} {r:γ} (a0:a4 c E L mY (.CG c.P F)) (ak:a4 c E L x (.of Ag)) (a7:a4 c E L y (.of NG)) (h:F Ag NG=some r):
 bO c E L ⟨d,.call ⟨.value mY,#[x,y],ats⟩,ty,pos,af,g⟩ (.of r):=fun a W s=>by
 obtain⟨f,fst,cap,J,ea,ad⟩:=a0 a W s
 refine .te (f:=f) (args:=fst ++ #[a.eval x,a.eval y] ++ cap) (W':=W) ?_ (ad _ W (Ext.refl _ _) s.BP _ _ _ _ _ h (ak a W s) (a7 a W s))
 simp [execOp,resolve,Deferred.ofValue,J,invoke,ea.run]
end
end Gv
namespace Gv
open Go Go.ChangeShapes Go.WideShapes Go.RowKit
set_option linter.unusedVariables false
structure Arg (P:Program) (t:TypeId) (α:Type) [ae α]:Prop where
 cells:P.cellsOf t=ae.size α
 read:∀ {H:Type} {enc:TypeId × Value→H} {W:World} {n:Nat} {cs:List Value} {x:DataW H × List MemPlace},DataW.trod enc P W 0 (fun _=>true) true n t cs=some x→ ∃ a:α,ae.rep [] W cs a
 form:∀ {W:World} {b:Nat} {v:Value},Value.okWide P W .any b t v→shaped (ae.agg α) v
variable {P:Program} {t e:TypeId}
theorem QC (hu:P.underlying t=some .bool) {H:Type} {enc:TypeId × Value→H} {W:World} {n:Nat} {cs:List Value} {x:DataW H × List MemPlace} (h:DataW.trod enc P W 0 (fun _=>true) true n t cs=some x):
 ∃ b:Bool,cs= [.bool b]:=by
 cases n with
 | zero=>simp [DataW.trod] at h
 | succ n=>
   unfold DataW.trod at h
   rw [hu] at h
   split at h <;> first | exact⟨_,rfl⟩ | (simp at h)
   all_goals simp_all
theorem Arg.bool (hu:P.underlying t=some .bool) (aj:P.cellsOf t=1):Arg P t Bool where
 cells:=aj
 read {H enc W n cs x} h:=by
  obtain⟨b,rfl⟩:=QC hu h
  exact⟨b,rfl⟩
 form {W b v} h:=by
  unfold Value.okWide Cell.okWide at h
  simp only [hu] at h
  unfold Cell.ok at h
  rw [hu] at h
  cases v <;> first | rfl | simp at h
theorem x8 {k:IntKind} (hu:P.underlying t=some (.int k)) {H:Type} {enc:TypeId × Value→H} {W:World} {n:Nat} {cs:List Value} {x:DataW H × List MemPlace} (h:DataW.trod enc P W 0 (fun _=>true) true n t cs=some x):
 ∃ z:Int,cs= [.int k z]∧k.min≤z∧z≤k.max:=by
 cases n with
 | zero=>simp [DataW.trod] at h
 | succ n=>
   unfold DataW.trod at h
   rw [hu] at h
   split at h <;> simp_all [Lit.wf]
theorem x9 {k:IntKind} (hu:P.underlying t=some (.int k)) {W:World} {b:Nat} {v:Value} (h:Value.okWide P W .any b t v):v.oneCell'=true:=by
 unfold Value.okWide Cell.okWide at h
 simp only [hu] at h
 unfold Cell.ok at h
 rw [hu] at h
 cases v <;> first | rfl | simp at h
theorem Arg.int (hu:P.underlying t=some (.int .i64)) (aj:P.cellsOf t=1):Arg P t Int where
 cells:=aj
 read h:=by obtain⟨z,rfl,_⟩:=x8 hu h; exact⟨z,rfl⟩
 form h:=x9 hu h
theorem Arg.u64 (hu:P.underlying t=some (.int .u64)) (aj:P.cellsOf t=1):Arg P t (BitVec 64) where
 cells:=aj
 read h:=by
  obtain⟨z,rfl,J,ad⟩:=x8 hu h
  simp [IntKind.min,IntKind.max,IntKind.signed,IntKind.bits] at J ad
  exact⟨BitVec.ofInt 64 z,by show [_]= [_]; simp; omega⟩
 form h:=x9 hu h
theorem Arg.u32 (hu:P.underlying t=some (.int .u32)) (aj:P.cellsOf t=1):Arg P t (BitVec 32) where
 cells:=aj
 read h:=by
  obtain⟨z,rfl,J,ad⟩:=x8 hu h
  simp [IntKind.min,IntKind.max,IntKind.signed,IntKind.bits] at J ad
  exact⟨BitVec.ofInt 32 z,by show [_]= [_]; simp; omega⟩
 form h:=x9 hu h
theorem Arg.u16 (hu:P.underlying t=some (.int .u16)) (aj:P.cellsOf t=1):Arg P t (BitVec 16) where
 cells:=aj
 read h:=by
  obtain⟨z,rfl,J,ad⟩:=x8 hu h
  simp [IntKind.min,IntKind.max,IntKind.signed,IntKind.bits] at J ad
  exact⟨BitVec.ofInt 16 z,by show [_]= [_]; simp; omega⟩
 form h:=x9 hu h
theorem Arg.u8 (hu:P.underlying t=some (.int .u8)) (aj:P.cellsOf t=1):Arg P t (BitVec 8) where
 cells:=aj
 read h:=by
  obtain⟨z,rfl,J,ad⟩:=x8 hu h
  simp [IntKind.min,IntKind.max,IntKind.signed,IntKind.bits] at J ad
  exact⟨BitVec.ofInt 8 z,by show [_]= [_]; simp; omega⟩
 form h:=x9 hu h
theorem Q8 (hs:(∃ fs,P.underlying t=some (.struct fs))∨ (∃ n e,P.underlying t=some (.array n e))) {W:World} {b:Nat} {v:Value} (h:Value.okWide P W .any b t v):shaped true v:=by
 unfold Value.okWide at h
 rcases hs with⟨fs,hu⟩ | ⟨n,e,hu⟩ <;> rw [hu] at h <;> exact⟨h.choose,h.choose_spec.1⟩
theorem Arg.arr {α:Type} [ae α] [Inhabited α] {n:Nat} (hu:P.underlying t=some (.array n e)) (he:Arg P e α) (aj:P.cellsOf t=n * ae.size α):Arg P t (Vector α n) where
 cells:=aj
 read {H enc W m cs x} h:=by
  obtain⟨xs,q,_,_,ar,hlen,a0⟩:=DataW.trod_array hu h
  have aQ:∀ i,i < n→ ∃ a:α,ae.rep [] W ((cs.drop (i * ae.size α)).take (ae.size α)) a:=by
   intro i aq
   have J:=a0 i aq
   rw [List.getElem?_eq_getElem (by omega)] at J
   rw [← he.cells]
   exact he.read J
  refine⟨Vector.ofFn fun i=>(aQ i.1 i.2).choose,by rw [ar,aj]; simp,fun i aq=> ?_⟩
  have fY:i < n:=by simpa using aq
  have:=(aQ i fY).choose_spec
  simpa using this
 form h:=Q8 (.inr ⟨_,_,hu⟩) h
theorem I8 {H:Type} {enc:TypeId × Value→H} {W W':World} (ar:laidOutB P=true) {sp:Nat→Bool} :∀ {gK:List TypeId} {vs:List Value} {ds:List (DataW H)} {bj:List MemPlace},
 (∀ t∈gK,P.readableRec t=true∧t < P.types.size)→DataW.TrodAll enc P W 0 (fun _=>true) true gK vs ds bj→ (∀ p∈bj,W.sameAt W' p)→ (∀ p∈bj,sp p.block=true)→DataW.TrodAll enc P W' 0 sp true gK vs ds bj
 | [],_,_,_,_,h,_,_=>by
   obtain⟨rfl,rfl,rfl⟩:=trodAll_nil h
   exact rfl
 | _ :: _,_,_,_,bI,h,hs,hp=>by
   obtain⟨v,CS,d,CT,p,q,rfl,rfl,rfl,J,ad⟩:=trodAll_cons h
   have bB:=bI _ (List.mem_cons_self ..)
   exact⟨p,q,WideElems.Trod_stays ar bB.1 bB.2 J (fun x ak=>hs x (by simp [ak])) (fun x ak=>hp x (by simp [ak])),
    I8 ar (fun t o2=>bI t (List.mem_cons_of_mem _ o2)) ad (fun x ak=>hs x (by simp [ak])) (fun x ak=>hp x (by simp [ak])),rfl⟩
theorem Fr.below {W W':World} (h:Fr [] W W'):Below W.heap.size W W':=⟨h.os,h.tape,h.output,h.size,fun k au=>h.block k au (by simp)⟩
theorem Js {H:Type} {enc:TypeId × Value→H} {f:Func} {s:ChangeSpec} {W W':World} {args:Array Value} {ds gs:List (DataW H)} {before:List MemPlace} {hc:TypeId}
 (ar:laidOutB P=true) (hp:∀ t∈f.params.toList,P.readableRec t=true∧t < P.types.size) (aQ:f.resultTypes= #[hc]) (hb:P.underlying hc=some .bool) (a3:s.vars= [])
 (hs:s.fn H ds= { results:= [.lit (.bool true)],args:=ds })
 (rm:DataW.Whole enc P f.params.toList s.vars false W args.toList ds gs before) (nC:Fr [] W W'):
 s.post enc P f false true false false W args (.bool true) W':=by
 have WB:=rm
 obtain⟨p,q,fk,Df,rfl,dg,aL⟩:=WB
 rw [a3] at Df
 obtain⟨rfl,rfl⟩:=trodVars_none Df
 have b5:∀ x∈p,x.block < W.heap.size:=fun x ak=>rm.lt x (by simpa using ak)
 have o5:=nC.below
 have Uk:∀ x∈p,W.sameAt W' x:=fun x ak=>o5.same (b5 x ak)
 have VK:∀ (b:Nat) (sp:Nat→Bool) (hd:Bool),DataW.TrodAll enc P W' b sp hd f.resultTypes.toList ((Value.bool true).resultList f.resultTypes.size) [.lit (.bool true)] []:=by
  intro b sp hd
  rw [aQ]
  exact⟨[],[],shut_bool hb true,rfl,rfl⟩
 refine⟨ds,[],p ++ [],[],p,[],rm,?_,?_,?_,World.keptBut_mono (fun x ak=> ?_) (o5.frame fun _=>False),fun h=>by cases h⟩
 ·rw [List.append_nil,hs]; exact VK _ _ _
 ·rw [List.append_nil,hs]; exact I8 ar hp fk Uk (fun x ak=>by simpa using b5 x ak)
 ·rw [List.append_nil,hs,a3]; rfl
 ·exact ak.elim
end Gv
namespace Gv
open Go Go.ChangeShapes Go.WideShapes Go.RowKit
set_option linter.unusedVariables false
set_option linter.unusedSimpArgs false
theorem Q9 {P:Program} {fits:TypeId→Bool} {d:Nat} {e:TypeId} {count off n:Nat} (h:rowAt P fits d e count off n=true):off≤count * P.cellsOf e:=by
 cases d with
 | zero=>cases h
 | succ d=>
   unfold rowAt at h
   simp only at h
   split at h
   ·cases h
   ·rename_i hs
    have hp:0 < P.cellsOf e:=Nat.pos_of_ne_zero hs
    have Yc:=Nat.div_add_mod off (P.cellsOf e)
    rw [Bool.or_eq_true] at h
    rcases h with h | h
    ·simp only [Bool.and_eq_true,beq_iff_eq,decide_eq_true_eq] at h
     have:P.cellsOf e * (off / P.cellsOf e)≤P.cellsOf e * count:=Nat.mul_le_mul_left _ (by omega)
     rw [Nat.mul_comm count]; omega
    ·simp only [Bool.and_eq_true,decide_eq_true_eq] at h
     have hm:=Nat.mod_lt off hp
     have:P.cellsOf e * (off / P.cellsOf e + 1)≤P.cellsOf e * count:=Nat.mul_le_mul_left _ (by omega)
     rw [Nat.mul_add] at this
     rw [Nat.mul_comm count]; omega
theorem I9 {P:Program} :∀ {d:Nat} {e:TypeId} {count off:Nat} {u:TypeId} {n:Nat},liesAt P d e count off u n=true→off≤count * P.cellsOf e
 | 0,_,_,_,_,_,h=>by cases h
 | d + 1,e,count,off,u,n,h=>by
   unfold liesAt at h
   rw [Bool.or_eq_true] at h
   rcases h with h | h
   ·exact Q9 h
   ·split at h
    ·exact I9 h
    ·cases h
structure pR (P:Program) (t:TypeId) (α:Type) [ae α]:Prop where
 top:∀ {H:Type} {enc:TypeId × Value→H} {W:World} {n b:Nat} {v:Value} {x:DataW H × List MemPlace},DataW.trod enc P W 0 (fun _=>true) true n t v.cells.toList=some x→Value.okWide P W .any b t v→ ∃ a:α,(I.of a).holds [] W v
variable {P:Program} {t e:TypeId}
theorem pR.of {α:Type} [ae α] (h:Arg P t α):pR P t α where
 top J ad:=let⟨a,ax⟩:=h.read J; ⟨a,h.form ad,ax⟩
theorem Ra {α:Type} [ae α] (hu:P.underlying t=some (.slice e)) (he:Arg P e α) (dg:Nat.beq (ae.size α) 0=false) {H:Type} {enc:TypeId × Value→H} {W:World} {n b:Nat} {v:Value} {x:DataW H × List MemPlace}
 (h:DataW.trod enc P W 0 (fun _=>true) true n t [v]=some x) (gw:Cell.okWide P W .any b t v):∃ a:List α,(I.of a).holds [] W v:=by
 have jT:ae.size α≠0:=fun h=>by rw [h] at dg; cases dg
 rcases DataW.trod_slice hu h with⟨J,_⟩ | ⟨a,len,cap,elems,rest,m,_,J,_,_,Yd,uh,Ye,VL,XZ,_⟩
 ·have:=List.singleton_inj.1 J
  subst this
  exact⟨[],lV.2 (.inl ⟨rfl,rfl⟩)⟩
 ·have:=List.singleton_inj.1 J
  subst this
  unfold Cell.okWide at gw
  simp only [hu] at gw
  unfold Cell.ok at gw
  rw [hu] at gw
  obtain⟨_,_,_,LN,row,cells,wK,VM⟩:=gw
  obtain⟨NH,rn,Yf⟩:=a
  simp only at LN
  subst LN
  unfold World.shape? at wK
  cases ed:W.heap[NH]? with
  | none=>rw [ed] at wK; cases wK
  | some jq=>
    rw [ed] at wK
    cases jq <;> simp at wK
    rename_i p0 T ha
    obtain⟨Yy,dL⟩:=wK
    have X3:rn≤p0.size:=by
     have aW:rn≤_:=I9 VM
     have bc:=Nat.div_mul_le_self cells (P.cellsOf row)
     omega
    have Ul:=he.cells
    have fq:∀ i,i < len→ ∃ a:α,ae.rep [] W ((p0.toList.drop (rn + i * ae.size α)).take (ae.size α)) a∧rn + (i + 1) * ae.size α≤p0.size:=fun i aq=>by
     have aW:=VL i aq
     rw [List.getElem?_eq_getElem (by omega)] at aW
     obtain⟨dx,bc,cn⟩:=Option.bind_eq_some_iff.1 aW
     obtain⟨_,ar,aj⟩:=World.cells?_some bc
     rw [Ul] at ar aj bc
     have tM:∀ j,j < ae.size α→p0[rn + i * ae.size α + j]? =dx[j]? :=fun j aC=>by
      rw [← aj j aC,ig,ig]
      unfold World.cell?
      simp [ed]
     have heq:(p0.toList.drop (rn + i * ae.size α)).take (ae.size α)=dx:=by
      apply List.ext_getElem?
      intro j
      rw [List.getElem?_take]
      by_cases aC:j < ae.size α
      ·rw [if_pos aC,List.getElem?_drop,Array.getElem?_toList]; exact tM j aC
      ·rw [if_neg aC]; symm; exact List.getElem?_eq_none (by omega)
     obtain⟨a,bg⟩:=he.read cn
     refine⟨a,by rw [heq]; exact bg,?_⟩
     have eo:=tM (ae.size α - 1) (by omega)
     rw [List.getElem?_eq_getElem (show ae.size α - 1 < dx.length by omega)] at eo
     have:=(Array.getElem?_eq_some_iff.1 eo).1
     rw [Nat.add_mul]; omega
    have hex:∃ xs:List α,xs.length=len∧ ∀ i (h:i < xs.length),ae.rep [] W ((p0.toList.drop (rn + i * ae.size α)).take (ae.size α)) xs[i]:=by
     refine⟨List.ofFn fun i:Fin len=>(fq i.1 i.2).choose,by simp,fun i aq=> ?_⟩
     have fY:i < len:=by simpa using aq
     rw [List.getElem_ofFn]
     exact(fq i fY).choose_spec.1
    obtain⟨xs,zK,WC⟩:=hex
    have hbound:rn + xs.length * ae.size α≤p0.size:=by
     rw [zK]
     rcases Nat.eq_zero_or_pos len with bB | bB
     ·rw [bB]; omega
     ·have:=(fq (len - 1) (by omega)).choose_spec.2
      rw [show len - 1 + 1=len by omega] at this
      exact this
    refine⟨xs,lV.2 (.inr ⟨NH,rn,cap,p0,T,ha,by rw [zK],by simp,ed,by omega,by omega,hbound,?_,fun i aq=> ?_⟩)⟩
    ·rw [List.length_take,List.length_drop]; simp; omega
    ·have hle:(i + 1) * ae.size α≤xs.length * ae.size α:=Nat.mul_le_mul_right _ aq
     rw [Nat.succ_mul] at hle
     rw [sY _ _ _ _ _ hle]
     exact WC i aq
theorem pR.M6 {α:Type} [ae α] (hu:P.underlying t=some (.slice e)) (he:Arg P e α) (dg:Nat.beq (ae.size α) 0=false):pR P t (List α) where
 top {H enc W n b v x} h gw:=by
  have wm:Cell.okWide P W .any b t v:=by
   unfold Value.okWide at gw
   simp only [hu] at gw
   exact gw
  have VN:v.oneCell'=true:=by
   unfold Cell.okWide at wm
   simp only [hu] at wm
   unfold Cell.ok at wm
   rw [hu] at wm
   cases v <;> first | rfl | simp at wm
  rw [nM VN] at h
  exact Ra hu he dg h wm
theorem xV {H:Type} {enc:TypeId × Value→H} {W:World} {gK:List TypeId} {vs:List Value} {ds:List (DataW H)} {bj:List MemPlace} {α:Type} [ae α] {b:Nat} (bg:pR P t α)
 (h:DataW.TrodAll enc P W 0 (fun _=>true) true (t :: gK) vs ds bj) (gw:∀ (j:Nat) u v,(t :: gK)[j]? =some u→vs[j]? =some v→Value.okWide P W .any b u v):
 ∃ (a:α) (v:Value) (GJ:List Value) (M7:List (DataW H)) (me:List MemPlace) (d:DataW H),vs=v :: GJ∧ds=d :: M7∧ (I.of a).holds [] W v∧DataW.TrodAll enc P W 0 (fun _=>true) true gK GJ M7 me∧
   (∀ (j:Nat) u w,gK[j]? =some u→GJ[j]? =some w→Value.okWide P W .any b u w):=by
 obtain⟨v,CS,d,CT,p,q,rfl,rfl,rfl,⟨n,J⟩,ad⟩:=trodAll_cons h
 obtain⟨a,ax⟩:=bg.top J (gw 0 t v rfl rfl)
 exact⟨a,v,CS,CT,q,d,rfl,rfl,ax,ad,fun j u w aC hw=>gw (j + 1) u w (by simpa using aC) (by simpa using hw)⟩
end Gv
namespace Gv
open Go
set_option linter.unusedVariables false
set_option linter.unusedSimpArgs false
theorem P7 {av L:List aF} (h:av.Sublist L):(aJ av).Sublist (aJ L):=by
 induction h with
 | slnil=>simp [aJ]
 | cons e _ bz=>cases au:e.key <;> simp only [aJ,au] <;> first | exact bz | exact bz.cons _
 | cons_cons e _ bz=>cases au:e.key <;> simp only [aJ,au] <;> first | exact bz | exact bz.cons_cons _
theorem aF.rN {e:aF} {A cN W W'} (h:e.ok A W) (x:Ext A W cN W') (hb:∀ p,e.key=some p→W'.heap[p]? =W.heap[p]?):e.ok cN W':=by
 unfold aF.ok at *
 cases au:e.key with
 | none=>rw [au] at h; exact h
 | some p=>
   rw [au] at h
   obtain⟨o,J,ad⟩:=h
   exact⟨o,by rw [hb p au]; exact J,dA.mono _ x ad⟩
def jL (X bM:List Nat) (iC:World) {δ:Type} (ρ:δ→I) (Lo:δ→List aF):Ending→World→Prop:=fun e W'=>
 ∃ v d,e= .returned v∧Fr X iC W'∧ (aJ (Lo d)).Nodup∧ (∀ k∈aJ (Lo d),k < W'.heap.size∧ (k < iC.heap.size→k∈X)∧k ∉ bM)∧ (∀ e∈Lo d,e.ok (aJ (Lo d) ++ bM) W')∧ (ρ d).holds (aJ (Lo d) ++ bM) W' v
def bF (P:Program) (f:FuncId) (τs:List I) (Lin:List aF) {δ:Type} (ρ:δ→I) (Lo:δ→List aF):Prop:=
 ∀ (A:List Nat) (W:World) (vs:List Value),(∀ k∈A,k < W.heap.size∧k ∉ aJ Lin)→ (aJ Lin).Nodup→ (∀ k∈aJ Lin,k < W.heap.size)→ (∀ e∈Lin,e.ok (aJ Lin ++ A) W)→fM (aJ Lin ++ A) W τs vs→
   Calls P f vs.toArray W (jL (aJ Lin) A W ρ Lo)
theorem bF.of {P:Program} {f:FuncId} {fn:Func} {code:Code} {n:Nat} {τs:List I} {Lin:List aF} {δ:Type} {ρ:δ→I} {Lo:δ→List aF} (a0:P.funcs[f]? =some fn) (hb:fn.body=some code) (aL:fn.ntmps=n) (hlen:Nat.ble τs.length n=true)
 (h:∀ W A,ai ⟨P,n,W,aJ Lin,A,none,[]⟩ (bodyPost P fn (jL (aJ Lin) A W ρ Lo)) code (params 0 τs) Lin):bF P f τs Lin ρ Lo:=by
 intro A W vs fk fB b5 gw a3
 refine calls_of_wp a0 hb (wpIn_wide.1 (h W A _ _ ?_))
 have ar:=a3.length
 have hle:τs.length≤n:=Nat.le_of_ble_eq_true hlen
 exact
 {defers:=rfl
  size:=by simp [aL,ar]; omega
  env:=fun t τ ka=>by
   obtain⟨_,v,ad,ax⟩:=s5 a3 0 t τ ka
   refine⟨v,?_,ax⟩
   have b5:t < vs.length:=(List.getElem?_eq_some_iff.1 ad).1
   rw [Array.getElem?_append_left (by simpa using b5)]
   simpa using ad
  dm:= .refl _ _
  own:=gw
  nodup:=fB
  lt:=b5
  fA:=fun k au _=>au
  eC:=fk }
section
variable {c:cT} {E:List (Nat × I)} {L:List aF} {ops:Array Oper} {Q:Exit→Act→World→Prop}
variable {d:Option Tmp} {ty:TypeId} {pos:String} {af:Array Edge} {g:Option (Nat × Bool)} {x y:Operand} {t t2:TypeId}
def zN (c:cT) (E:List (Nat × I)) (L:List aF) (r:ResultVar) (τ:I):Prop:=
 ∀ a W,bs c E L a W→ ∃ v,(tu a.tmps r).run c.P W= .ok v W∧τ.holds (aJ L ++ c.bM) W v
theorem df {t:Nat} {τ:I} (h:look E t=some τ):zN c E L (.tmp t) τ:=fun a W s=>by
 obtain⟨v,J,ad⟩:=s.env t τ h
 exact⟨v,by simp [tu,J],ad⟩
theorem jK {t:Nat} {ty:TypeId} {i p:Nat} {α:Type} [ae α] {x:α} (ef:bq c.P ty α) (h:look E t=some (.eq (.pointer (some ⟨p,0,none⟩)))) (an:L[i]? =some ⟨some p,.var x⟩):zN c E L (.cell t ty) (.of x):=fun a W s=>by
 obtain⟨v,J,ad⟩:=s.env t _ h
 subst ad
 obtain⟨jq,ed,cs,T,rfl,fq⟩:=s.own _ (List.mem_of_getElem? an)
 have ar:cs.toList.length=ae.size α:=ae.len fq
 have dL:cs.size=ae.size α:=by simpa using ar
 obtain⟨v,ax,aR⟩:=sW (A:=aJ L ++ c.bM) (off:=0) ef ed (by omega) (by rw [List.drop_zero,← ar,List.take_length]; exact fq)
 exact⟨v,by simp [tu,J,asAddr,ax],aR⟩
theorem bs.ends {a:Act} {W:World} (s:bs c E L a W) {δ:Type} {ρ:δ→I} {Lo:δ→List aF} (a9:δ) (hs:(Lo a9).Sublist L) {v:Value} (a3:(ρ a9).holds (aJ L ++ c.bM) W v):jL c.X c.bM c.iC ρ Lo (.returned v) W:=by
 have j5:=P7 hs
 have au:∀ k∈aJ (Lo a9),k∈aJ L:=fun k au=>j5.subset au
 have gA:Ext (aJ L ++ c.bM) W (aJ (Lo a9) ++ c.bM) W:= .drop fun k hm=>by
  rcases List.mem_append.1 hm with hm | hm
  ·exact List.mem_append.2 (.inl (au k hm))
  ·exact List.mem_append.2 (.inr hm)
 exact⟨v,a9,rfl,s.dm,s.nodup.sublist j5,fun k hm=>⟨s.lt k (au k hm),s.fA k (au k hm),fun bg=>(s.eC k bg).2 (au k hm)⟩,
  fun e he=>aF.rN (s.own e (hs.subset he)) gA fun _ _=>rfl,I.mono _ gA a3⟩
theorem ah.ez {fn:Func} {r:ResultVar} {τ:I} {δ:Type} {ρ:δ→I} {Lo:δ→List aF} (a9:δ) (hs:(Lo a9).Sublist L) (aQ:fn.results= #[r]) (uB:ρ a9=τ) (h:zN c E L r τ) (hv:c.ds= []:=by rfl):ah c (bodyPost c.P fn (jL c.X c.bM c.iC ρ Lo)) .ret E L:=fun a W s=>by
 subst uB
 obtain⟨v,J,ad⟩:=h a W s
 exact⟨s.vz hv,v,by simp [vx,aQ,J],s.ends a9 hs ad⟩
theorem ah.jJ {fn:Func} {r gJ:ResultVar} {τ o3:I} {δ:Type} {ρ:δ→I} {Lo:δ→List aF} (a9:δ) (hs:(Lo a9).Sublist L) (aQ:fn.results= #[r,gJ]) (uB:ρ a9= .eA [τ,o3]) (h:zN c E L r τ) (ad:zN c E L gJ o3) (hv:c.ds= []:=by rfl):ah c (bodyPost c.P fn (jL c.X c.bM c.iC ρ Lo)) .ret E L:=fun a W s=>by
 obtain⟨v,ax,aR⟩:=h a W s
 obtain⟨v2,aW,bc⟩:=ad a W s
 exact⟨s.vz hv,.tuple #[v,v2],by simp [vx,aQ,ax,aW],s.ends a9 hs (by rw [uB]; exact⟨_,rfl,.cons aR (.cons bc .nil)⟩)⟩
theorem rH:∀ {L:List aF} {i:Nat} {e:aF},L[i]? =some e→L.Perm (e :: L.eraseIdx i)
 | [],i,e,h=>by simp at h
 | x :: r,0,e,h=>by simp only [List.getElem?_cons_zero,Option.some.injEq] at h; subst h; exact .refl _
 | x :: r,i + 1,e,h=>by
   simp only [List.getElem?_cons_succ] at h
   exact((rH h).cons x).trans (.swap e x _)
theorem bs.bt {a:Act} {W:World} (s:bs c E L a W) {i:Nat} {e:aF} (h:L[i]? =some e):bs c E (e :: L.eraseIdx i) a W:=s.perm (rH h)
theorem ag.bt {l:List Oper} (i:Nat) {e:aF} (h:L[i]? =some e) (k:ag c ops Q l E (e :: L.eraseIdx i)):ag c ops Q l E L:=fun a W s=>k a W (s.bt h)
theorem ah.bt {z:Exit} (i:Nat) {e:aF} (h:L[i]? =some e) (k:ah c Q z E (e :: L.eraseIdx i)):ah c Q z E L:=fun a W s=>k a W (s.bt h)
theorem bs.after {a:Act} {W W':World} {Lin Lr:List aF} (s:bs c E (Lin ++ Lr) a W) {Lo:List aF} (a0:Fr (aJ Lin) W W') (fB:(aJ Lo).Nodup)
 (au:∀ k∈aJ Lo,k < W'.heap.size∧ (k < W.heap.size→k∈aJ Lin)∧k ∉ aJ Lr ++ c.bM) (gw:∀ e∈Lo,e.ok (aJ Lo ++ (aJ Lr ++ c.bM)) W'):bs c E (Lo ++ Lr) a W':=by
 have gA:Ext (aJ (Lin ++ Lr) ++ c.bM) W (aJ (Lo ++ Lr) ++ c.bM) W':=
  ⟨a0.size,fun k b5 bg=>a0.block k b5 fun hm=>bg (by rw [eF]; simp [hm]),fun k hm b5=>by
   rw [eF] at hm ⊢
   simp only [List.mem_append] at hm ⊢
   rcases hm with(hm | hm) | hm
   ·exact .inl (.inl ((au k hm).2.1 b5))
   ·exact .inl (.inr hm)
   ·exact .inr hm⟩
 have k7:=s.nodup
 rw [eF] at k7
 obtain⟨iO,ln,o6⟩:=List.nodup_append.1 k7
 have wB:∀ k∈aJ Lr,k < W.heap.size∧k ∉ aJ Lin:=fun k hm=>⟨s.lt k (by rw [eF]; exact List.mem_append.2 (.inr hm)),fun h=>o6 k h k hm rfl⟩
 exact
 {defers:=s.defers
  size:=s.size
  env:=fun t τ ar=>let⟨v,J,ad⟩:=s.env t τ ar; ⟨v,J,τ.mono gA ad⟩
  dm:=⟨a0.os.trans s.dm.os,a0.tape.trans s.dm.tape,a0.output.trans s.dm.output,Nat.le_trans s.dm.size a0.size,fun k b5 ak=>
   (a0.block k (Nat.lt_of_lt_of_le b5 s.dm.size) fun hm=>ak (s.fA k (by rw [eF]; exact List.mem_append.2 (.inl hm)) b5)).trans (s.dm.block k b5 ak)⟩
  own:=fun e he=>by
   rcases List.mem_append.1 he with he | he
   ·have:=gw e he
    refine aF.rN this (.drop fun k hm=> ?_) fun _ _=>rfl
    rw [eF] at hm
    simp only [List.mem_append] at hm ⊢
    rcases hm with(hm | hm) | hm
    ·exact .inl hm
    ·exact .inr (.inl hm)
    ·exact .inr (.inr hm)
   ·exact aF.rN (s.own e (List.mem_append.2 (.inr he))) gA fun p hp=>by
     have:=wB p (km.2 ⟨e,he,hp⟩)
     exact a0.block p this.1 this.2
  nodup:=by
   rw [eF]
   exact List.nodup_append.2 ⟨fB,ln,fun k J j ad e=>by subst e; exact(au k J).2.2 (List.mem_append.2 (.inl ad))⟩
  lt:=fun k hm=>by
   rw [eF] at hm
   rcases List.mem_append.1 hm with hm | hm
   ·exact(au k hm).1
   ·exact Nat.lt_of_lt_of_le (wB k hm).1 a0.size
  fA:=fun k hm bB=>by
   rw [eF] at hm
   have b5:k < W.heap.size:=Nat.lt_of_lt_of_le bB s.dm.size
   rcases List.mem_append.1 hm with hm | hm
   ·exact s.fA k (by rw [eF]; exact List.mem_append.2 (.inl ((au k hm).2.1 b5))) bB
   ·exact s.fA k (by rw [eF]; exact List.mem_append.2 (.inr hm)) bB
  eC:=fun k hm=>by
   obtain⟨J,ad⟩:=s.eC k hm
   refine⟨Nat.lt_of_lt_of_le J a0.size,fun h=> ?_⟩
   rw [eF] at h ad
   rcases List.mem_append.1 h with h | h
   ·exact(au k h).2.2 (List.mem_append.2 (.inr hm))
   ·exact ad (List.mem_append.2 (.inr h)) }
theorem gV.KH {xs:List Operand} {τs:List I} (h:gV c E L xs τs) {a:Act} {W:World} (s:bs c E L a W):fM (aJ L ++ c.bM) W τs (xs.map a.eval):=h.holds a W s
theorem xW {a:Act} {W:World} {f:FuncId} {xs:List Operand} {ats:Array TypeId} {τs:List I} {Lin Lr:List aF} {δ:Type} {ρ:δ→I} {Lo:δ→List aF} (ea:bR c.P f) (h:bF c.P f τs Lin ρ Lo)
 (s:bs c E (Lin ++ Lr) a W) (ak:fM (aJ (Lin ++ Lr) ++ c.bM) W τs (xs.map a.eval)):
 fR c.P ⟨d,.call ⟨.value (.func f),xs.toArray,ats⟩,ty,pos,af,g⟩ a W fun v W'=> ∃ a9,bs c E (Lo a9 ++ Lr) a W'∧ (ρ a9).holds (aJ (Lo a9 ++ Lr) ++ c.bM) W' v:=by
 have k7:=s.nodup
 rw [eF] at k7
 obtain⟨iO,ln,o6⟩:=List.nodup_append.1 k7
 have kN:Ext (aJ (Lin ++ Lr) ++ c.bM) W (aJ Lin ++ (aJ Lr ++ c.bM)) W:= .drop fun k hm=>by
  rw [eF]
  simp only [List.mem_append] at hm ⊢
  rcases hm with hm | hm | hm
  ·exact .inl (.inl hm)
  ·exact .inl (.inr hm)
  ·exact .inr hm
 have fk:∀ k∈aJ Lr ++ c.bM,k < W.heap.size∧k ∉ aJ Lin:=fun k hm=>by
  rcases List.mem_append.1 hm with hm | hm
  ·exact⟨s.lt k (by rw [eF]; exact List.mem_append.2 (.inr hm)),fun h=>o6 k h k hm rfl⟩
  ·obtain⟨J,ad⟩:=s.eC k hm
   exact⟨J,fun h=>ad (by rw [eF]; exact List.mem_append.2 (.inl h))⟩
 have b5:∀ k∈aJ Lin,k < W.heap.size:=fun k hm=>s.lt k (by rw [eF]; exact List.mem_append.2 (.inl hm))
 refine .te (f:=f) (args:=(xs.map a.eval).toArray) (W':=W) (by simp [execOp,resolve,Deferred.ofValue,Act.eval,invoke,ea.run]) ?_
 refine(h (aJ Lr ++ c.bM) W (xs.map a.eval) fk iO b5 (fun e he=>aF.rN (s.own e (List.mem_append.2 (.inl he))) kN fun _ _=>rfl) (ak.mono kN)).mono fun e W' ⟨v,a9,he,a0,J,ad,ax,aR⟩=> ?_
 refine⟨v,he,a9,s.after a0 J ad ax,(ρ a9).mono (.drop fun k hm=> ?_) aR⟩
 rw [eF] at hm
 simp only [List.mem_append] at hm ⊢
 rcases hm with(hm | hm) | hm
 ·exact .inl hm
 ·exact .inr (.inl hm)
 ·exact .inr (.inr hm)
theorem ag.k3 {rest:List Oper} {a9:Nat} {f:FuncId} {xs:List Operand} {ats:Array TypeId} {τs:List I} {Lin Lr:List aF} {δ:Type} {ρ:δ→I} {Lo:δ→List aF} (ea:bR c.P f) (h:bF c.P f τs Lin ρ Lo)
 (ak:gV c E (Lin ++ Lr) xs τs) (aL:Nat.blt a9 c.n=true) (k:∀ q,ag c ops Q rest ((a9,ρ q) :: E) (Lo q ++ Lr)):
 ag c ops Q (⟨some a9,.call ⟨.value (.func f),xs.toArray,ats⟩,ty,pos,af,none⟩ :: rest) E (Lin ++ Lr):=fun a W s=>
 hA rfl (xW ea h s (ak.holds a W s)) fun v W' ⟨q,bW,a3⟩=>k q _ _ (bW.put (by simpa using aL) a3)
end
end Gv
namespace Gv
open Go
set_option linter.unusedVariables false
set_option linter.unusedSimpArgs false
def iL {α:Type} (xs:List α) (k:Nat) (v:α):List α:=xs.set k v
section
variable {c:cT} {E:List (Nat × I)} {L:List aF} {ops:Array Oper} {Q:Exit→Act→World→Prop}
variable {d:Option Tmp} {ty:TypeId} {pos:String} {af:Array Edge} {g:Option (Nat × Bool)} {x y:Operand} {t t2:TypeId}
theorem bs.rowAt {a:Act} {W:World} (s:bs c E L a W) {i:Nat} {key:Option Nat} {T cap:Nat} {α:Type} [ae α] {xs:List α} (an:L[i]? =some ⟨key,.row T xs cap⟩) (ak:0 < xs.length):
 ∃ p cs,key=some p∧W.heap[p]? =some (.cells cs T (0,0))∧cs.size=cap * ae.size α∧xs.length≤cap∧cap≤maxLen∧fQ (aJ L ++ c.bM) W (cs.toList.take (xs.length * ae.size α)) xs:=by
 have a6:=s.own _ (List.mem_of_getElem? an)
 cases key with
 | none=>have:xs= []:=a6.1; subst this; simp at ak
 | some p=>
   obtain⟨o,ed,cs,rfl,J,ad,ax,aR⟩:=a6
   exact⟨p,cs,rfl,ed,J,ad,ax,aR⟩
theorem oI {e i k T cap:Nat} {key:Option Nat} {α:Type} [ae α] {xs:List α} {z:Int} (hu:c.P.underlying t=some (.slice e)) (eg:bq c.P e α) (ak:a4 c E L x (.eq (a5 key xs.length cap))) (a7:a4 c E L y (.of z))
 (an:L[i]? =some ⟨key,.row T xs cap⟩) (au:k < xs.length∧z=k):bO c E L ⟨d,.indexAddr t x y,ty,pos,af,g⟩ (.eq (.pointer (some ⟨key.getD 0,k * ae.size α,none⟩))):= .pure fun a W s=>by
 obtain⟨bc,rfl⟩:=au
 obtain⟨p,cs,rfl,_⟩:=s.rowAt an (by omega)
 have J:a.eval x=_:=ak a W s
 have aW:=of_int.1 (a7 a W s)
 obtain⟨fy,dP,dL⟩:=eg.info
 exact⟨_,by simp [execOp,Instr.indexAt,asIntOf,run_underlying hu,J,aW,bc,Go.sizeOf,typeInfo,dP,dL,ig,a5]; rfl,by simp [I.eq]⟩
theorem vP {k n s:Nat} (h:k < n):k * s + s≤n * s:=by rw [← Nat.succ_mul]; exact Nat.mul_le_mul_right _ h
theorem vF {i k T cap o:Nat} {key:Option Nat} {α γ:Type} [ae α] [Inhabited α] [ae γ] {xs:List α} (l:aO α γ) {r:γ} (ef:bq c.P t γ) (ak:a4 c E L x (.eq (.pointer (some ⟨key.getD 0,o,none⟩))))
 (an:L[i]? =some ⟨key,.row T xs cap⟩) (au:k < xs.length) (a6:o=k * ae.size α + l.off) (aQ:l.get (aN xs k)=r):bO c E L ⟨d,.load t x,ty,pos,af,g⟩ (.of r):= .pure fun a W s=>by
 subst a6; subst aQ
 obtain⟨p,cs,rfl,ed,J,ad,ax,aR⟩:=s.rowAt an (by omega)
 have ec:=vP (s:=ae.size α) au
 have ar:=l.fI
 have hle:xs.length * ae.size α≤cap * ae.size α:=Nat.mul_le_mul_right _ ad
 have fq:=l.hN (aR.2 k au)
 rw [sY _ _ _ _ _ l.fI,List.drop_take,List.take_take,Nat.min_eq_left (by omega)] at fq
 rw [gf xs au]
 obtain⟨v,aW,bc⟩:=sW (A:=aJ L ++ c.bM) ef ed (off:=k * ae.size α + l.off) (by omega) fq
 have cn:a.eval x=_:=ak a W s
 simp only [Option.getD_some] at cn
 exact⟨v,by simp [execOp,Instr.loadAt,Instr.sureAddr,cn,aW],bc⟩
theorem ag.yu {rest:List Oper} {i k T cap o:Nat} {key:Option Nat} {α γ:Type} [ae α] [Inhabited α] [ae γ] {xs r:List α} {v:γ} (l:aO α γ) (ef:bq c.P t γ) (ak:a4 c E L x (.eq (.pointer (some ⟨key.getD 0,o,none⟩)))) (a7:a4 c E L y (.of v))
 (an:L[i]? =some ⟨key,.row T xs cap⟩) (au:k < xs.length) (a6:o=k * ae.size α + l.off) (aQ:iL xs k (l.set (aN xs k) v)=r)
 (k':ag c ops Q rest E (L.set i ⟨key,.row T r cap⟩)):ag c ops Q (⟨none,.store t x y,ty,pos,af,none⟩ :: rest) E L:=fun a W s=>by
 subst a6; subst aQ
 obtain⟨p,cs,rfl,ed,J,ad,ax,aR⟩:=s.rowAt an (by omega)
 have ec:=vP (s:=ae.size α) au
 have ar:=l.fI
 have hle:xs.length * ae.size α≤cap * ae.size α:=Nat.mul_le_mul_right _ ad
 have a3:=a7 a W s
 have GK:(a.eval y).cells.toList.length=ae.size γ:=ae.len a3.2
 have aW:=xI (A:=aJ L ++ c.bM) ef ed (off:=k * ae.size α + l.off) (by omega) a3
 have cn:a.eval x=_:=ak a W s
 simp only [Option.getD_some] at cn
 refine hA rfl (R:=fun v W'=>W'=W.setRow p (fw cs.toList (k * ae.size α + l.off) (a.eval y).cells.toList).toArray) (.vG ?_ rfl) fun u W' hw=> ?_
 ·simp [execOp,Instr.storeAt,Instr.sureAddr,cn,aW]
 ·subst hw
  refine k' _ _ (s.store an ed ?_)
  have kz:cs.toList.length=cap * ae.size α:=by simpa using J
  have lj:(fw cs.toList (k * ae.size α + l.off) (a.eval y).cells.toList).length=cs.toList.length:=by
   simp only [fw,List.length_append,List.length_take,List.length_drop,GK]; omega
  refine⟨_,rfl,by simpa [kz] using lj,by simpa [iL] using ad,ax,?_⟩
  have ay:=aR.2 k au
  have bf:=l.kk ay a3.2
  have bJ:=ED aR au bf
  have pZ:(cs.toList.take (xs.length * ae.size α)).length=xs.length * ae.size α:=by rw [List.length_take]; omega
  rw [I6 _ _ _ _ _ _ l.fI (by omega)] at bJ
  have hlen:(iL xs k (l.set (aN xs k) v)).length=xs.length:=by simp [iL]
  rw [hlen,List.toList_toArray]
  have e:(fw cs.toList (k * ae.size α + l.off) (a.eval y).cells.toList).take (xs.length * ae.size α)=
   (cs.toList.take (xs.length * ae.size α)).take (k * ae.size α + l.off) ++ (a.eval y).cells.toList ++ (cs.toList.take (xs.length * ae.size α)).drop (k * ae.size α + l.off + ae.size γ):=by
   have aE:(cs.toList.take (k * ae.size α + l.off)).length=k * ae.size α + l.off:=by rw [List.length_take]; omega
   have bd:(cs.toList.take (k * ae.size α + l.off) ++ (a.eval y).cells.toList).length=k * ae.size α + l.off + ae.size γ:=by rw [List.length_append,aE,GK]
   rw [fw,GK,List.take_append,bd,List.take_of_length_le (by omega),List.take_take,Nat.min_eq_left (by omega),List.drop_take]
  rw [e,show iL xs k (l.set (aN xs k) v)=xs.set k (l.set xs[k] v) by rw [iL,gf xs au]]
  exact bJ
def g2 (key:Option Nat) (lo n cap size:Nat):Value:=match key with
 | some p=> .slice (some (if cap=lo then⟨p,0,none⟩ else⟨p,lo * size,none⟩)) n (cap - lo)
 | none=> .slice none 0 0
theorem xX {key:Option Nat} {n cap size:Nat} :g2 key 0 n cap size=a5 key n cap:=by
 cases key <;> simp [g2,a5]
theorem Bq {i T cap:Nat} {key:Option Nat} {α:Type} [ae α] {xs:List α} {e:TypeId} {lo aq:Option Operand} {m n:Nat} {Ah Ai:Int} (hu:c.P.underlying t=some (.slice e)) (eg:bq c.P e α) (ak:a4 c E L x (.eq (a5 key xs.length cap)))
 (an:L[i]? =some ⟨key,.row T xs cap⟩) (fC:sC c E L lo Ah 0) (c6:sC c E L aq Ai xs.length) (hm:Ah=m) (aL:Ai=n) (h:m≤n∧n≤xs.length):
 bO c E L ⟨d,.slice t x lo aq none,ty,pos,af,g⟩ (.eq (g2 key m (n - m) cap (ae.size α))):= .pure fun a W s=>by
 subst hm; subst aL
 obtain⟨qS,lK⟩:=h
 obtain⟨fy,dP,dL⟩:=eg.info
 have J:a.eval x=_:=ak a W s
 have a6:=s.own _ (List.mem_of_getElem? an)
 cases key with
 | none=>
   have gR:xs= []:=a6.1
   subst gR
   have pX:n=0:=by simpa using lK
   have gk:m=0:=by omega
   subst pX
   subst gk
   refine⟨.slice none 0 0,?_,rfl⟩
   have an:(match lo.map a.eval with | some v=>Instr.sliceBound v 0 .sliceB | none=>pure 0:Sem Nat).run c.P W= .ok 0 W:=by
    cases fC with
    | none=>rfl
    | some ar=>exact nL (Nat.le_refl _) (of_int.1 (ar a W s))
   have iS:(match aq.map a.eval,(none:Option Value) with | some v,some _=>Instr.sliceBound v 0 .slice3B | some v,none=>Instr.sliceBound v 0 .sliceAcap | none,none=>pure 0 | none,some _=>stuck "Slice: max without high" :Sem Nat).run c.P W= .ok 0 W:=by
    cases c6 with
    | none=>rfl
    | some ar=>exact nL (Nat.le_refl _) (of_int.1 (ar a W s))
   cases fC <;> cases c6
   all_goals
    simp only [a5,execOp,Instr.sliceAt,Instr.slice,Instr.sliceBounds,J,Sem.run_bind,run_underlying hu,Result.andThen_ok,Option.map_none,Option.map_some,Option.isSome_none,Bool.false_eq_true,if_false,if_true,Sem.run_pure] at an iS ⊢
    try simp only [an,iS,Result.andThen_ok,Go.sizeOf,typeInfo,Sem.run_bind,run_program,dP,Sem.run_pure]
    try simp [dP]
 | some p=>
   obtain⟨o,ed,cs,rfl,ay,bf,bJ,dz⟩:=a6
   refine⟨_,?_,rfl⟩
   simp only [g2]
   have an:∀ v,v=Value.int .i64 m→ (Instr.sliceBound v n .sliceB).run c.P W= .ok m W:=fun v a3=>nL qS a3
   have iS:∀ v,v=Value.int .i64 n→ (Instr.sliceBound v cap .sliceAcap).run c.P W= .ok n W:=fun v a3=>nL (by omega) a3
   generalize ec:(n:Int)=NA at c6
   generalize zJ:(m:Int)=NB at fC
   generalize zK:(xs.length:Int)=NC at c6
   generalize M3:(0:Int)=ND at fC
   cases fC with
   | none=>
     have gk:m=0:=by omega
     cases c6 with
     | none=>
       have lK:n=xs.length:=by omega
       subst lK
       subst gk
       simp [execOp,Instr.sliceAt,Instr.slice,Instr.sliceBounds,J,a5,run_underlying hu,Go.sizeOf,typeInfo,dP,dL,ig]
     | some b3=>
       subst ec
       subst gk
       simp [execOp,Instr.sliceAt,Instr.slice,Instr.sliceBounds,J,a5,run_underlying hu,Go.sizeOf,typeInfo,dP,dL,ig,iS _ (of_int.1 (b3 a W s))]
   | some ar=>
     subst zJ
     cases c6 with
     | none=>
       have lK:n=xs.length:=by omega
       subst lK
       simp [execOp,Instr.sliceAt,Instr.slice,Instr.sliceBounds,J,a5,run_underlying hu,Go.sizeOf,typeInfo,dP,dL,ig,an _ (of_int.1 (ar a W s))]
       split <;> rfl
     | some b3=>
       subst ec
       simp [execOp,Instr.sliceAt,Instr.slice,Instr.sliceBounds,J,a5,run_underlying hu,Go.sizeOf,typeInfo,dP,dL,ig,an _ (of_int.1 (ar a W s)),iS _ (of_int.1 (b3 a W s))]
       split <;> rfl
theorem bs.again {a:Act} {W:World} (s:bs c E L a W) {i:Nat} {key:Option Nat} {cp cp':dA} (an:L[i]? =some ⟨key,cp⟩) (h:∀ A W o,cp.holds A W o→cp'.holds A W o) (aL:cp.mF→cp'.mF):bs c E (L.set i ⟨key,cp'⟩) a W:=by
 have gB:aJ (L.set i ⟨key,cp'⟩)=aJ L:=vO (e:=⟨key,cp⟩) (cp:=cp') an
 exact
 {defers:=s.defers
  size:=s.size
  env:=fun t τ ar=>by rw [gB]; exact s.env t τ ar
  dm:=s.dm
  own:=fun e he=>by
   rw [gB]
   obtain⟨j,aC⟩:=List.mem_iff_getElem?.1 he
   rw [List.getElem?_set] at aC
   split at aC
   ·split at aC
    ·simp only [Option.some.injEq] at aC
     subst aC
     have a6:=s.own _ (List.mem_of_getElem? an)
     cases key with
     | none=>exact aL a6
     | some p=>obtain⟨o,J,ad⟩:=a6; exact⟨o,J,h _ _ _ ad⟩
    ·cases aC
   ·exact s.own e (List.mem_of_getElem? aC)
  nodup:=by rw [gB]; exact s.nodup
  lt:=by rw [gB]; exact s.lt
  fA:=by rw [gB]; exact s.fA
  eC:=by rw [gB]; exact s.eC }
theorem EA {T cap n:Nat} {α:Type} [ae α] {xs:List α} (aL:n≤xs.length) {A W o} (h:(dA.row T xs cap).holds A W o):(dA.row T (xs.take n) cap).holds A W o:=by
 obtain⟨cs,rfl,J,ad,ax,aR⟩:=h
 have ar:(xs.take n).length=n:=by rw [List.length_take]; omega
 have hle:n * ae.size α≤xs.length * ae.size α:=Nat.mul_le_mul_right _ aL
 have Cw:xs.length * ae.size α≤cap * ae.size α:=Nat.mul_le_mul_right _ ad
 refine⟨cs,rfl,J,by omega,ax,?_⟩
 rw [ar]
 have kz:cs.toList.length=cap * ae.size α:=by simpa using J
 refine⟨by rw [List.length_take,ar]; omega,fun i aq=> ?_⟩
 have fY:i < n:=by omega
 have ec:=vP (s:=ae.size α) fY
 have:=aR.2 i (by omega)
 rw [List.drop_take,List.take_take,Nat.min_eq_left (by omega)] at this ⊢
 rw [List.getElem_take]
 exact this
end
end Gv
namespace Gv
open Go
set_option linter.unusedVariables false
set_option linter.unusedSimpArgs false
def pD {α:Type} [Inhabited α] (xs:List α) (lo n:Nat):List α:=xs.take lo ++ List.replicate n default ++ xs.drop (lo + n)
theorem Ja {α:Type} [ae α] {A W} {cs ds:List Value} {xs ys:List α} {lo:Nat} (h:fQ A W cs xs) (cV:fQ A W ds ys) (au:lo + ys.length≤xs.length):
 fQ A W (cs.take (lo * ae.size α) ++ ds ++ cs.drop (lo * ae.size α + ds.length)) (xs.take lo ++ ys ++ xs.drop (lo + ys.length)):=by
 have ar:=h.1
 have hle:lo * ae.size α≤xs.length * ae.size α:=Nat.mul_le_mul_right _ (by omega)
 have t1:fQ A W (cs.take (lo * ae.size α)) (xs.take lo):=by
  have e:(xs.take lo).length=lo:=by rw [List.length_take]; omega
  refine⟨by rw [List.length_take,e]; omega,fun i aq=> ?_⟩
  have fY:i < lo:=by omega
  have:=h.2 i (by omega)
  have ec:=vP (s:=ae.size α) fY
  rw [List.drop_take,List.take_take,Nat.min_eq_left (by omega),List.getElem_take]
  exact this
 have t3:fQ A W (cs.drop (lo * ae.size α + ds.length)) (xs.drop (lo + ys.length)):=by
  have e:lo * ae.size α + ds.length=(lo + ys.length) * ae.size α:=by rw [cV.1,Nat.add_mul]
  rw [e]
  refine⟨by rw [List.length_drop,List.length_drop,ar,← Nat.sub_mul],fun i aq=> ?_⟩
  rw [List.length_drop] at aq
  have:=h.2 (lo + ys.length + i) (by omega)
  rw [List.drop_drop,← Nat.add_mul,List.getElem_drop]
  exact this
 exact rF (rF t1 cV) t3
section
variable {c:cT} {E:List (Nat × I)} {L:List aF} {ops:Array Oper} {Q:Exit→Act→World→Prop}
variable {d:Option Tmp} {ty:TypeId} {pos:String} {af:Array Edge} {g:Option (Nat × Bool)} {x y:Operand} {t t2:TypeId}
theorem ag.clear {rest:List Oper} {i e T cap lo n:Nat} {key:Option Nat} {α:Type} [ae α] [Inhabited α] {xs r:List α} (hu:c.P.underlying t=some (.slice e)) (eg:bq c.P e α) (fV:cc c.P e (default:α)) (dL:Nat.beq (ae.size α) 0=false)
 (ak:a4 c E L x (.eq (g2 key lo n cap (ae.size α)))) (an:L[i]? =some ⟨key,.row T xs cap⟩) (aL:lo + n≤xs.length) (aQ:pD xs lo n=r)
 (k:ag c ops Q rest E (L.set i ⟨key,.row T r cap⟩)):ag c ops Q (⟨none,.call ⟨.builtin .clear,#[x],#[t]⟩,ty,pos,af,none⟩ :: rest) E L:=fun a W s=>by
 subst aQ
 have J:a.eval x=_:=ak a W s
 have a6:=s.own _ (List.mem_of_getElem? an)
 have kN:∀ cp,L.set i ⟨key,cp⟩=L.set i ⟨key,cp⟩:=fun _=>rfl
 by_cases bB:n=0∨key=none
 ·have gR:pD xs lo n=xs:=by
   rcases bB with bB | bB
   ·subst bB; simp [pD]
   ·subst bB
    have:xs= []:=a6.1
    subst this
    have:n=0:=by simp at aL; omega
    subst this; simp [pD]
  have jg:(execOp a.eval ⟨none,.call ⟨.builtin .clear,#[x],#[t]⟩,ty,pos,af,none⟩).run c.P W= .ok (.value (.tuple #[])) W:=by
   rcases bB with bB | bB
   ·subst bB
    cases key <;> simp [execOp,resolve,invoke,builtin,Builtin.clear_,J,g2,run_underlying hu]
   ·subst bB
    simp [execOp,resolve,invoke,builtin,Builtin.clear_,J,g2,run_underlying hu]
  refine hA rfl (R:=fun v W'=>W'=W) (.k2 jg rfl) fun v W' hw=> ?_
  subst hw
  rw [gR] at k
  have:L.set i ⟨key,.row T xs cap⟩=L:=by
   apply List.ext_getElem?
   intro j
   rw [List.getElem?_set]
   split
   ·rename_i e5; subst e5
    have:=(List.getElem?_eq_some_iff.1 an).1
    rw [if_pos this,an]
   ·rfl
  rw [this] at k
  exact k _ _ s
 ·have pX:0 < n:=by
   rcases Nat.eq_zero_or_pos n with h | h
   ·exact absurd (.inl h) bB
   ·exact h
  obtain⟨p,cs,rfl,ed,ay,bf,bJ,dz⟩:=s.rowAt an (by omega)
  obtain⟨fy,dN,dP,dg,GL⟩:=fV.zero
  have CU:=GL (aJ L ++ c.bM) W
  have WD:dN.cells.toList.length=ae.size α:=ae.len CU.2
  have jT:ae.size α≠0:=fun h=>by rw [h] at dL; cases dL
  have zO:=x0 CU n jT
  have uz:dN.cells.size=ae.size α:=by simpa using WD
  have GM:Builtin.zeroCells dN.cells n=(Array.range (n * ae.size α)).map (dN.cells[· % dN.cells.size]!):=by rw [Builtin.zeroCells,uz]
  rw [← GM] at zO
  generalize kd:(Builtin.zeroCells dN.cells n).toList=D at zO
  have Yg:D.length=n * ae.size α:=by rw [zO.1]; simp
  have fC:cap≠lo:=by omega
  have hle:(lo + n) * ae.size α≤cap * ae.size α:=Nat.mul_le_mul_right _ (by omega)
  rw [Nat.add_mul] at hle
  have eY:=run_storeCells_at (P:=c.P) p (lo * ae.size α) _ D 0 cs W ed (by omega) zO.one
  have jg:(execOp a.eval ⟨none,.call ⟨.builtin .clear,#[x],#[t]⟩,ty,pos,af,none⟩).run c.P W= .ok (.value (.tuple #[])) (W.setRow p (fw cs.toList (lo * ae.size α) D).toArray):=by
   obtain⟨m,rfl⟩:∃ m,n=m + 1:=⟨n - 1,by omega⟩
   simp only [Nat.add_zero] at eY
   simp [execOp,resolve,invoke,builtin,Builtin.clear_,J,g2,run_underlying hu,fC,zeroValue,typeInfo,run_program,dP,dg,kd,eY,fw]
  refine hA rfl (R:=fun v W'=>W'=W.setRow p (fw cs.toList (lo * ae.size α) D).toArray) (.k2 jg rfl) fun v W' hw=> ?_
  subst hw
  refine k _ _ (s.store an ed ?_)
  have kz:cs.toList.length=cap * ae.size α:=by simpa using ay
  have hlen:(pD xs lo n).length=xs.length:=by simp [pD]; omega
  have pZ:(cs.toList.take (xs.length * ae.size α)).length=xs.length * ae.size α:=by
   rw [List.length_take]
   have:xs.length * ae.size α≤cap * ae.size α:=Nat.mul_le_mul_right _ bf
   omega
  have VO:(lo + n) * ae.size α≤xs.length * ae.size α:=Nat.mul_le_mul_right _ aL
  rw [Nat.add_mul] at VO
  have X4:xs.length * ae.size α≤cap * ae.size α:=Nat.mul_le_mul_right _ bf
  refine⟨_,rfl,?_,by rw [hlen]; exact bf,bJ,?_⟩
  ·simp only [List.size_toArray,fw,List.length_append,List.length_take,List.length_drop]; omega
  ·rw [hlen,List.toList_toArray]
   have oo:=Ja (lo:=lo) dz zO (by simpa using aL)
   have e:(fw cs.toList (lo * ae.size α) D).take (xs.length * ae.size α)=(cs.toList.take (xs.length * ae.size α)).take (lo * ae.size α) ++ D ++ (cs.toList.take (xs.length * ae.size α)).drop (lo * ae.size α + D.length):=by
    have aE:(cs.toList.take (lo * ae.size α)).length=lo * ae.size α:=by rw [List.length_take]; omega
    have bd:(cs.toList.take (lo * ae.size α) ++ D).length=lo * ae.size α + D.length:=by rw [List.length_append,aE]
    rw [fw,List.take_append,bd,List.take_of_length_le (by omega),List.take_take,Nat.min_eq_left (by omega),List.drop_take]
   rw [e]
   simpa [pD] using oo
theorem bs.share {a:Act} {W:World} (s:bs c E L a W) {i eQ p:Nat} {α:Type} [ae α] {z:α} (ar:look E eQ=some (.eq (.pointer (some ⟨p,0,none⟩)))) (an:L[i]? =some ⟨some p,.var z⟩):bs c ((eQ,.ptr z) :: E) (L.set i ⟨none,.dead⟩) a W:=by
 have au:=s.kill i
 refine { au with env:=fun t τ ew=> ?_ }
 simp only [look] at ew
 by_cases e:Nat.beq eQ t=true
 ·rw [e] at ew
  simp only [cond_true,Option.some.injEq] at ew
  subst ew
  have:=dX.1 e
  subst this
  obtain⟨v,J,ad⟩:=s.env eQ _ ar
  have kT:v=_:=ad
  subst kT
  obtain⟨o,ed,cs,T,rfl,aQ⟩:=s.own _ (List.mem_of_getElem? an)
  have hlen:cs.toList.length=ae.size α:=ae.len aQ
  refine⟨_,J,p,0,cs,T,(0,0),rfl,s.x7 an,ed,by simp at hlen; omega,?_⟩
  rw [List.drop_zero,← hlen,List.take_length]
  have j5:=vl (L:=L) (i:=i) (cp:= .dead)
  exact ae.mono (.drop fun k hm=>by
   rcases List.mem_append.1 hm with hm | hm
   ·exact List.mem_append.2 (.inl (j5.subset hm))
   ·exact List.mem_append.2 (.inr hm)) aQ
 ·simp only [Bool.not_eq_true] at e
  rw [e] at ew
  exact au.env t τ ew
theorem ag.share {l:List Oper} {p:Nat} {α:Type} [ae α] {z:α} (i eQ:Nat) (ar:look E eQ=some (.eq (.pointer (some ⟨p,0,none⟩)))) (an:L[i]? =some ⟨some p,.var z⟩) (k:ag c ops Q l ((eQ,.ptr z) :: E) (L.set i ⟨none,.dead⟩)):ag c ops Q l E L:=
 fun a W s=>k a W (s.share ar an)
theorem ai.share {code:Code} {p:Nat} {α:Type} [ae α] {z:α} (i eQ:Nat) (ar:look E eQ=some (.eq (.pointer (some ⟨p,0,none⟩)))) (an:L[i]? =some ⟨some p,.var z⟩) (k:ai c Q code ((eQ,.ptr z) :: E) (L.set i ⟨none,.dead⟩)):ai c Q code E L:=
 fun a W s=>k a W (s.share ar an)
theorem BK {α β:Type} [ae α] [ae β] {F:α→Option β} {f:FuncId} {xs:List Operand} {τs:List I} (ea:bR c.P f) (ak:gV c E L xs τs) (h:∀ x r,F x=some r→b9 c.P f (.of x :: τs) (.of r)):
 bO c E L ⟨d,.makeFunc (.func f) #[] xs.toArray,ty,pos,af,g⟩ (.ue c.P F):= .pure fun a W s=>by
 have b3:=ak.holds a W s
 refine⟨.func (.func f) #[] (xs.map a.eval).toArray,by simp [execOp,Instr.makeFunc],f,_,_,rfl,ea,fun cN W' e fk x r pk nC a3=> ?_⟩
 simpa using h x r nC cN W' (pk :: xs.map a.eval) fk (.cons a3 (b3.mono e))
def I.Flat (τ:I):Prop:= ∀ A W cN W' v,τ.holds A W v→τ.holds cN W' v
theorem xY {b:Bool} :(I.of b).Flat:=fun _ _ _ _ _ h=>h
theorem tc {b:Int} :(I.of b).Flat:=fun _ _ _ _ _ h=>h
theorem bO.Ve {o:Oper} {τ:I} {T cap:Nat} {key:Option Nat} {α:Type} [ae α] {xs:List α} (i s:Nat) (ar:look E s=some (.eq (a5 key xs.length cap))) (an:L[i]? =some ⟨key,.row T xs cap⟩) (a0:τ.Flat)
 (h:bO c ((s,.of xs) :: E) (L.set i ⟨none,.dead⟩) o τ):bO c E L o τ:=fun a W st=>by
 have:=h a W (st.freeze ar an)
 unfold fR at this ⊢
 exact Oper.wp_mono (fun fK W' ⟨v,J,ad,ax⟩=>⟨v,J,ad,a0 _ _ _ _ _ ax⟩) this
def I.MB {α:Type} (xs:List α):I where
 holds _ _ v:= ∃ b:Bool,v= .bool b∧ (b=true→xs= [])
 mono _ h:=h
theorem IS {P:Program} {e:TypeId} (W:World) (d:Nat) {t:TypeId} (a:Option Addr) (l cp:Nat) (h:P.underlying t=some (.slice e)):(Op.equalIn (d + 1) t (.slice a l cp) (.slice none 0 0)).run P W= .ok a.isNone W:=by
 cases a <;> simp [Op.equalIn,run_underlying h]
theorem K1 {α:Type} [ae α] {xs:List α} {e:TypeId} (hu:c.P.underlying t=some (.slice e)) (ak:a4 c E L x (.of xs)):bO c E L ⟨d,.binOp .eql t x (.const (.slice none 0 0)) t2,ty,pos,af,g⟩ (.MB xs):= .pure fun a W s=>by
 have aL:a.eval (.const (.slice none 0 0))= .slice none 0 0:=rfl
 rcases lV.1 (ak a W s) with⟨J,rfl⟩ | ⟨b,off,cap,cur,T,ha,J,ad⟩
 ·exact⟨.bool true,by
   simp only [execOp,eqGuard,binOp,J,aL,Op.equal,Op.maxDepth]
   simp [IS W 9999 none 0 0 hu],true,rfl,fun _=>rfl⟩
 ·exact⟨.bool false,by
   simp only [execOp,eqGuard,binOp,J,aL,Op.equal,Op.maxDepth]
   simp [IS W 9999 (some ⟨b,off,none⟩) xs.length cap hu],false,rfl,fun h=>by cases h⟩
theorem ai.K2 {α:Type} {y z:Code} {xs:List α} (ar:a4 c E L x (.MB xs)) (bI:xs= []→ai c Q y E L) (a0:ai c Q z E L):ai c Q (.cond x y z) E L:=fun a W s=>by
 obtain⟨b,J,ad⟩:=ar a W s
 exact wpIn_cond_split J (fun h=>bI (ad h) a W s) (fun _=>a0 a W s)
end
end Gv
namespace Gv
open Go
set_option linter.unusedVariables false
set_option linter.unusedSimpArgs false
def cB (c:cT) (ops:Array Oper) (Q:Exit→Act→World→Prop) (f:Nat) (aX:Array Bool) (E:List (Nat × I)) (L:List aF):Prop:=
 ∀ a W,bs c E L a W→wpAnyIn c.F 9 c.P .any ops Q f aX a W
def pn (K:Act→World→Prop) (Q:Exit→Act→World→Prop):Exit→Act→World→Prop
 | .normal,a,W=>K a W
 | x,a,W=>Q x a W
section
variable {c:cT} {E:List (Nat × I)} {L:List aF} {ops:Array Oper} {Q:Exit→Act→World→Prop}
theorem pn.out {K:Act→World→Prop} (h:LetsOut (pn K Q)):LetsOut Q:=h
theorem Oper.QD {F:Fence} {n:Nat} {P:Program} {o:Oper} {a:Act} {K:Act→World→Prop} {r:Result Next} (h:o.uponIn F n P a K (pn K Q) r):o.uponIn F n P a K Q r:=by
 cases r with
 | ok m ph=>
   cases m <;> simp only [Oper.uponIn] at h ⊢ <;>
    first
     | exact h
     | exact⟨h.1,CallsIn.mono h.2 (fun e sq he=>by cases e <;> exact he)⟩
     | exact⟨h.1,RoundIn.mono h.2 (fun e sq he=>by cases e <;> exact he)⟩
 | halt x ph=>cases x <;> simp only [Oper.uponIn] at h ⊢ <;> exact h
theorem xO {i:Nat} {o:Oper} {K:Act→World→Prop} {a:Act} {W:World} (aq:ops[i]? =some o) (h:c.pV ops (pn K Q) [o] a W):wpOpIn c.F 9 c.P ops Q i K a W:=by
 unfold wpOpIn
 simp only [aq]
 simp only [cT.pV,wpListIn] at h
 split
 ·rename_i hw
  rw [if_pos hw] at h
  exact⟨h.1,Oper.QD h.2⟩
 ·rename_i hw
  rw [if_neg hw] at h
  exact h
def yO (c:cT) (ops:Array Oper) (Q:Exit→Act→World→Prop) (f:Nat) (aX:Array Bool) (E:List (Nat × I)) (L:List aF):List Nat→Prop
 | []=>True
 | i :: r=>(∃ o,ops[i]? =some o∧ag c ops (pn (wpAnyIn c.F 9 c.P .any ops Q f (aX.setIfInBounds i true)) Q) [o] E L)∧yO c ops Q f aX E L r
theorem yO.get {f:Nat} {aX:Array Bool} :∀ {wV:List Nat},yO c ops Q f aX E L wV→ ∀ i∈wV,∃ o,ops[i]? =some o∧ag c ops (pn (wpAnyIn c.F 9 c.P .any ops Q f (aX.setIfInBounds i true)) Q) [o] E L
 | _ :: _,h,i,aq=>by
   rcases List.mem_cons.1 aq with rfl | aq
   ·exact h.1
   ·exact yO.get h.2 i aq
theorem cB.step {f:Nat} {aX:Array Bool} (wV:List Nat) (aQ:Region.ready .any ops aX=wV) (cQ:wV.isEmpty=false) (h:yO c ops Q f aX E L wV):cB c ops Q (f + 1) aX E L:=fun a W s=>
 ⟨fun bB=>(by rw [← aQ,bB] at cQ; exact absurd cQ (by simp)),fun i aq=>(by
  rw [aQ] at aq
  obtain⟨o,J,ad⟩:=h.get i aq
  exact xO J (ad a W s))⟩
theorem cB.last {f:Nat} {aX:Array Bool} (aQ:Region.ready .any ops aX= []) (h:ah c Q .normal E L):cB c ops Q f aX E L:=fun a W s=>by
 cases f with
 | zero=>exact⟨aQ,h a W s⟩
 | succ f=>exact⟨fun _=>h a W s,fun i aq=>(by rw [aQ] at aq; exact absurd aq (by simp))⟩
theorem cB.le {f:Nat} {aX:Array Bool} {E':List (Nat × I)} (h:gT E E') (k:cB c ops Q f aX E' L):cB c ops Q f aX E L:=fun a W s=>k a W (s.less h.look)
theorem ah.any {f:Nat} {aX yj:Array Bool} (ar:aX=yj) (k:cB c ops Q f yj E L):ah c (pn (wpAnyIn c.F 9 c.P .any ops Q f aX) Q) .normal E L:=fun a W s=>by
 subst ar
 exact k a W s
theorem cB.cut {γ:Type} (wW:Nat) (yj:Array Bool) (E':γ→List (Nat × I)) (av:γ→List aF) {f:Nat} {aX:Array Bool} (J:∀ g,cB c ops Q wW yj (E' g) (av g))
 (ad:(∀ g,cB c ops Q wW yj (E' g) (av g))→cB c ops Q f aX E L):cB c ops Q f aX E L:=ad J
theorem ai.T0 {nx:Nat} {l:List Oper} (hm:c.P.follows .mixedOrders=true) (n:Nat) (ls:Array Bool) (aL:l.length=n) (zP:Array.replicate n false=ls) (h:cB c l.toArray Q n ls E L):ai c Q (.region nx l.toArray true) E L:=fun a W s=>by
 subst aL zP
 refine wpIn_region_any hm ?_
 have:=h a W.drew (s.world (Fr.drew W))
 simpa using this
theorem ah.perm {x:Exit} {av:List aF} (h:L.Perm av) (k:ah c Q x E av):ah c Q x E L:=fun a W s=>k a W (s.perm h)
end
end Gv
namespace Gv
open Go
set_option linter.unusedVariables false
set_option linter.unusedSimpArgs false
section
variable {c:cT} {E:List (Nat × I)} {L:List aF} {ops:Array Oper} {Q:Exit→Act→World→Prop}
variable {d:Option Tmp} {ty:TypeId} {pos:String} {af:Array Edge} {g:Option (Nat × Bool)} {x y:Operand} {t t2:TypeId}
theorem ag.pN {α:Type} [ae α] {rest:List Oper} {a9 e n:Nat} {z:α} {r:List α} {bj:List (Nat × Operand)} (hu:c.P.underlying t=some (.slice e)) (eg:bq c.P e α) (fV:cc c.P e z) (hs:Nat.beq (ae.size α) 0=false) (aL:Nat.ble (n * ae.size α) 16777216=true)
 (a0:mC c E L (List.replicate n z) bj r) (jr:Nat.blt a9 c.n=true) (k:∀ p,ag c ops Q rest ((a9,.eq (a5 p r.length n)) :: E) (⟨p,.row e r n⟩ :: L)):
 ag c ops Q (⟨some a9,.buildSlice t n bj.toArray,ty,pos,af,none⟩ :: rest) E L:=fun a W s=>by
 obtain⟨fy,dN,dP,dg,pY⟩:=fV.zero
 have l6:fy.size=ae.size α:=by
  obtain⟨i2,J,ad⟩:=eg.info
  rw [dP] at J; cases J; exact ad
 have ev:ae.size α≠0:=fun h=>by rw [h] at hs; cases hs
 have o4:=x0 (pY (aJ L ++ c.bM) W) n ev
 obtain⟨dx,ax,aR,aW⟩:=a0.run a W s _ o4
 have hlen:r.length=n:=by rw [aW]; simp
 have hm:(bj.toArray.map fun(x:Nat × Operand)=>(x.1,a.eval x.2)).toList=bj.map fun(i,x)=>(i,a.eval x):=by simp
 have VJ:=Nat.le_of_ble_eq_true aL
 refine hA rfl (R:=fun v W'=>v= .slice (some ⟨W.heap.size,0,none⟩) n n∧W'=W.alloc (.cells dx e)) (.k2 (v:= .slice (some ⟨W.heap.size,0,none⟩) n n) (W':=W.alloc (.cells dx e)) ?_ ⟨rfl,rfl⟩) fun v W' ⟨J,ad⟩=> ?_
 ·simp only [execOp,Instr.buildSlice,Sem.run_bind,run_underlying hu,Result.andThen_ok,Go.sizeOf,typeInfo,run_program,dP,Sem.run_pure,l6]
  rw [if_neg (by omega)]
  try simp only [Sem.run_pure,Result.andThen_ok,Sem.run_bind]
  by_cases bB:n * ae.size α=0
  ·have pX:n=0:=by
    rcases Nat.mul_eq_zero.1 bB with h | h
    ·exact h
    ·exact absurd h ev
   subst pX
   simp only [Nat.zero_mul,if_true,Sem.run_pure,Result.andThen_ok]
   try simp only [Nat.zero_mul] at ax
   have kF:((Array.range 0).map (fun x=>(#[]:Array Value)[x % (#[]:Array Value).size]!))=((Array.range 0).map (dN.cells[· % dN.cells.size]!)):=by simp
   simp only [pure_bind]
   rw [kF,hm,ax]
   simp [newRow]
  ·simp only [bB,if_false,Sem.run_bind,zeroValue,typeInfo,run_program,Result.andThen_ok,dP,dg,Sem.run_pure]
   rw [hm,ax]
   simp [newRow]
 ·subst J ad
  have sa:n≤maxLen:=by
   have:n * 1≤n * ae.size α:=Nat.mul_le_mul_left _ (by omega)
   have:maxLen=9223372036854775807:=rfl
   omega
  have dL:dx.size=n * ae.size α:=by have:=aR.1; rw [hlen] at this; simpa using this
  have bW:=s.alloc (o:= .cells dx e) (cp:= .row e r n) ⟨dx,rfl,dL,by omega,sa,by
   have bc:=aR.1
   rw [← bc,List.take_length]
   exact aR⟩
  refine k (some W.heap.size) _ _ (bW.put (τ:= .eq (a5 (some W.heap.size) r.length n)) (by simpa using jr) ?_)
  show _=_
  rw [hlen]; rfl
theorem ag.nZ {l:List Oper} {key:Option Nat} {n m cap:Nat} (eQ:Nat) (ar:look E eQ=some (.eq (a5 key n cap))) (aL:n=m) (k:ag c ops Q l ((eQ,.eq (a5 key m cap)) :: E) L):ag c ops Q l E L:=fun a W s=>by
 subst aL
 refine k a W (s.less fun t τ h=> ?_)
 simp only [look] at h
 by_cases e:Nat.beq eQ t=true
 ·rw [e] at h
  simp only [cond_true] at h
  have:=dX.1 e
  subst this
  exact⟨τ,by rw [ar,h],fun _ _ _ h=>h⟩
 ·simp only [Bool.not_eq_true] at e
  rw [e] at h
  exact⟨τ,h,fun _ _ _ h=>h⟩
end
theorem oz {α:Type} {xs r:List α} {k:Nat} {v:α} (h:iL xs k v=r):xs.length=r.length:=by rw [← h]; simp [iL]
theorem I2 {α:Type} {b:Nat} {r:List α} (h:((hQ b [] ([]:List α)).bind fun y=>some y)=some r):r= []:=by
 obtain⟨y,J,ad⟩:=bind_some h
 obtain⟨_,_,ax⟩:=I7 J
 rw [ax] at ad
 exact(aS ad).symm
end Gv
