/-
  The library of the decompiler, as far as it is needed here. Conditions: none.
-/
import Derived.WalkKit
import Derived.StillTail
import Derived.OwnWalkIn
import Derived.RangeFuncNested
import Derived.RangeFuncLeaves
import Derived.RangeFuncCalls
import Derived.ChangeSame
import Derived.OpenShut
import Derived.Carry
import Derived.DataReads
set_option linter.unusedVariables false
set_option linter.unusedSimpArgs false
namespace Gv
open Go
theorem DI (w:World) (o:Obj) (i:Nat) (h:i < w.heap.size):(w.alloc o).heap[i]? =w.heap[i]? :=by
 show(w.heap.push o)[i]? =w.heap[i]?
 rw [Array.getElem?_push,if_neg (Nat.ne_of_lt h)]
theorem MM (w:World) (o:Obj):(w.alloc o).heap[w.heap.size]? =some o:=by
 show(w.heap.push o)[w.heap.size]? =some o
 simp
structure Fr (X:List Nat) (W W':World):Prop where
 os:W'.os=W.os
 tape:W'.tape=W.tape
 output:W'.output=W.output
 size:W.heap.size≤W'.heap.size
 block:∀ k,k < W.heap.size→k ∉ X→W'.heap[k]? =W.heap[k]?
theorem Fr.refl (X:List Nat) (W:World):Fr X W W:=⟨rfl,rfl,rfl,Nat.le_refl _,fun _ _ _=>rfl⟩
theorem Fr.trans {X:List Nat} {A B C:World} (h:Fr X A B) (k:Fr X B C):Fr X A C:=
 ⟨k.os.trans h.os,k.tape.trans h.tape,k.output.trans h.output,Nat.le_trans h.size k.size,
   fun i ar al=>(k.block i (Nat.lt_of_lt_of_le ar h.size) al).trans (h.block i ar al)⟩
theorem Fr.weaken {X Y:List Nat} {A B:World} (h:Fr X A B) (s:∀ k∈X,k∈Y):Fr Y A B:=
 ⟨h.os,h.tape,h.output,h.size,fun i ar al=>h.block i ar fun hm=>al (s _ hm)⟩
theorem Fr.nil {X:List Nat} {A B:World} (h:Fr [] A B):Fr X A B:=h.weaken (by simp)
theorem Fr.only {X Y:List Nat} {A B:World} (h:Fr X A B) (s:∀ k∈X,k < A.heap.size→k∈Y):Fr Y A B:=
 ⟨h.os,h.tape,h.output,h.size,fun i ar al=>h.block i ar fun hm=>al (s _ hm ar)⟩
theorem Fr.alloc {X:List Nat} (W:World) (o:Obj):Fr X W (W.alloc o):=
 ⟨rfl,rfl,rfl,by simp,fun k au _=>DI W o k au⟩
theorem Fr.drew {X:List Nat} (W:World):Fr X W W.drew:=⟨rfl,rfl,rfl,Nat.le_refl _,fun _ _ _=>rfl⟩
theorem Fr.setRow {X:List Nat} (W:World) (g:Nat) (cs:Array Value) (h:g∈X):Fr X W (W.setRow g cs):=
 ⟨rfl,rfl,rfl,by simp,fun k _ al=>setRow_other W g k cs (fun e=>al (e ▸ h))⟩
structure Ext (A:List Nat) (W:World) (c0:List Nat) (W':World):Prop where
 size:W.heap.size≤W'.heap.size
 block:∀ k,k < W.heap.size→k ∉ A→W'.heap[k]? =W.heap[k]?
 new:∀ k∈c0,k < W.heap.size→k∈A
theorem Ext.refl (A:List Nat) (W:World):Ext A W A W:=⟨Nat.le_refl _,fun _ _ _=>rfl,fun _ h _=>h⟩
theorem Ext.trans {A B C:List Nat} {U V W:World} (h:Ext A U B V) (k:Ext B V C W):Ext A U C W:=
 ⟨Nat.le_trans h.size k.size,
  fun i ar bd=>(k.block i (Nat.lt_of_lt_of_le ar h.size) (fun hb=>bd (h.new i hb ar))).trans (h.block i ar bd),
  fun i ak ar=>h.new i (k.new i ak (Nat.lt_of_lt_of_le ar h.size)) ar⟩
theorem Ext.W8 {A X:List Nat} {W W':World} (h:Fr X W W') (s:∀ k∈X,k∈A):Ext A W A W':=
 ⟨h.size,fun k au bd=>h.block k au fun al=>bd (s k al),fun _ h _=>h⟩
theorem Ext.dw {A:List Nat} {W W':World} (h:Fr [] W W'):Ext A W A W':= .W8 h (by simp)
theorem Ext.drop {A c0:List Nat} {W:World} (s:∀ k∈c0,k∈A):Ext A W c0 W:=⟨Nat.le_refl _,fun _ _ _=>rfl,fun k h _=>s k h⟩
structure I where
 holds:List Nat→World→Value→Prop
 mono:∀ {A W c0 W' v},Ext A W c0 W'→holds A W v→holds c0 W' v
class ag (α:Type) where
 size:Nat
 agg:Bool
 rep:List Nat→World→List Value→α→Prop
 len:∀ {A W cs x},rep A W cs x→cs.length=size
 one:∀ {A W cs x},rep A W cs x→ ∀ v∈cs,v.oneCell'=true
 flat:agg=false→size=1
 mono:∀ {A W c0 W' cs x},Ext A W c0 W'→rep A W cs x→rep c0 W' cs x
def shaped (b:Bool) (v:Value):Prop:=if b=true then ∃ cs,v= .agg cs else v.oneCell'=true
theorem oo {v:Value} (h:v.oneCell'=true):v.cells= #[v]:=by cases v <;> first | rfl | simp [Value.oneCell'] at h
def I.of {α:Type} [ag α] (x:α):I where
 holds A W v:=shaped (ag.agg α) v∧ag.rep A W v.cells.toList x
 mono e h:=⟨h.1,ag.mono e h.2⟩
def I.eq (u:Value):I where
 holds _ _ v:=v=u
 mono _ h:=h
def I.cond (c:Prop) (τ:I):I where
 holds A W v:=(c→τ.holds A W v)∧ (¬ c→v=undef)
 mono e h:=⟨fun ak=>τ.mono e (h.1 ak),h.2⟩
def I.any:I where
 holds _ _ _:=True
 mono _ h:=h
inductive gb (A:List Nat) (W:World):List I→List Value→Prop
 | nil:gb A W [] []
 | cons {τ v τs vs} :τ.holds A W v→gb A W τs vs→gb A W (τ :: τs) (v :: vs)
theorem gb.mono {A W c0 W'} (e:Ext A W c0 W'):∀ {τs vs},gb A W τs vs→gb c0 W' τs vs
 | _,_,.nil=> .nil
 | _,_,.cons h r=> .cons (I.mono _ e h) (r.mono e)
theorem gb.length {A W} :∀ {τs vs},gb A W τs vs→vs.length=τs.length
 | _,_,.nil=>rfl
 | _,_,.cons _ r=>by simp [r.length]
def I.eD (τs:List I):I where
 holds A W v:= ∃ vs:Array Value,v= .tuple vs∧gb A W τs vs.toList
 mono e h:=let⟨vs,a6,ck⟩:=h; ⟨vs,a6,ck.mono e⟩
def I.ptr {α:Type} [ag α] (x:α):I where
 holds A W v:= ∃ b off cur T hK,v= .pointer (some ⟨b,off,none⟩)∧b ∉ A∧W.heap[b]? =some (.cells cur T hK)∧off + ag.size α≤cur.size∧ag.rep A W ((cur.toList.drop off).take (ag.size α)) x
 mono e h:=by
  obtain⟨b,off,cur,T,hK,rfl,hb,ck,hs,aS⟩:=h
  have cb:b < _:=(Array.getElem?_eq_some_iff.1 ck).1
  exact⟨b,off,cur,T,hK,rfl,fun hm=>hb (e.new b hm cb),by rw [e.block b cb hb]; exact ck,hs,ag.mono e aS⟩
structure dr where
 holds:List Nat→World→Obj→Prop
 l4:Prop
 mono:∀ {A W c0 W' o},Ext A W c0 W'→holds A W o→holds c0 W' o
def dr.var {α:Type} [ag α] (x:α):dr where
 holds A W o:= ∃ cs T,o= .cells cs T (0,0)∧ag.rep A W cs.toList x
 l4:=False
 mono e h:=let⟨cs,T,a9,aS⟩:=h; ⟨cs,T,a9,ag.mono e aS⟩
def gi {α:Type} [ag α] (A:List Nat) (W:World) (cs:List Value) (xs:List α):Prop:=
 cs.length=xs.length * ag.size α∧ ∀ i (h:i < xs.length),ag.rep A W ((cs.drop (i * ag.size α)).take (ag.size α)) xs[i]
theorem gi.mono {α:Type} [ag α] {A W c0 W'} {cs:List Value} {xs:List α} (e:Ext A W c0 W') (h:gi A W cs xs):gi c0 W' cs xs:=
 ⟨h.1,fun i ar=>ag.mono e (h.2 i ar)⟩
def dr.row {α:Type} [ag α] (T:TypeId) (xs:List α) (cap:Nat):dr where
 holds A W o:= ∃ cs,o= .cells cs T (0,0)∧cs.size=cap * ag.size α∧xs.length≤cap∧cap≤maxLen∧gi A W (cs.toList.take (xs.length * ag.size α)) xs
 l4:=xs= []∧cap=0
 mono e h:=let⟨cs,J,ad,ay,aU,a0⟩:=h; ⟨cs,J,ad,ay,aU,a0.mono e⟩
def dr.dead:dr where
 holds _ _ _:=True
 l4:=True
 mono _ h:=h
structure aJ where
 key:Option Nat
 cp:dr
def aJ.ok (A:List Nat) (W:World) (e:aJ):Prop:=
 match e.key with
 | some p=> ∃ o,W.heap[p]? =some o∧e.cp.holds A W o
 | none=>e.cp.l4
def aL:List aJ→List Nat
 | []=> []
 | e :: r=>match e.key with
   | some p=>p :: aL r
   | none=>aL r
theorem kJ {L:List aJ} {k:Nat} :k∈aL L↔ ∃ e∈L,e.key=some k:=by
 induction L with
 | nil=>simp [aL]
 | cons e r bH=>
   cases au:e.key with
   | none=>simp [aL,au,bH]
   | some p=>simp [aL,au,bH,eq_comm]
structure c5 where
 P:Program
 n:Nat
 iP:World
 X:List Nat
 bX:List Nat
 rd:Option Nat
 ds:List Nat
def Ex (D:Nat):Deferred:= { target:= .collected D,args:= #[] }
abbrev c5.F (c:c5):Fence:= { fn:=fun _=>True,depth:=none,alive:=false,round:=c.rd }
abbrev c5.wp (c:c5) (y:Code) (Q:Exit→Act→World→Prop):Act→World→Prop:=y.wpIn c.F 9 c.P Q
abbrev c5.qq (c:c5) (ops:Array Oper) (Q:Exit→Act→World→Prop):List Oper→Act→World→Prop:=wpListIn c.F 9 c.P ops Q
def look:List (Nat × I)→Nat→Option I
 | [],_=>none
 | (s,τ) :: r,t=>bif Nat.beq s t then some τ else look r t
structure bw (c:c5) (E:List (Nat × I)) (L:List aJ) (a:Act) (W:World):Prop where
 defers:a.defers=c.ds.map Ex
 size:a.tmps.size=c.n
 env:∀ t τ,look E t=some τ→ ∃ v,a.tmps[t]? =some v∧τ.holds (aL L ++ c.bX) W v
 dw:Fr c.X c.iP W
 own:∀ e∈L,e.ok (aL L ++ c.bX) W
 nodup:(aL L).Nodup
 lt:∀ k∈aL L,k < W.heap.size
 fD:∀ k∈aL L,k < c.iP.heap.size→k∈c.X
 eF:∀ k∈c.bX,k < W.heap.size∧k ∉ aL L
theorem ej {s t:Nat} :Nat.beq s t=true↔s=t:=by
 constructor
 ·exact Nat.eq_of_beq_eq_true
 ·rintro rfl; exact Nat.beq_refl s
theorem bw.DJ {c E L a W} (h:bw c E L a W):∀ k∈aL L ++ c.bX,k < W.heap.size:=by
 intro k au
 rcases List.mem_append.1 au with au | au
 ·exact h.lt k au
 ·exact(h.eF k au).1
theorem bw.world {c E L a W W'} (h:bw c E L a W) (f:Fr [] W W'):bw c E L a W' where
 defers:=h.defers
 size:=h.size
 env t τ ao:=let⟨v,J,ad⟩:=h.env t τ ao; ⟨v,J,τ.mono (.dw f) ad⟩
 dw:=h.dw.trans f.nil
 own e he:=by
  have J:=h.own e he
  unfold aJ.ok at *
  split at J
  ·rename_i p hp
   obtain⟨o,a9,ck⟩:=J
   have cb:=h.lt p (kJ.2 ⟨e,he,hp⟩)
   exact⟨o,by rw [f.block p cb (by simp)]; exact a9,dr.mono _ (.dw f) ck⟩
  ·exact J
 nodup:=h.nodup
 lt k au:=Nat.lt_of_lt_of_le (h.lt k au) f.size
 fD:=h.fD
 eF k au:=⟨Nat.lt_of_lt_of_le (h.eF k au).1 f.size,(h.eF k au).2⟩
theorem bw.put {c E L a W} (h:bw c E L a W) {d:Nat} (hd:d < c.n) {v:Value} {τ:I} (a6:τ.holds (aL L ++ c.bX) W v):
 bw c ((d,τ) :: E) L (a.put (some d) v) W where
 defers:=h.defers
 size:=by simp [Act.put,h.size]
 env t rR ao:=by
  simp only [look] at ao
  simp only [Act.put]
  by_cases e:Nat.beq d t=true
  ·rw [e] at ao
   simp only [cond_true,Option.some.injEq] at ao
   subst ao
   have:=ej.1 e
   subst this
   exact⟨v,by simp [h.size,hd],a6⟩
  ·simp only [Bool.not_eq_true] at e
   rw [e] at ao
   simp only [cond_false] at ao
   obtain⟨u,J,ad⟩:=h.env t rR ao
   have cH:d≠t:=fun h=>by rw [ej.2 h] at e; cases e
   exact⟨u,by rw [Array.getElem?_setIfInBounds_ne cH]; exact J,ad⟩
 dw:=h.dw
 own:=h.own
 nodup:=h.nodup
 lt:=h.lt
 fD:=h.fD
 eF:=h.eF
theorem bw.wQ {c E L a W} (s:bw c E L a W) (h:c.ds= []):a.defers= []:=by rw [s.defers,h]; rfl
theorem bw.less {c E E' L a W} (h:bw c E L a W) (aD:∀ t τ,look E' t=some τ→ ∃ σ,look E t=some σ∧ ∀ A W v,σ.holds A W v→τ.holds A W v):bw c E' L a W:=
 {h with env:=fun t τ ao=>let⟨_,J,ad⟩:=aD t τ ao; let⟨v,ay,aU⟩:=h.env t _ J; ⟨v,ay,ad _ _ _ aU⟩ }
theorem bw.alloc {c E L a W} (h:bw c E L a W) {o:Obj} {cp:dr} (ak:cp.holds (aL L ++ c.bX) W o):
 bw c E (⟨some W.heap.size,cp⟩ :: L) a (W.alloc o):=by
 have oG:W.heap.size ∉ aL L:=fun hm=>Nat.lt_irrefl _ (h.lt _ hm)
 have gK:Ext (aL L ++ c.bX) W (aL (⟨some W.heap.size,cp⟩ :: L) ++ c.bX) (W.alloc o):=
  ⟨by simp,fun k au _=>DI W o k au,fun k au cb=>by
   simp only [aL,List.cons_append,List.mem_cons] at au
   rcases au with rfl | au
   ·exact absurd cb (Nat.lt_irrefl _)
   ·exact au⟩
 exact
 {defers:=h.defers
  size:=h.size
  env:=fun t τ ao=>let⟨v,J,ad⟩:=h.env t τ ao; ⟨v,J,τ.mono gK ad⟩
  dw:=h.dw.trans (Fr.alloc W o)
  own:=fun e he=>by
   rcases List.mem_cons.1 he with rfl | he
   ·exact⟨o,MM W o,cp.mono gK ak⟩
   ·have J:=h.own e he
    unfold aJ.ok at *
    split at J
    ·rename_i p hp
     obtain⟨o',a9,ck⟩:=J
     exact⟨o',by rw [DI W o p (h.lt p (kJ.2 ⟨e,he,hp⟩))]; exact a9,dr.mono _ gK ck⟩
    ·exact J
  nodup:=by simp only [aL]; exact List.nodup_cons.2 ⟨oG,h.nodup⟩
  lt:=fun k au=>by
   simp only [aL,List.mem_cons] at au
   rw [World.size_alloc]
   rcases au with rfl | au
   ·omega
   ·have:=h.lt k au; omega
  fD:=fun k au cb=>by
   simp only [aL,List.mem_cons] at au
   rcases au with rfl | au
   ·have:=h.dw.size; omega
   ·exact h.fD k au cb
  eF:=fun k au=>by
   obtain⟨J,ad⟩:=h.eF k au
   refine⟨by rw [World.size_alloc]; omega,fun hm=> ?_⟩
   simp only [aL,List.mem_cons] at hm
   rcases hm with rfl | hm
   ·omega
   ·exact ad hm }
theorem bw.sub {c E L L' a W} (h:bw c E L a W) (an:∀ e∈L',e∈L) (aP:(aL L').Nodup):bw c E L' a W:=by
 have au:∀ k∈aL L',k∈aL L:=fun k au=>by
  obtain⟨e,he,ad⟩:=kJ.1 au
  exact kJ.2 ⟨e,an e he,ad⟩
 have gK:Ext (aL L ++ c.bX) W (aL L' ++ c.bX) W:= .drop fun k hm=>by
  rcases List.mem_append.1 hm with hm | hm
  ·exact List.mem_append.2 (.inl (au k hm))
  ·exact List.mem_append.2 (.inr hm)
 exact
 {defers:=h.defers
  size:=h.size
  env:=fun t τ ao=>let⟨v,J,ad⟩:=h.env t τ ao; ⟨v,J,τ.mono gK ad⟩
  dw:=h.dw
  own:=fun e he=>by
   have J:=h.own e (an e he)
   unfold aJ.ok at *
   split at J
   ·obtain⟨o',a9,ck⟩:=J
    exact⟨o',a9,dr.mono _ gK ck⟩
   ·exact J
  nodup:=aP
  lt:=fun k hm=>h.lt k (au k hm)
  fD:=fun k hm=>h.fD k (au k hm)
  eF:=fun k hm=>⟨(h.eF k hm).1,fun ad=>(h.eF k hm).2 (au k ad)⟩ }
theorem eB (L R:List aJ):aL (L ++ R)=aL L ++ aL R:=by
 induction L with
 | nil=>rfl
 | cons e r bH=>cases au:e.key <;> simp [aL,au,bH]
theorem xa {L:List aJ} {i:Nat} {e:aJ} {cp:dr} (ar:L[i]? =some e):aL (L.set i ⟨e.key,cp⟩)=aL L:=by
 induction L generalizing i with
 | nil=>simp at ar
 | cons x r bH=>
   cases i with
   | zero=>simp only [List.getElem?_cons_zero,Option.some.injEq] at ar; subst ar; simp [aL]
   | succ i=>simp only [List.getElem?_cons_succ] at ar; simp [aL,bH ar]
theorem Hs {L:List aJ} (aP:(aL L).Nodup) {i j:Nat} {e f:aJ} {p:Nat} (ar:L[i]? =some e) (aG:L[j]? =some f) (he:e.key=some p) (a8:f.key=some p):i=j:=by
 induction L generalizing i j with
 | nil=>simp at ar
 | cons x r bH=>
   have aS:(aL r).Nodup:=by
    cases al:x.key with
    | none=>simpa [aL,al] using aP
    | some q=>simp only [aL,al] at aP; exact(List.nodup_cons.1 aP).2
   have pn:∀ q,x.key=some q→q ∉ aL r:=fun q al=>by simp only [aL,al] at aP; exact(List.nodup_cons.1 aP).1
   cases i with
   | zero=>
     simp only [List.getElem?_cons_zero,Option.some.injEq] at ar
     subst ar
     cases j with
     | zero=>rfl
     | succ j=>
       simp only [List.getElem?_cons_succ] at aG
       exact absurd (kJ.2 ⟨f,List.mem_of_getElem? aG,a8⟩) (pn p he)
   | succ i=>
     simp only [List.getElem?_cons_succ] at ar
     cases j with
     | zero=>
       simp only [List.getElem?_cons_zero,Option.some.injEq] at aG
       subst aG
       exact absurd (kJ.2 ⟨e,List.mem_of_getElem? ar,he⟩) (pn p a8)
     | succ j=>
       simp only [List.getElem?_cons_succ] at aG
       rw [bH aS ar aG]
theorem bw.store {c E L a W} (h:bw c E L a W) {i p:Nat} {cp cp':dr} (ar:L[i]? =some ⟨some p,cp⟩) {cs dN:Array Value} {T:TypeId}
 (a9:W.heap[p]? =some (.cells cs T (0,0))) (ak:cp'.holds (aL L ++ c.bX) W (.cells dN T (0,0))):
 bw c E (L.set i ⟨some p,cp'⟩) a (W.setRow p dN):=by
 have gN:aL (L.set i ⟨some p,cp'⟩)=aL L:=xa (cp:=cp') ar
 have hp:p∈aL L:=kJ.2 ⟨_,List.mem_of_getElem? ar,rfl⟩
 have gK:Ext (aL L ++ c.bX) W (aL L ++ c.bX) (W.setRow p dN):=
  ⟨by simp,fun k _ bd=>setRow_other W p k dN (fun e=>bd (e ▸ List.mem_append.2 (.inl hp))),fun _ h _=>h⟩
 exact
 {defers:=h.defers
  size:=h.size
  env:=fun t τ ao=>by rw [gN]; exact let⟨v,J,ad⟩:=h.env t τ ao; ⟨v,J,τ.mono gK ad⟩
  dw:=⟨h.dw.os,h.dw.tape,h.dw.output,by simpa using h.dw.size,fun k au al=>by
   rw [setRow_other W p k dN (fun e=>al (e ▸ h.fD p hp (e ▸ au)))]
   exact h.dw.block k au al⟩
  own:=fun e he=>by
   rw [gN]
   obtain⟨j,aG⟩:=List.mem_iff_getElem?.1 he
   rw [List.getElem?_set] at aG
   split at aG
   ·rename_i fk
    subst fk
    split at aG
    ·simp only [Option.some.injEq] at aG
     subst aG
     exact⟨_,setRow_heap W p cs dN T (0,0) a9,cp'.mono gK ak⟩
    ·cases aG
   ·rename_i fk
    have J:=h.own e (List.mem_of_getElem? aG)
    unfold aJ.ok at *
    split at J
    ·rename_i q hq
     obtain⟨o',pB,ck⟩:=J
     have cH:q≠p:=fun e'=>fk (Hs h.nodup ar aG rfl (e' ▸ hq))
     exact⟨o',by rw [setRow_other W p q dN cH]; exact pB,dr.mono _ gK ck⟩
    ·exact J
  nodup:=by rw [gN]; exact h.nodup
  lt:=by rw [gN]; simpa using h.lt
  fD:=by rw [gN]; exact h.fD
  eF:=by rw [gN]; simpa using h.eF }
abbrev ag.scalar {α:Type} (val:α→Value) (h:∀ x,(val x).oneCell'=true):ag α where
 size:=1
 agg:=false
 rep _ _ cs x:=cs= [val x]
 len h:=by rw [h]; rfl
 one aS:=by subst aS; intro v a6; rw [List.mem_singleton.1 a6]; exact h _
 flat _:=rfl
 mono _ h:=h
instance:ag Bool:= .scalar Value.bool fun _=>rfl
instance:ag Int:= .scalar (Value.int .i64) fun _=>rfl
instance:ag (BitVec 64):= .scalar (fun x=>Value.int .u64 (x.toNat:Int)) fun _=>rfl
instance:ag (BitVec 32):= .scalar (fun x=>Value.int .u32 (x.toNat:Int)) fun _=>rfl
instance:ag (BitVec 16):= .scalar (fun x=>Value.int .u16 (x.toNat:Int)) fun _=>rfl
instance:ag (BitVec 8):= .scalar (fun x=>Value.int .u8 (x.toNat:Int)) fun _=>rfl
instance:ag ByteArray:= .scalar Value.string fun _=>rfl
theorem nG {v u:Value} (h:v.oneCell'=true) (e:v.cells.toList= [u]):v=u:=by
 rw [oo h] at e
 simpa using e
theorem of_bool {A W v} {b:Bool} :(I.of b).holds A W v↔v= .bool b:=
 ⟨fun h=>nG h.1 h.2,fun h=>by subst h; exact⟨rfl,rfl⟩⟩
theorem of_int {A W v} {x:Int} :(I.of x).holds A W v↔v= .int .i64 x:=
 ⟨fun h=>nG h.1 h.2,fun h=>by subst h; exact⟨rfl,rfl⟩⟩
theorem gn {A W v} {x:BitVec 64} :(I.of x).holds A W v↔v= .int .u64 (x.toNat:Int):=
 ⟨fun h=>nG h.1 h.2,fun h=>by subst h; exact⟨rfl,rfl⟩⟩
theorem Eg {A W v} {x:BitVec 8} :(I.of x).holds A W v↔v= .int .u8 (x.toNat:Int):=
 ⟨fun h=>nG h.1 h.2,fun h=>by subst h; exact⟨rfl,rfl⟩⟩
theorem MN {A W v} {x:ByteArray} :(I.of x).holds A W v↔v= .string x:=
 ⟨fun h=>nG h.1 h.2,fun h=>by subst h; exact⟨rfl,rfl⟩⟩
def a7 (c:c5) (E:List (Nat × I)) (L:List aJ) (x:Operand) (τ:I):Prop:= ∀ a W,bw c E L a W→τ.holds (aL L ++ c.bX) W (a.eval x)
section
variable {c:c5} {E:List (Nat × I)} {L:List aJ}
theorem ab {t:Nat} {τ:I} (h:look E t=some τ):a7 c E L (.tmp t) τ:=fun a W s=>by
 obtain⟨v,J,ad⟩:=s.env t τ h
 have:a.eval (.tmp t)=v:=by simp [Act.eval,J]
 rw [this]; exact ad
theorem cq {t:Nat} {τ:I} {p:Prop} (h:look E t=some (.cond p τ)) (hp:p):a7 c E L (.tmp t) τ:=fun a W s=>(ab h a W s).1 hp
theorem MA (v:Value):a7 c E L (.const v) (.eq v):=fun _ _ _=>rfl
theorem bN (k:Int):a7 c E L (.const (.int .i64 k)) (.of k):=fun _ _ _=>of_int.2 rfl
theorem fG (b:Bool):a7 c E L (.const (.bool b)) (.of b):=fun _ _ _=>of_bool.2 rfl
theorem fT (x:BitVec 64) {k:Int} (h:(x.toNat:Int)=k):a7 c E L (.const (.int .u64 k)) (.of x):=fun _ _ _=>gn.2 (by rw [h]; rfl)
theorem dA (s:ByteArray):a7 c E L (.const (.string s)) (.of s):=fun _ _ _=>MN.2 rfl
def gj (P:Program) (o:Oper) (a:Act) (W:World) (R:Value→World→Prop):Prop:=
 o.wp P a W (fun fY W'=> ∃ v,fY=a.put o.dst v∧R v W') (fun _ _ _=>False)
theorem CallsIn.G8 {rd:Option Nat} {n:Nat} {P:Program} {f:FuncId} {args:Array Value} {w:World} {R:Ending→World→Prop}
 (h:Calls P f args w R):CallsIn { fn:=fun _=>True,depth:=none,alive:=false,round:=rd } n P f args w R:=
 (callsIn_wide (n:=n)).2 h
theorem RowsIn.Vc {rd:Option Nat} {n:Nat} {P:Program} {row:String} {args:Array Value} {w:World} {R:Value→World→Prop}
 (h:Rows P row args w R):RowsIn { fn:=fun _=>True,depth:=none,alive:=false,round:=rd } n P row args w R:=
 fun c cs _=>let⟨v,pR,r,s⟩:=h c cs; ⟨v,pR,r,stepsIn_wide.2 s⟩
theorem gj.wp {P:Program} {o:Oper} {a:Act} {W:World} {R:Value→World→Prop} {next:Act→World→Prop} {Q:Exit→Act→World→Prop}
 (h:gj P o a W R) (au:∀ v W',R v W'→next (a.put o.dst v) W'):o.wp P a W next Q:=by
 unfold gj Oper.wp at *
 generalize (execOp a.eval o).run P W=r at *
 cases r with
 | ok n W'=>
   cases n <;> simp only [Oper.upon] at h ⊢
   case value v=>obtain⟨u,J,ad⟩:=h; rw [J]; exact au _ _ ad
   case skip=>obtain⟨u,J,ad⟩:=h; rw [J]; exact au _ _ ad
   case defer d=>obtain⟨u,J,ad⟩:=h; rw [J]; exact au _ _ ad
   case enter f args=>
    refine h.mono fun e tj he=> ?_
    cases e with
    | returned v=>obtain⟨u,J,ad⟩:=he; simp only at J ⊢; rw [J]; exact au _ _ ad
    | panicked JK=>exact he.elim
    | outgrown=>obtain⟨_,_,J⟩:=he; exact J.elim
   case row row args=>exact h.mono fun v tj ⟨u,J,ad⟩=>by rw [J]; exact au _ _ ad
 | halt x W'=>cases x <;> simp only [Oper.upon] at h
theorem gj.TA {P:Program} {o:Oper} {a:Act} {W:World} {R:Value→World→Prop} (h:gj P o a W R):∀ c,o.op≠ .defer c:=by
 intro c a9
 unfold gj Oper.wp execOp at h
 rw [a9] at h
 simp only [Sem.run_bind] at h
 generalize (resolve a.eval c o.type).run P W=r at h
 cases r with
 | ok d W'=>
   simp only [Result.andThen,Sem.run_pure,Oper.upon] at h
   obtain⟨v,J,_⟩:=h
   have:=congrArg Act.defers J
   cases hd:o.dst <;> simp [Act.put,hd] at this
 | halt x W'=>cases x <;> simp only [Result.andThen,Oper.upon] at h
theorem gj.wpIn {c:c5} {n:Nat} {o:Oper} {a:Act} {W:World} {R:Value→World→Prop} {next:Act→World→Prop} {Q:Exit→Act→World→Prop}
 (h:gj c.P o a W R) (au:∀ v W',R v W'→next (a.put o.dst v) W'):o.wpIn c.F n c.P a W next Q:=by
 refine⟨fun _ _=>trivial,?_⟩
 rw [Oper.semAt_eq _ _ _ h.TA]
 unfold gj Oper.wp at h
 generalize (execOp a.eval o).run c.P W=r at *
 cases r with
 | ok m W'=>
   cases m <;> simp only [Oper.upon,Oper.uponIn] at h ⊢
   case value v=>obtain⟨u,J,ad⟩:=h; rw [J]; exact au _ _ ad
   case skip=>obtain⟨u,J,ad⟩:=h; rw [J]; exact au _ _ ad
   case defer d=>obtain⟨u,J,ad⟩:=h; rw [J]; exact au _ _ ad
   case enter f args=>
    refine⟨fun h=>by simp at h,CallsIn.G8 ?_⟩
    refine h.mono fun e tj he=> ?_
    cases e with
    | returned v=>obtain⟨u,J,ad⟩:=he; simp only at J ⊢; rw [J]; exact au _ _ ad
    | panicked JK=>exact he.elim
    | outgrown=>obtain⟨_,_,J⟩:=he; exact J.elim
   case row row args=>
    refine⟨fun h=>by simp at h,RowsIn.Vc ?_⟩
    exact h.mono fun v tj ⟨u,J,ad⟩=>by rw [J]; exact au _ _ ad
 | halt x W'=>cases x <;> simp only [Oper.upon] at h
theorem RN {c:c5} {n:Nat} {o:Oper} {a:Act} {W W':World} {v:Value} {next:Act→World→Prop} {Q:Exit→Act→World→Prop}
 (h:(execOp a.eval o).run c.P W= .ok (.value v) W') (au:next (a.put o.dst v) W'):o.wpIn c.F n c.P a W next Q:=
 gj.wpIn (R:=fun u U=>u=v∧U=W') (by unfold gj Oper.wp; rw [h]; exact⟨v,rfl,rfl,rfl⟩) fun u U ⟨J,ad⟩=>by subst J; subst ad; exact au
theorem KB {c:c5} {n:Nat} {o:Oper} {a:Act} {W W':World} {next:Act→World→Prop} {Q:Exit→Act→World→Prop}
 (h:(execOp a.eval o).run c.P W= .ok .skip W') (au:next (a.put o.dst undef) W'):o.wpIn c.F n c.P a W next Q:=
 gj.wpIn (R:=fun u U=>u=undef∧U=W') (by unfold gj Oper.wp; rw [h]; exact⟨undef,rfl,rfl,rfl⟩) fun u U ⟨J,ad⟩=>by subst J; subst ad; exact au
theorem za {F:Fence} {n:Nat} {P:Program} {md:Region.Mode} {ops:Array Oper} {r9:Exit→Act→World→Prop} :∀ (l:List Oper) (k:Nat) (a3:Array Bool) (a:Act) (w:World),(∀ j,l[j]? =ops[k + j]?)→
 Region.seqB md ops l.length k a3=true→wpListIn F n P ops r9 l a w→wpAnyIn F n P md ops r9 l.length a3 a w
 | [],_,_,_,_,_,gX,h=>⟨by simpa [Region.seqB] using gX,h⟩
 | o :: l,k,a3,a,w,ao,gX,h=>by
   have bG:ops[k]? =some o:=by simpa using (ao 0).symm
   simp only [List.length_cons,Region.seqB,Bool.and_eq_true,decide_eq_true_eq] at gX
   refine⟨fun J=>(by rw [gX.1] at J; cases J),fun i ar=> ?_⟩
   rw [gX.1] at ar
   have kU:i=k:=by simpa using ar
   subst kU
   have hw:wpOpIn F n P ops r9 i (wpListIn F n P ops r9 l) a w:=by unfold wpOpIn; simp only [bG]; exact h
   exact wpOpIn_mono (fun fY pR cX=>za l (i + 1) _ fY pR (fun j=>by have:=ao (j + 1); simpa [Nat.add_assoc,Nat.add_comm 1 j] using this) gX.2 cX) hw
theorem gj.kj {P:Program} {o:Oper} {a:Act} {W W':World} {R:Value→World→Prop} {v:Value}
 (h:(execOp a.eval o).run P W= .ok (.value v) W') (aS:R v W'):gj P o a W R:=by
 unfold gj Oper.wp
 rw [h]
 exact⟨v,rfl,aS⟩
theorem gj.wY {P:Program} {o:Oper} {a:Act} {W W':World} {R:Value→World→Prop}
 (h:(execOp a.eval o).run P W= .ok .skip W') (aS:R undef W'):gj P o a W R:=by
 unfold gj Oper.wp
 rw [h]
 exact⟨undef,rfl,aS⟩
theorem gj.uf {P:Program} {o:Oper} {a:Act} {W W':World} {R:Value→World→Prop} {f:FuncId} {args:Array Value}
 (h:(execOp a.eval o).run P W= .ok (.enter f args) W') (aS:Calls P f args W' fun e tj=> ∃ v,e= .returned v∧R v tj):gj P o a W R:=by
 unfold gj Oper.wp
 rw [h]
 exact aS.mono fun e tj ⟨v,he,ad⟩=>by subst he; exact⟨v,rfl,ad⟩
def b4 (c:c5) (E:List (Nat × I)) (L:List aJ) (o:Oper) (τ:I):Prop:=
 ∀ a W,bw c E L a W→gj c.P o a W fun v W'=>Fr [] W W'∧τ.holds (aL L ++ c.bX) W' v
theorem b4.pure {o:Oper} {τ:I} (h:∀ a W,bw c E L a W→ ∃ v,(execOp a.eval o).run c.P W= .ok (.value v) W∧τ.holds (aL L ++ c.bX) W v):b4 c E L o τ:=
 fun a W s=>let⟨_,J,ad⟩:=h a W s; .kj J ⟨.refl _ _,ad⟩
variable {ops:Array Oper} {Q:Exit→Act→World→Prop}
def ah (c:c5) (ops:Array Oper) (Q:Exit→Act→World→Prop) (l:List Oper) (E:List (Nat × I)) (L:List aJ):Prop:=
 ∀ a W,bw c E L a W→c.qq ops Q l a W
def ae (c:c5) (Q:Exit→Act→World→Prop) (x:Exit) (E:List (Nat × I)) (L:List aJ):Prop:= ∀ a W,bw c E L a W→Q x a W
theorem ah.nil (h:ae c Q .normal E L):ah c ops Q [] E L:=fun a W s=>wpListIn_nil (h a W s)
theorem g9 {c:c5} {o:Oper} {rest:List Oper} {a:Act} {W:World} (bE:o.guard=none) {R:Value→World→Prop} (h:gj c.P o a W R)
 (au:∀ v W',R v W'→c.qq ops Q rest (a.put o.dst v) W'):c.qq ops Q (o :: rest) a W:=
 wpListIn_plain bE fun _ vX=>h.wpIn fun v W' aS=>vX _ _ (au v W' aS)
theorem ah.v {o:Oper} {rest:List Oper} {d:Nat} {τ:I} (h:b4 c E L o τ) (bE:o.guard=none) (hd:o.dst=some d) (aP:Nat.blt d c.n=true)
 (k:ah c ops Q rest ((d,τ) :: E) L):ah c ops Q (o :: rest) E L:=fun a W s=>
 g9 bE (h a W s) fun v W' ⟨f,a6⟩=>by
  rw [hd]
  exact k _ _ ((s.world f).put (by simpa using aP) a6)
theorem ah.x {o:Oper} {rest:List Oper} {τ:I} (h:b4 c E L o τ) (bE:o.guard=none) (hd:o.dst=none)
 (k:ah c ops Q rest E L):ah c ops Q (o :: rest) E L:=fun a W s=>
 g9 bE (h a W s) fun v W' ⟨f,_⟩=>by
  rw [hd]
  exact k _ _ (s.world f)
theorem C8 {j g:Nat} {b:Bool} (aG:(ops[j]?).bind (·.dst)=some g) (ao:look E g=some (.of b)) {a:Act} {W:World} (s:bw c E L a W):
 yielded ops a.tmps j=some b:=by
 obtain⟨v,J,ad⟩:=s.env g _ ao
 unfold yielded
 rw [aG]
 simp only [Option.bind_some,J,of_bool.1 ad]
theorem ah.g {o:Oper} {rest:List Oper} {d j g:Nat} {b want:Bool} {τ:I} (h:b=want→b4 c E L o τ) (bE:o.guard=some (j,want)) (aG:(ops[j]?).bind (·.dst)=some g)
 (ao:look E g=some (.of b)) (hd:o.dst=some d) (aP:Nat.blt d c.n=true)
 (k:ah c ops Q rest ((d,.cond (b=want) τ) :: E) L):ah c ops Q (o :: rest) E L:=fun a W s=>by
 have a5:=C8 aG ao s
 unfold c5.qq wpListIn
 by_cases hb:b=want
 ·rw [if_pos (by simp [Region.wanted,bE,a5,hb])]
  refine((h hb a W s).wpIn fun v W' ⟨f,a6⟩=> ?_)
  rw [hd]
  exact k _ _ ((s.world f).put (by simpa using aP) ⟨fun _=>a6,fun h=>absurd hb h⟩)
 ·rw [if_neg (by simp [Region.wanted,bE,a5,hb])]
  rw [hd]
  exact⟨fun _ _=>trivial,k _ _ (s.put (by simpa using aP) ⟨fun h=>absurd h hb,fun _=>rfl⟩)⟩
theorem KC {j g:Nat} {p:Prop} {b:Bool} (aG:(ops[j]?).bind (·.dst)=some g) (ao:look E g=some (.cond p (.of b))) {a:Act} {W:World} (s:bw c E L a W):
 (p→yielded ops a.tmps j=some b)∧ (¬ p→yielded ops a.tmps j=none):=by
 obtain⟨v,J,ad,ay⟩:=s.env g _ ao
 unfold yielded
 rw [aG]
 simp only [Option.bind_some,J]
 exact⟨fun hp=>by simp only [of_bool.1 (ad hp)],fun hp=>by simp only [ay hp]; rfl⟩
theorem ah.gg {o:Oper} {rest:List Oper} {d j g:Nat} {p:Prop} {b want:Bool} {τ:I} (h:p∧b=want→b4 c E L o τ) (bE:o.guard=some (j,want)) (aG:(ops[j]?).bind (·.dst)=some g)
 (ao:look E g=some (.cond p (.of b))) (hd:o.dst=some d) (aP:Nat.blt d c.n=true)
 (k:ah c ops Q rest ((d,.cond (p∧b=want) τ) :: E) L):ah c ops Q (o :: rest) E L:=fun a W s=>by
 have a5:=KC aG ao s
 unfold c5.qq wpListIn
 by_cases hb:p∧b=want
 ·rw [if_pos (by simp [Region.wanted,bE,a5.1 hb.1,hb.2])]
  refine((h hb a W s).wpIn fun v W' ⟨f,a6⟩=> ?_)
  rw [hd]
  exact k _ _ ((s.world f).put (by simpa using aP) ⟨fun _=>a6,fun h=>absurd hb h⟩)
 ·have hw:Region.wanted o (yielded ops a.tmps)=false:=by
   by_cases hp:p
   ·have: ¬ (b=want):=fun h=>hb ⟨hp,h⟩
    simp [Region.wanted,bE,a5.1 hp,this]
   ·simp [Region.wanted,bE,a5.2 hp]
  rw [if_neg (by simp [hw])]
  refine⟨fun _ _=>trivial,?_⟩
  rw [hd]
  exact k _ _ (s.put (by simpa using aP) ⟨fun h=>absurd h hb,fun _=>rfl⟩)
def sub:List (Nat × I)→List Nat→List (Nat × I)
 | _,[]=> []
 | E,t :: r=>match look E t with
   | some τ=>(t,τ) :: sub E r
   | none=>sub E r
inductive g6 (E:List (Nat × I)):List (Nat × I)→Prop
 | nil:g6 E []
 | cons {t τ σ r} :look E t=some σ→ (∀ A W v,σ.holds A W v→τ.holds A W v)→g6 E r→g6 E ((t,τ) :: r)
theorem g6.same {t:Nat} {τ:I} {r:List (Nat × I)} (h:look E t=some τ) (k:g6 E r):g6 E ((t,τ) :: r):= .cons h (fun _ _ _ h=>h) k
theorem g6.look:∀ {E':List (Nat × I)},g6 E E'→ ∀ t τ,Gv.look E' t=some τ→ ∃ σ,Gv.look E t=some σ∧ ∀ A W v,σ.holds A W v→τ.holds A W v
 | _,.nil,t,τ,h=>by simp [Gv.look] at h
 | _,.cons (t:=s) (σ:=σ) J ad r,t,τ,h=>by
   simp only [Gv.look] at h
   by_cases e:Nat.beq s t=true
   ·rw [e] at h
    simp only [cond_true,Option.some.injEq] at h
    subst h
    rw [ej.1 e] at J
    exact⟨σ,J,ad⟩
   ·simp only [Bool.not_eq_true] at e
    rw [e] at h
    exact r.look t τ h
theorem ae.le {x:Exit} {E':List (Nat × I)} (h:g6 E E') (k:ae c Q x E' L):ae c Q x E L:=fun a W s=>k a W (s.less h.look)
theorem ah.le {l:List Oper} {E':List (Nat × I)} (h:g6 E E') (k:ah c ops Q l E' L):ah c ops Q l E L:=fun a W s=>k a W (s.less h.look)
def ai (c:c5) (Q:Exit→Act→World→Prop) (code:Code) (E:List (Nat × I)) (L:List aJ):Prop:= ∀ a W,bw c E L a W→c.wp code Q a W
theorem ai.le {code:Code} {E':List (Nat × I)} (h:g6 E E') (k:ai c Q code E' L):ai c Q code E L:=fun a W s=>k a W (s.less h.look)
theorem ai.cE {id:Nat} {l:List Oper} (h:ah c l.toArray Q l E L):ai c Q (.region id l.toArray false) E L:=fun a W s=>wpIn_region_lit (h a W s)
theorem ai.seq {x y:Code} (h:ai c (Exit.then (c.wp y Q) Q) x E L):ai c Q (.seq x y) E L:=fun a W s=>wpIn_seq (h a W s)
theorem ae.next {y:Code} (h:ai c Q y E L):ae c (Exit.then (c.wp y Q) Q) .normal E L:=fun a W s=>h a W s
theorem ae.exit {y:Act→World→Prop} {id:Nat} (h:ae c Q (.exit id) E L):ae c (Exit.then y Q) (.exit id) E L:=fun a W s=>h a W s
theorem ae.ret {y:Act→World→Prop} (h:ae c Q .ret E L):ae c (Exit.then y Q) .ret E L:=fun a W s=>h a W s
theorem ai.block {id:Nat} {x:Code} (h:ai c (Exit.inBlock id Q) x E L):ai c Q (.block id x) E L:=fun a W s=>wpIn_block (h a W s)
theorem ae.eC {id:Nat} (h:ae c Q .normal E L):ae c (Exit.inBlock id Q) .normal E L:=fun a W s=>h a W s
theorem ae.gE {id:Nat} (h:ae c Q .normal E L):ae c (Exit.inBlock id Q) (.exit id) E L:=fun a W s=>by
 show(if id=id then Q .normal a W else Q (.exit id) a W)
 rw [if_pos rfl]; exact h a W s
theorem ae.dR {id:Nat} (h:ae c Q .ret E L):ae c (Exit.inBlock id Q) .ret E L:=fun a W s=>h a W s
theorem ai.skip (h:ae c Q .normal E L):ai c Q .skip E L:=fun a W s=>wpIn_skip (h a W s)
theorem ai.exit {id:Nat} (h:ae c Q (.exit id) E L):ai c Q (.exit id) E L:=fun a W s=>wpIn_exit (h a W s)
theorem ai.ret (h:ae c Q .ret E L):ai c Q .ret E L:=fun a W s=>wpIn_ret (h a W s)
theorem ai.cond {x:Operand} {b:Bool} {y z:Code} (ao:a7 c E L x (.of b)) (bJ:b=true→ai c Q y E L) (a8:b=false→ai c Q z E L):ai c Q (.cond x y z) E L:=
 fun a W s=>wpIn_cond_split (of_bool.1 (ao a W s)) (fun h=>bJ h a W s) (fun h=>a8 h a W s)
def fj {σ ε:Type} :Nat→ (σ→Option (σ ⊕ ε))→σ→Option ε
 | 0,_,_=>none
 | n + 1,b,s=>match b s with
   | none=>none
   | some (.inl b9)=>fj n b b9
   | some (.inr e)=>some e
def PG {σ ε:Type} (c:c5) (E:σ→List (Nat × I)) (L:σ→List aJ) (xs:ε→Exit) (fy:ε→List (Nat × I)) (Lx:ε→List aJ):σ ⊕ ε→Exit→Act→World→Prop
 | .inl s,x,a,W=>x= .normal∧bw c (E s) (L s) a W
 | .inr e,x,a,W=>x≠ .normal∧x=xs e∧bw c (fy e) (Lx e) a W
theorem ae.round {σ ε:Type} {E':σ→List (Nat × I)} {L':σ→List aJ} {xs:ε→Exit} {fy:ε→List (Nat × I)} {Lx:ε→List aJ} {s:σ}
 (h:∀ a W,bw c E L a W→bw c (E' s) (L' s) a W):ae c (PG c E' L' xs fy Lx (.inl s)) .normal E L:=fun a W st=>⟨rfl,h a W st⟩
theorem K5 {F:Fence} {n:Nat} {P:Program} {body:Code} {σ ε:Type} (b:σ→Option (σ ⊕ ε)) (fl:σ→Act→World→Prop) (X:ε→Exit→Act→World→Prop)
 (qb:∀ s r,b s=some r→ ∀ a W,fl s a W→body.wpIn F n P (fun x a W=>match r with | .inl b9=>x= .normal∧fl b9 a W | .inr e=>x≠ .normal∧X e x a W) a W)
 (Q:Exit→Act→World→Prop) (e:ε) (nO:∀ x a W,X e x a W→Q x a W) {cd:σ} {N:Nat} (ao:fj N b cd=some e) {h7:Act} {iP:World} (bG:fl cd h7 iP):
 (Code.loop body).wpIn F n P Q h7 iP:=by
 intro dw k cs xN hb aS
 have key:∀ N s,fj N b s=some e→ ∀ a W,fl s a W→
  ∃ x fY W',Q x fY W'∧ArrivesIn (Machine.fenced P F) P (lone (dw.atR a (.code body :: .inLoop body :: k)) cs W) dw k cs x fY W':=by
  intro N
  induction N with
  | zero=>intro s h; simp [fj] at h
  | succ N bH=>
    intro s h a W ln
    simp only [fj] at h
    split at h
    ·cases h
    ·rename_i b9 hs
     obtain⟨x,xw,xx,hq,qm⟩:=qb s _ hs a W ln dw (.inLoop body :: k) cs xN hb aS
     obtain⟨al,IM⟩:=hq
     subst al
     obtain⟨Ir,Is,It,HX,G9⟩:=bH b9 h xw xx IM
     exact⟨Ir,Is,It,HX,.of_steps (StepsIn.trans qm (.one (fenced_calm hb aS rfl) stepR_inLoop)) G9⟩
    ·rename_i e' hs
     simp only [Option.some.injEq] at h
     subst h
     obtain⟨x,xw,xx,hq,qm⟩:=qb s _ hs a W ln dw (.inLoop body :: k) cs xN hb aS
     obtain⟨al,JL⟩:=hq
     exact⟨x,xw,xx,nO _ _ _ JL,.pass (x:= .inLoop body) rfl (fun _ _=> .inl al) qm⟩
 obtain⟨x,fY,W',hq,qm⟩:=key N cd ao h7 iP bG
 exact⟨x,fY,W',hq,.of_steps (.one (fenced_calm hb aS rfl) stepR_loop) qm⟩
theorem ai.loop {σ ε:Type} {body:Code} {N:Nat} {b:σ→Option (σ ⊕ ε)} {cd:σ} {e:ε} (ao:fj N b cd=some e)
 (E:σ→List (Nat × I)) (L:σ→List aJ) (xs:ε→Exit) (fy:ε→List (Nat × I)) (Lx:ε→List aJ)
 (rq:∀ s r,b s=some r→ai c (PG c E L xs fy Lx r) body (E s) (L s))
 (nO:ae c Q (xs e) (fy e) (Lx e)):ai c Q (.loop body) (E cd) (L cd):=fun a W st=>
 K5 b (fun s a W=>bw c (E s) (L s) a W) (fun e x a W=>x=xs e∧bw c (fy e) (Lx e) a W)
  (fun s r hs a W ln=>wpIn_mono (rq s r hs a W ln) (fun x a W h=>by
   cases r with
   | inl b9=>exact h
   | inr e'=>exact⟨h.1,h.2⟩)) Q e (fun x a W ⟨al,hs⟩=>by subst al; exact nO a W hs) ao st
def bW (P:Program) (f:FuncId) (τs:List I) (ρ:I):Prop:=
 ∀ (A:List Nat) (W:World) (vs:List Value),(∀ k∈A,k < W.heap.size)→gb A W τs vs→
   Calls P f vs.toArray W fun e W'=> ∃ v,e= .returned v∧Fr [] W W'∧ρ.holds A W' v
def params:Nat→List I→List (Nat × I)
 | _,[]=> []
 | k,τ :: r=>(k,τ) :: params (k + 1) r
theorem tV {A:List Nat} {W:World} {τs:List I} {vs:List Value} (h:gb A W τs vs):∀ (k t:Nat) (τ:I),look (params k τs) t=some τ→k≤t∧ ∃ v,vs[t - k]? =some v∧τ.holds A W v:=by
 induction h with
 | nil=>intro k t τ h; simp [params,look] at h
 | cons J r bH=>
   intro k t τ ao
   simp only [params,look] at ao
   by_cases e:Nat.beq k t=true
   ·rw [e] at ao
    simp only [cond_true,Option.some.injEq] at ao
    subst ao
    rw [ej.1 e]
    exact⟨Nat.le_refl _,_,by simp,J⟩
   ·simp only [Bool.not_eq_true] at e
    rw [e] at ao
    have cH:k≠t:=fun h=>by rw [ej.2 h] at e; cases e
    obtain⟨ad,v,ay,aU⟩:=bH (k + 1) t τ ao
    refine⟨by omega,v,?_,aU⟩
    rw [show t - k=(t - (k + 1)) + 1 by omega,List.getElem?_cons_succ]
    exact ay
theorem bW.enter {P:Program} {f:FuncId} {fn:Func} {code:Code} {n:Nat} {τs:List I} {ρ:I} (a8:P.funcs[f]? =some fn) (hb:fn.body=some code) (aP:fn.ntmps=n) (hlen:Nat.ble τs.length n=true)
 (h:∀ W A,ai ⟨P,n,W,[],A,none,[]⟩ (bodyPost P fn fun e W'=> ∃ v,e= .returned v∧Fr [] W W'∧ρ.holds A W' v) code (params 0 τs) []):bW P f τs ρ:=by
 intro A W vs gv a6
 refine calls_of_wp a8 hb (wpIn_wide.1 (h W A _ _ ?_))
 have ao:=a6.length
 have hle:τs.length≤n:=Nat.le_of_ble_eq_true hlen
 exact
 {defers:=rfl
  size:=by simp [aP,ao]; omega
  env:=fun t τ kx=>by
   obtain⟨_,v,ad,ay⟩:=tV a6 0 t τ kx
   refine⟨v,?_,ay⟩
   have cb:t < vs.length:=(List.getElem?_eq_some_iff.1 ad).1
   rw [Array.getElem?_append_left (by simpa using cb)]
   simpa using ad
  dw:= .refl _ _
  own:=by simp
  nodup:=by simp [aL]
  lt:=by simp [aL]
  fD:=by simp [aL]
  eF:=fun k au=>⟨gv k au,by simp [aL]⟩ }
theorem KO {ρ:I} {A B:List Nat} {W:World} {v:Value} (h:ρ.holds (B ++ A) W v):ρ.holds A W v:=ρ.mono (.drop fun _ h=>List.mem_append.2 (.inr h)) h
end
section
variable {c:c5} {E:List (Nat × I)} {L:List aJ} {ops:Array Oper} {Q:Exit→Act→World→Prop}
def ke (c:c5) (ops:Array Oper) (E:List (Nat × I)) (L:List aJ) (o:Oper) (τ:I):Prop:=
 ∀ a W,bw c E L a W→
   (Region.wanted o (yielded ops a.tmps)=true→gj c.P o a W fun v W'=>Fr [] W W'∧τ.holds (aL L ++ c.bX) W' v)∧
   (Region.wanted o (yielded ops a.tmps)=false→τ.holds (aL L ++ c.bX) W undef)
theorem ke.v {o:Oper} {τ:I} (h:b4 c E L o τ) (bE:o.guard=none):ke c ops E L o τ:=fun a W s=>
 ⟨fun _=>h a W s,fun hw=>by simp [Region.wanted,bE] at hw⟩
theorem ke.g {o:Oper} {j g:Nat} {b want:Bool} {τ:I} (h:b=want→b4 c E L o τ) (bE:o.guard=some (j,want)) (aG:(ops[j]?).bind (·.dst)=some g) (ao:look E g=some (.of b)):
 ke c ops E L o (.cond (b=want) τ):=fun a W s=>by
 have a5:=C8 aG ao s
 constructor
 ·intro hw
  have hb:b=want:=by simpa [Region.wanted,bE,a5] using hw
  refine gj.wp (h hb a W s) fun v W' ⟨f,a6⟩=>⟨v,rfl,f,fun _=>a6,fun h=>absurd hb h⟩
 ·intro hw
  exact⟨fun hb=>by simp [Region.wanted,bE,a5,hb] at hw,fun _=>rfl⟩
theorem ke.gg {o:Oper} {j g:Nat} {p:Prop} {b want:Bool} {τ:I} (h:p∧b=want→b4 c E L o τ) (bE:o.guard=some (j,want)) (aG:(ops[j]?).bind (·.dst)=some g) (ao:look E g=some (.cond p (.of b))):
 ke c ops E L o (.cond (p∧b=want) τ):=fun a W s=>by
 have a5:=KC aG ao s
 have xO:Region.wanted o (yielded ops a.tmps)=true→p∧b=want:=by
  intro hw
  by_cases hp:p
  ·exact⟨hp,by simpa [Region.wanted,bE,a5.1 hp] using hw⟩
  ·simp [Region.wanted,bE,a5.2 hp] at hw
 constructor
 ·intro hw
  refine gj.wp (h (xO hw) a W s) fun v W' ⟨f,a6⟩=>⟨v,rfl,f,fun _=>a6,fun h=>absurd (xO hw) h⟩
 ·intro hw
  exact⟨fun hb=>by simp [Region.wanted,bE,a5.1 hb.1,hb.2] at hw,fun _=>rfl⟩
inductive e0
 | val (τ:I)
 | new (cp:dr)
 | kN (i:Nat) (cp:dr)
 | mb (j:Nat) (cp:dr)
def e0.na:e0→Bool
 | .kN _ _ | .mb _ _=>true
 | _=>false
def e0.qD (p:Nat):e0→Option I
 | .val τ=>some τ
 | .new _=>some (.eq (.pointer (some ⟨p,0,none⟩)))
 | _=>none
def he (br:Nat→Nat) (ee:List (Option Nat)) (hs:List e0) (E:List (Nat × I)):List Nat→List (Nat × I)
 | []=>E
 | j :: r=>match ee[j]?,hs[j]? with
   | some (some s),some h=>match h.qD (br j) with
     | some τ=>(s,τ) :: he br ee hs E r
     | none=>he br ee hs E r
   | _,_=>he br ee hs E r
def xo:List aJ→Nat→dr→List aJ
 | [],_,_=> []
 | e :: r,0,cp=>⟨e.key,cp⟩ :: r
 | e :: r,i + 1,cp=>e :: xo r i cp
theorem SY {L:List aJ} {i:Nat} {e:aJ} {cp:dr} (h:L[i]? =some e):xo L i cp=L.set i ⟨e.key,cp⟩:=by
 induction L generalizing i with
 | nil=>simp at h
 | cons x r bH=>
   cases i with
   | zero=>simp only [List.getElem?_cons_zero,Option.some.injEq] at h; subst h; rfl
   | succ i=>simp only [List.getElem?_cons_succ] at h; simp [xo,bH h]
def dV (L:List aJ):List e0→List aJ
 | []=>L
 | .kN i cp :: r=>dV (xo L i cp) r
 | _ :: r=>dV L r
def h4 (j:Nat) (cp:dr):List e0→dr
 | []=>cp
 | .mb i cp' :: r=>h4 j (bif Nat.beq i j then cp' else cp) r
 | _ :: r=>h4 j cp r
theorem KP (L:List aJ) (r:List e0) (h:e0):dV L (r ++ [h])=dV (dV L r) [h]:=by
 induction r generalizing L with
 | nil=>rfl
 | cons x r bH=>cases x <;> simp only [List.cons_append,dV] <;> exact bH _
theorem Gc (j:Nat) (cp:dr) (r:List e0) (h:e0):h4 j cp (r ++ [h])=h4 j (h4 j cp r) [h]:=by
 induction r generalizing cp with
 | nil=>rfl
 | cons x r bH=>cases x <;> simp only [List.cons_append,h4] <;> exact bH _
theorem Dc {L:List aJ} :∀ {r:List e0},(∀ h∈r,h.na=false)→dV L r=L
 | [],_=>rfl
 | h :: r,ck=>by
   have:=ck h (by simp)
   have bH:=Dc (L:=L) (r:=r) (fun x al=>ck x (by simp [al]))
   cases h <;> first | exact bH | cases this
theorem C9 {j:Nat} {cp:dr} :∀ {r:List e0},(∀ h∈r,h.na=false)→h4 j cp r=cp
 | [],_=>rfl
 | h :: r,ck=>by
   have:=ck h (by simp)
   have bH:=C9 (j:=j) (cp:=cp) (r:=r) (fun x al=>ck x (by simp [al]))
   cases h <;> first | exact bH | cases this
def oB (w:Nat→Bool) (i:Nat):Nat→List e0→Bool
 | _,[]=>true
 | k,.kN j _ :: r=>(!(Nat.beq j i) || w k) && oB w i (k + 1) r
 | k,.val _ :: r=>oB w i (k + 1) r
 | k,.new _ :: r=>oB w i (k + 1) r
 | k,.mb _ _ :: r=>oB w i (k + 1) r
theorem R5 {L:List aJ} {i j:Nat} {cp:dr} (h:i≠j):(xo L i cp)[j]? =L[j]? :=by
 induction L generalizing i j with
 | nil=>rfl
 | cons e r bH=>
   cases i with
   | zero=>cases j with
     | zero=>exact absurd rfl h
     | succ j=>rfl
   | succ i=>cases j with
     | zero=>rfl
     | succ j=>simp only [xo,List.getElem?_cons_succ]; exact bH (by omega)
theorem zo {L:List aJ} {i:Nat} {w:Nat→Bool} :∀ {r:List e0} (b k:Nat),oB w i k r=true→ (∀ q,q < b→ (∃ j cp,r[q]? =some (.kN j cp))→w (k + q)=false)→ (dV L (r.take b))[i]? =L[i]?
 | [],b,_,_,_=>by simp [dV]
 | h :: r,0,_,_,_=>by simp [dV]
 | .kN j cp :: r,b + 1,k,h,hw=>by
   simp only [oB,Bool.and_eq_true,Bool.or_eq_true,Bool.not_eq_true'] at h
   have Zm:w k=false:=by simpa using hw 0 (by omega) ⟨j,cp,by simp⟩
   have cH:j≠i:=fun e=>by
    rw [e,Nat.beq_refl,Zm] at h
    rcases h.1 with h | h <;> cases h
   rw [List.take_succ_cons,dV,zo b (k + 1) h.2 (fun q hq al=>by have:=hw (q + 1) (by omega) (by simpa using al); rw [← this]; congr 1; omega),R5 cH]
 | .val _ :: r,b + 1,k,h,hw=>by rw [List.take_succ_cons]; exact zo (r:=r) b (k + 1) h (fun q hq al=>by have:=hw (q + 1) (by omega) (by simpa using al); rw [← this]; congr 1; omega)
 | .new _ :: r,b + 1,k,h,hw=>by rw [List.take_succ_cons]; exact zo (r:=r) b (k + 1) h (fun q hq al=>by have:=hw (q + 1) (by omega) (by simpa using al); rw [← this]; congr 1; omega)
 | .mb _ _ :: r,b + 1,k,h,hw=>by rw [List.take_succ_cons]; exact zo (r:=r) b (k + 1) h (fun q hq al=>by have:=hw (q + 1) (by omega) (by simpa using al); rw [← this]; congr 1; omega)
def JM (P:Program) (o:Oper) (cp:dr):Prop:=
 o.guard=none∧ ∃ jz,(∀ A W,cp.holds A W jz)∧ ∀ (a:Act) W,(execOp a.eval o).run P W= .ok (.value (.pointer (some ⟨W.heap.size,0,none⟩))) (W.alloc jz)
def B4 (c:c5) (E:List (Nat × I)) (L:List aJ) (o:Oper) (p:Nat) (cp:dr):Prop:=
 o.guard=none∧o.dst=none∧ ∀ a W,bw c E L a W→ ∃ cs dN T,W.heap[p]? =some (.cells cs T (0,0))∧ (execOp a.eval o).run c.P W= .ok .skip (W.setRow p dN)∧cp.holds (aL L ++ c.bX) W (.cells dN T (0,0))
def qg (c:c5) (ops:Array Oper) (br:Nat→Nat) (ee:List (Option Nat)) (all:List e0) (E:List (Nat × I)) (L:List aJ):Nat→List Oper→List e0→List (List Nat)→Prop
 | _,_,[],_=>True
 | i,o :: os,.val τ :: hs,d :: ds=>(∀ L':List aJ,(∀ (j:Nat) (e:aJ),L[j]? =some e→oB (fun k=>Region.waitsFor .any ops k i) j 0 all=true→L'[j]? =some e)→ke c ops (he br ee all E d) L' o τ)∧qg c ops br ee all E L (i + 1) os hs ds
 | i,o :: os,.new cp :: hs,_ :: ds=>JM c.P o cp∧qg c ops br ee all E L (i + 1) os hs ds
 | i,o :: os,.kN k cp :: hs,d :: ds=>(∃ (p:Nat) (mL:dr),(dV L (all.take i))[k]? =some ⟨some p,mL⟩∧ ∀ L':List aJ,(∀ (j:Nat) (e:aJ),(dV L (all.take i))[j]? =some e→L'[j]? =some e)→B4 c (he br ee all E d) L' o p cp)∧qg c ops br ee all E L (i + 1) os hs ds
 | i,o :: os,.mb k cp :: hs,d :: ds=>(d.contains k=true∧ ∃ mL:dr,all[k]? =some (.new mL)∧ ∀ (L':List aJ) (q:Nat),L'[q]? =some ⟨some (br k),h4 k mL (all.take i)⟩→B4 c (he br ee all E d) L' o (br k) cp)∧qg c ops br ee all E L (i + 1) os hs ds
 | _,_,_,_=>False
def Eh (ops:Array Oper) (n:Nat) (ee:List (Option Nat)) (rD:List (List Nat)) (Bm:List Bool) (x5:Nat):Bool:=
 decide (ee.length=n) && decide (n≤ops.size) && (ee.filterMap id).all (Nat.blt · x5) && decide (ee.filterMap id).Nodup &&
 ((List.range n).all fun i=>((ops[i]?).map fun o=>(some o.dst ==ee[i]?) && (o.after.all fun e=> !Region.binds .any e || decide (e.on < i))).getD false) &&
 ((List.range n).all fun i=>(rD.getD i []).all fun j=>decide (j < n) && Region.waitsFor .any ops i j) &&
 ((List.range n).all fun i=> !(Bm.getD i false) || ((List.range i).all fun j=> !(Bm.getD j false) || Region.waitsFor .any ops i j)) &&
 (decide (n=ops.size) || (Region.sinkB .any ops n && Region.chainB .any ops n)) &&
 Region.seqB .any ops (ops.size - n) n ((List.range n).foldl (fun l i=>l.setIfInBounds i true) (Array.replicate ops.size false))
def A0 (E:List (Nat × I)) (ee:List Nat):Bool:=match E with
 | []=>true
 | e :: r=> !(ee.contains e.1) && A0 r ee
theorem Gw {ee:List Nat} :∀ {E:List (Nat × I)},A0 E ee=true→ ∀ t τ,look E t=some τ→t ∉ ee
 | [],_,t,τ,h=>by simp [look] at h
 | (s,σ) :: r,hd,t,τ,h=>by
   simp only [A0,Bool.and_eq_true,Bool.not_eq_true'] at hd
   simp only [look] at h
   by_cases e:Nat.beq s t=true
   ·have:=ej.1 e
    subst this
    simpa using hd.1
   ·simp only [Bool.not_eq_true] at e
    rw [e] at h
    exact Gw hd.2 t τ h
theorem DK (f g:Nat→Bool) (i:Nat) (a8:f i=true) (bE:g i=false) (h:∀ j,g j=true→f j=true):∀ n,i < n→ ((List.range n).filter g).length < ((List.range n).filter f).length:=by
 have le:∀ n,((List.range n).filter g).length≤ ((List.range n).filter f).length:=by
  intro n
  induction n with
  | zero=>simp
  | succ n bH=>
    rw [List.range_succ,List.filter_append,List.filter_append,List.length_append,List.length_append]
    have:([n].filter g).length≤ ([n].filter f).length:=by
     cases vv:g n with
     | false=>simp [vv]
     | true=>simp [vv,h n vv]
    omega
 intro n
 induction n with
 | zero=>omega
 | succ n bH=>
   intro cb
   rw [List.range_succ,List.filter_append,List.filter_append,List.length_append,List.length_append]
   by_cases e:i=n
   ·subst e
    have:=le i
    simp [a8,bE]
    omega
   ·have J:=bH (by omega)
    have:([n].filter g).length≤ ([n].filter f).length:=by
     cases vv:g n with
     | false=>simp [vv]
     | true=>simp [vv,h n vv]
    omega
theorem Gx {br:Nat→Nat} {ee:List (Option Nat)} {all:List e0} :∀ {k:Nat} {os:List Oper} {hs:List e0} {ds:List (List Nat)},qg c ops br ee all E L k os hs ds→
 ∀ (i:Nat) h,hs[i]? =some h→ ∃ o,os[i]? =some o∧ (match h with
   | .val τ=> ∀ L':List aJ,(∀ (j:Nat) (e:aJ),L[j]? =some e→oB (fun q=>Region.waitsFor .any ops q (k + i)) j 0 all=true→L'[j]? =some e)→ke c ops (he br ee all E (ds.getD i [])) L' o τ
   | .new cp=>JM c.P o cp
   | .kN q cp=> ∃ (p:Nat) (mL:dr),(dV L (all.take (k + i)))[q]? =some ⟨some p,mL⟩∧ ∀ L':List aJ,(∀ (j:Nat) (e:aJ),(dV L (all.take (k + i)))[j]? =some e→L'[j]? =some e)→B4 c (he br ee all E (ds.getD i [])) L' o p cp
   | .mb q cp=>(ds.getD i []).contains q=true∧ ∃ mL:dr,all[q]? =some (.new mL)∧ ∀ (L':List aJ) (r:Nat),L'[r]? =some ⟨some (br q),h4 q mL (all.take (k + i))⟩→B4 c (he br ee all E (ds.getD i [])) L' o (br q) cp)
 | k,os,[],ds,_,i,h,ar=>by simp at ar
 | k,[],h :: hs,ds,ck,_,_,_=>by cases h <;> simp [qg] at ck
 | k,o :: os,h :: hs,[],ck,_,_,_=>by cases h <;> simp [qg] at ck
 | k,o :: os,bG :: hs,d :: ds,ck,i,h,ar=>by
   have hd:qg c ops br ee all E L (k + 1) os hs ds:=by cases bG <;> exact ck.2
   cases i with
   | zero=>
     simp only [List.getElem?_cons_zero,Option.some.injEq] at ar
     subst ar
     refine⟨o,by simp,?_⟩
     cases bG <;> exact ck.1
   | succ i=>
     simp only [List.getElem?_cons_succ] at ar
     obtain⟨o',J,ad⟩:=Gx hd i h ar
     refine⟨o',by simpa using J,?_⟩
     rw [show k + (i + 1)=k + 1 + i by omega]
     cases h <;> exact ad
theorem Me {br:Nat→Nat} {ee:List (Option Nat)} {hs:List e0} {t:Nat} {τ:I} :∀ {ds:List Nat},look (he br ee hs E ds) t=some τ→ (∃ j∈ds,ee[j]? =some (some t)∧ ∃ h,hs[j]? =some h∧h.qD (br j)=some τ)∨look E t=some τ
 | [],h=> .inr h
 | j :: r,h=>by
   have rest:look (he br ee hs E r) t=some τ→ (∃ k∈j :: r,ee[k]? =some (some t)∧ ∃ h,hs[k]? =some h∧h.qD (br k)=some τ)∨look E t=some τ:=fun h=>by
    rcases Me h with⟨k,au,J⟩ | J
    ·exact .inl ⟨k,List.mem_cons_of_mem _ au,J⟩
    ·exact .inr J
   simp only [he] at h
   split at h
   ·rename_i s au Bn n3
    split at h
    ·rename_i σ lb
     simp only [look] at h
     by_cases e:Nat.beq s t=true
     ·rw [e] at h
      simp only [cond_true,Option.some.injEq] at h
      subst h
      exact .inl ⟨j,by simp,by rw [Bn,ej.1 e],au,n3,lb⟩
     ·simp only [Bool.not_eq_true] at e
      rw [e] at h
      exact rest h
    ·exact rest h
   ·exact rest h
def s8 (br:Nat→Nat) (E:List (Nat × I)):Nat→List (Option Nat)→List e0→List (Nat × I)
 | i,some s :: gk,.val τ :: hs=>(s,τ) :: s8 br E (i + 1) gk hs
 | i,some s :: gk,.new _ :: hs=>(s,.eq (.pointer (some ⟨br i,0,none⟩))) :: s8 br E (i + 1) gk hs
 | i,_ :: gk,_ :: hs=>s8 br E (i + 1) gk hs
 | _,_,_=>E
def lD (br:Nat→Nat) (all:List e0) (L:List aJ):Nat→List e0→List aJ
 | i,.new cp :: hs=>⟨some (br i),h4 i cp all⟩ :: lD br all L (i + 1) hs
 | i,_ :: hs=>lD br all L (i + 1) hs
 | _,[]=>L
theorem K6 {br:Nat→Nat} {t:Nat} {τ:I} :∀ {ee:List (Option Nat)} {hs:List e0} (k:Nat),look (s8 br E k ee hs) t=some τ→
 (∃ j:Nat,ee[j]? =some (some t)∧ ∃ h,hs[j]? =some h∧h.qD (br (k + j))=some τ)∨look E t=some τ
 | [],hs,k,h=> .inr (by cases hs <;> exact h)
 | s :: gk,[],k,h=> .inr (by cases s <;> exact h)
 | s :: gk,x :: hs,k,h=>by
   have rest:look (s8 br E (k + 1) gk hs) t=some τ→ (∃ j:Nat,(s :: gk)[j]? =some (some t)∧ ∃ h,(x :: hs)[j]? =some h∧h.qD (br (k + j))=some τ)∨look E t=some τ:=fun h=>by
    rcases K6 (k + 1) h with⟨j,J,ad⟩ | J
    ·refine .inl ⟨j + 1,by simpa using J,?_⟩
     rw [show k + (j + 1)=k + 1 + j by omega]
     simpa using ad
    ·exact .inr J
   have one:∀ (b9:Nat) (σ:I),s=some b9→x.qD (br k)=some σ→look ((b9,σ) :: s8 br E (k + 1) gk hs) t=some τ→ (∃ j:Nat,(s :: gk)[j]? =some (some t)∧ ∃ h,(x :: hs)[j]? =some h∧h.qD (br (k + j))=some τ)∨look E t=some τ:=fun b9 σ eI lb h=>by
    simp only [look] at h
    by_cases e:Nat.beq b9 t=true
    ·rw [e] at h
     simp only [cond_true,Option.some.injEq] at h
     subst h
     exact .inl ⟨0,by simp [eI,ej.1 e],x,by simp,by simpa using lb⟩
    ·simp only [Bool.not_eq_true] at e
     rw [e] at h
     exact rest h
   cases s with
   | none=>cases x <;> exact rest h
   | some b9=>
     cases x with
     | val σ=>exact one b9 σ rfl rfl h
     | new cp=>exact one b9 _ rfl rfl h
     | kN i cp=>exact rest h
     | mb i cp=>exact rest h
theorem Gk {n:Nat} {a3:Array Bool} (inv:HeadInv .any ops n a3) (aP:n≤ops.size) (j3:∀ i,i < n→a3.getD i true=true):
 a3=(List.range n).foldl (fun l i=>l.setIfInBounds i true) (Array.replicate ops.size false):=by
 have key:∀ m,m≤ops.size→ ((List.range m).foldl (fun l i=>l.setIfInBounds i true) (Array.replicate ops.size false)).size=ops.size∧
  ∀ j (d:Bool),j < ops.size→ ((List.range m).foldl (fun l i=>l.setIfInBounds i true) (Array.replicate ops.size false)).getD j d=decide (j < m):=by
  intro m
  induction m with
  | zero=>intro _; exact⟨by simp,fun j d aG=>by simp [aG]⟩
  | succ m bH=>
    intro hm
    obtain⟨J,ad⟩:=bH (by omega)
    rw [List.range_succ,List.foldl_append]
    simp only [List.foldl_cons,List.foldl_nil]
    refine⟨by simpa using J,fun j d aG=> ?_⟩
    by_cases e:m=j
    ·subst e
     simp [J,aG]
    ·rw [getD_set_ne d e,ad j d aG]
     by_cases ay:j < m
     ·simp [ay]; omega
     ·simp [ay]; omega
 obtain⟨J,ad⟩:=key n aP
 apply Array.ext
 ·rw [inv.size,J]
 ·intro i O5 Zn
  have ar:i < ops.size:=by rw [← inv.size]; exact O5
  have ay:=ad i true ar
  have aF:a3.getD i true=a3[i]:=by simp [O5]
  have aR:((List.range n).foldl (fun l i=>l.setIfInBounds i true) (Array.replicate ops.size false)).getD i true=((List.range n).foldl (fun l i=>l.setIfInBounds i true) (Array.replicate ops.size false))[i]:=by
   simp [Zn]
  rw [← aR,ay,← aF]
  by_cases aU:i < n
  ·rw [j3 i aU]; simp [aU]
  ·rw [inv.tail i (by omega) ar]; simp [aU]
theorem wL (br:Nat→Nat) (all:List e0) (L:List aJ):∀ (hs:List e0) (i:Nat),lD br all L i hs=lD br all [] i hs ++ L
 | [],_=>rfl
 | .new cp :: hs,i=>by simp only [lD]; rw [wL br all L hs (i + 1)]; rfl
 | .val _ :: hs,i=>wL br all L hs (i + 1)
 | .kN _ _ :: hs,i=>wL br all L hs (i + 1)
 | .mb _ _ :: hs,i=>wL br all L hs (i + 1)
theorem Gy {br:Nat→Nat} {all:List e0} {e:aJ} :∀ {hs:List e0} {i:Nat},e∈lD br all [] i hs→ ∃ (j:Nat) (cp:dr),hs[j]? =some (.new cp)∧e=⟨some (br (i + j)),h4 (i + j) cp all⟩
 | [],_,h=>by simp [lD] at h
 | x :: hs,i,h=>by
   have rest:e∈lD br all [] (i + 1) hs→ ∃ (j:Nat) (cp:dr),(x :: hs)[j]? =some (.new cp)∧e=⟨some (br (i + j)),h4 (i + j) cp all⟩:=fun h=>by
    obtain⟨j,cp,J,ad⟩:=Gy (hs:=hs) (i:=i + 1) h
    refine⟨j + 1,cp,by simpa using J,?_⟩
    rw [show i + (j + 1)=i + 1 + j by omega]; exact ad
   cases x with
   | new cp=>
     rcases List.mem_cons.1 h with h | h
     ·exact⟨0,cp,by simp,by simpa using h⟩
     ·exact rest h
   | val _=>exact rest h
   | kN _ _=>exact rest h
   | mb _ _=>exact rest h
theorem Ks {br:Nat→Nat} {all:List e0} :∀ (hs:List e0) (i:Nat),(∀ (j k:Nat) (u v:dr),hs[j]? =some (.new u)→hs[k]? =some (.new v)→br (i + j)=br (i + k)→j=k)→ (aL (lD br all [] i hs)).Nodup
 | [],_,_=>by simp [lD,aL]
 | x :: hs,i,h=>by
   have aS:(aL (lD br all [] (i + 1) hs)).Nodup:=Ks hs (i + 1) fun j k u v J ad ay=>by
    have:=h (j + 1) (k + 1) u v (by simpa using J) (by simpa using ad) (by rw [show i + (j + 1)=i + 1 + j by omega,show i + (k + 1)=i + 1 + k by omega]; exact ay)
    omega
   cases x with
   | val _=>exact aS
   | kN _ _=>exact aS
   | mb _ _=>exact aS
   | new cp=>
     simp only [lD,aL]
     refine List.nodup_cons.2 ⟨fun hm=> ?_,aS⟩
     obtain⟨e,he,au⟩:=kJ.1 hm
     obtain⟨j,u,J,ad⟩:=Gy he
     rw [ad] at au
     simp only [Option.some.injEq] at au
     have:=h 0 (j + 1) cp u (by simp) (by simpa using J) (by rw [show i + (j + 1)=i + 1 + j by omega]; simpa using au.symm)
     omega
def e3 (br:Nat→Nat) (all:List e0) (b:Nat) (dt:List Nat):List aJ:=dt.map fun j=>⟨some (br j),match all[j]? with | some (.new cp)=>h4 j cp (all.take b) | _=> .dead⟩
theorem zI (br:Nat→Nat) (all:List e0) (b:Nat):∀ (dt:List Nat),aL (e3 br all b dt)=dt.map br
 | []=>rfl
 | j :: dt=>by
   have:=zI br all b dt
   simp only [e3,List.map_cons,aL] at this ⊢
   rw [this]
structure xP (c:c5) (n:Nat) (ee:List (Option Nat)) (hs:List e0) (E:List (Nat × I)) (L:List aJ) (a3:Array Bool) (br:Nat→Nat) (dt:List Nat) (b:Nat) (a:Act) (W:World):Prop where
 st:bw c E (dV L (hs.take b) ++ e3 br hs b dt) a W
 done:∀ (j:Nat) s h τ,j < n→a3.getD j false=true→ee[j]? =some (some s)→hs[j]? =some h→h.qD (br j)=some τ→ ∃ v,a.tmps[s]? =some v∧τ.holds (aL (dV L (hs.take b) ++ e3 br hs b dt) ++ c.bX) W v
 news:∀ (j:Nat),j∈dt↔ (j < n∧a3.getD j false=true∧ ∃ cp,hs[j]? =some (.new cp))
 stored:∀ (j:Nat) h,hs[j]? =some h→h.na=true→ (a3.getD j false=true↔j < b)
 ble:b≤n
theorem TB {hs:List e0} {b i:Nat} {h:e0} (hb:b≤i) (ar:hs[i]? =some h) (aP:∀ (j:Nat) x,b≤j→j < i→hs[j]? =some x→x.na=false):
 ∃ r,hs.take i=hs.take b ++ r∧ ∀ x∈r,x.na=false:=by
 refine⟨(hs.drop b).take (i - b),?_,fun x al=> ?_⟩
 ·rw [← List.take_add]; congr 1; omega
 ·obtain⟨j,aG⟩:=List.mem_iff_getElem?.1 al
  rw [List.getElem?_take] at aG
  split at aG
  ·rw [List.getElem?_drop] at aG
   exact aP (b + j) x (by omega) (by omega) aG
  ·cases aG
theorem Ha (L:List aJ) (r s:List e0):dV L (r ++ s)=dV (dV L r) s:=by
 induction r generalizing L with
 | nil=>rfl
 | cons x r bH=>cases x <;> simp only [List.cons_append,dV] <;> exact bH _
theorem GI (j:Nat) (cp:dr) (r s:List e0):h4 j cp (r ++ s)=h4 j (h4 j cp r) s:=by
 induction r generalizing cp with
 | nil=>rfl
 | cons x r bH=>cases x <;> simp only [List.cons_append,h4] <;> exact bH _
theorem ur {L R:List aJ} (h:L.Perm R):(aL L).Perm (aL R):=by
 induction h with
 | nil=>exact .nil
 | cons x _ bH=>cases au:x.key <;> simp only [aL,au] <;> first | exact bH | exact bH.cons _
 | swap x y l=>
   cases al:x.key <;> cases a5:y.key <;> simp only [aL,al,a5]
   all_goals first | exact .refl _ | exact .swap _ _ _
 | trans _ _ J ad=>exact J.trans ad
theorem bw.perm {E L L' a W} (h:bw c E L a W) (p:L.Perm L'):bw c E L' a W:=
 h.sub (fun e he=>p.mem_iff.2 he) ((ur p).nodup_iff.1 h.nodup)
theorem zl {j:Nat} {cp:dr} :∀ {r:List e0},(∀ q x,e0.mb q x∈r→q≠j)→h4 j cp r=cp
 | [],_=>rfl
 | .mb q x :: r,h=>by
   have J:=h q x (by simp)
   have e:Nat.beq q j=false:=by
    cases hb:Nat.beq q j with
    | false=>rfl
    | true=>exact absurd (ej.1 hb) J
   simp only [h4,e,cond_false]
   exact zl fun q x hm=>h q x (by simp [hm])
 | .val _ :: r,h=>zl (r:=r) fun q x hm=>h q x (by simp [hm])
 | .new _ :: r,h=>zl (r:=r) fun q x hm=>h q x (by simp [hm])
 | .kN _ _ :: r,h=>zl (r:=r) fun q x hm=>h q x (by simp [hm])
theorem KD (f:Nat→Nat):∀ (l:List Nat),(l.map f).Nodup→l.Nodup
 | [],_=>by simp
 | x :: r,h=>by
   simp only [List.map_cons] at h
   obtain⟨J,ad⟩:=List.nodup_cons.1 h
   exact List.nodup_cons.2 ⟨fun hm=>J (List.mem_map.2 ⟨x,hm,rfl⟩),KD f r ad⟩
theorem Ug {br mM:Nat→Nat} {all:List e0} {b:Nat} {dt:List Nat} (h:∀ j∈dt,mM j=br j):e3 mM all b dt=e3 br all b dt:=by
 unfold e3
 exact List.map_congr_left fun j aG=>by rw [h j aG]
theorem SZ {n:Nat} {ee:List (Option Nat)} {hs:List e0} {rD:List (List Nat)} (gX:Eh ops n ee rD (hs.map e0.na) c.n=true) (aD:A0 E (ee.filterMap id)=true) (hlen:hs.length=n)
 (ck:∀ br,qg c ops br ee hs E L 0 ops.toList hs rD) (bJ:∀ br,ah c ops Q (ops.toList.drop n) (s8 br E 0 ee hs) (lD br hs (dV L hs) 0 hs)):
 ∀ m (a3:Array Bool) (br:Nat→Nat) (dt:List Nat) (b:Nat) (a:Act) (W:World),((List.range n).filter fun i=> !a3.getD i true).length≤m→HeadInv .any ops n a3→xP c n ee hs E L a3 br dt b a W→
   wpAnyIn c.F 9 c.P .any ops Q (m + (ops.size - n)) a3 a W:=by
 simp only [Eh,Bool.and_eq_true,decide_eq_true_eq,Bool.or_eq_true] at gX
 obtain⟨⟨⟨⟨⟨⟨⟨⟨lO,aP⟩,cb⟩,fV⟩,YE⟩,NM⟩,YF⟩,uW⟩,po⟩:=gX
 have rS:∀ i,i < n→ ∃ o,ops[i]? =some o∧ee[i]? =some o.dst∧ ∀ e∈o.after,Region.binds .any e=true→e.on < i:=by
  intro i ar
  have J:=List.all_eq_true.1 YE i (List.mem_range.2 ar)
  cases a9:ops[i]? with
  | none=>simp [a9] at J
  | some o=>
    simp only [a9,Option.map_some,Option.getD_some,Bool.and_eq_true,beq_iff_eq] at J
    refine⟨o,rfl,J.1.symm,fun e he hb=> ?_⟩
    have:=Array.all_eq_true_iff_forall_mem.1 J.2 e he
    simp [hb] at this
    exact this
 have Ey:∀ (i s:Nat),ee[i]? =some (some s)→s < c.n:=fun i s h=>by
  have:s∈ee.filterMap id:=List.mem_filterMap.2 ⟨some s,List.mem_of_getElem? h,rfl⟩
  have:=List.all_eq_true.1 cb s this
  simpa using this
 have Ow:∀ (i j s:Nat),ee[i]? =some (some s)→ee[j]? =some (some s)→i=j:=by
  have key:∀ (l:List (Option Nat)),(l.filterMap id).Nodup→ ∀ (i j s:Nat),l[i]? =some (some s)→l[j]? =some (some s)→i=j:=by
   intro l
   induction l with
   | nil=>intro _ i j s h; simp at h
   | cons x r bH=>
     intro fV i j s ar aG
     have aS:(r.filterMap id).Nodup:=by
      cases x with
      | none=>simpa using fV
      | some y=>simp only [List.filterMap_cons_some (f:=id) (a:=some y) (b:=y) rfl] at fV; exact(List.nodup_cons.1 fV).2
     have pn:x=some s→s ∉ r.filterMap id:=fun e=>by
      subst e
      simp only [List.filterMap_cons_some (f:=id) (a:=some s) (b:=s) rfl] at fV
      exact(List.nodup_cons.1 fV).1
     cases i with
     | zero=>
       simp only [List.getElem?_cons_zero,Option.some.injEq] at ar
       cases j with
       | zero=>rfl
       | succ j=>
         simp only [List.getElem?_cons_succ] at aG
         exact absurd (List.mem_filterMap.2 ⟨some s,List.mem_of_getElem? aG,rfl⟩:s∈r.filterMap id) (pn ar)
     | succ i=>
       simp only [List.getElem?_cons_succ] at ar
       cases j with
       | zero=>
         simp only [List.getElem?_cons_zero,Option.some.injEq] at aG
         exact absurd (List.mem_filterMap.2 ⟨some s,List.mem_of_getElem? ar,rfl⟩:s∈r.filterMap id) (pn aG)
       | succ j=>
         simp only [List.getElem?_cons_succ] at aG
         rw [bH aS i j s ar aG]
  exact key ee fV
 intro m
 induction m with
 | zero=>
   intro a3 br dt b a W hm inv mid
   have j3:∀ i,i < n→a3.getD i true=true:=by
    intro i ar
    cases h:a3.getD i true with
    | true=>rfl
    | false=>
      have:i∈ (List.range n).filter fun i=> !a3.getD i true:=List.mem_filter.2 ⟨List.mem_range.2 ar,by rw [h]; rfl⟩
      rw [List.length_eq_zero_iff.1 (Nat.le_zero.1 hm)] at this
      cases this
   have ao:=Gk inv aP j3
   rw [← ao] at po
   have uX:(ops.toList.drop n).length=ops.size - n:=by simp
   rw [Nat.zero_add,← uX]
   rw [← uX] at po
   refine za (ops.toList.drop n) n a3 a W (fun j=>by simp) po (bJ br a W ?_)
   have m4:∀ j,j < n→a3.getD j false=true:=fun j rT=>by
    have ay:=j3 j rT
    have aU:j < a3.size:=by rw [inv.size]; omega
    simpa [aU] using ay
   have rT:∀ (j:Nat) (h:e0),hs[j]? =some h→j < n:=fun j h aG=>by have:=(List.getElem?_eq_some_iff.1 aG).1; omega
   have MO:∀ x∈hs.drop b,x.na=false:=fun x al=>by
    obtain⟨j,aG⟩:=List.mem_iff_getElem?.1 al
    rw [List.getElem?_drop] at aG
    cases g4:x.na with
    | false=>rfl
    | true=>
      have:=(mid.stored (b + j) x aG g4).1 (m4 _ (rT _ _ aG))
      omega
   have Ox:dV L hs=dV L (hs.take b):=by
    conv=>lhs; rw [← List.take_append_drop b hs]
    rw [Ha,Dc MO]
   have IN:∀ (j:Nat) cp,h4 j cp hs=h4 j cp (hs.take b):=fun j cp=>by
    conv=>lhs; rw [← List.take_append_drop b hs]
    rw [GI,C9 MO]
   have HY:(dt.map br).Nodup:=by
    have:=mid.st.nodup
    rw [eB,zI] at this
    exact(List.nodup_append.1 this).2.1
   have YG:∀ (j k:Nat),j∈dt→k∈dt→br j=br k→j=k:=by
    have key:∀ (l:List Nat),(l.map br).Nodup→ ∀ j k:Nat,j∈l→k∈l→br j=br k→j=k:=by
     intro l
     induction l with
     | nil=>intro _ j k h; cases h
     | cons x r Zo=>
       intro aP j k aG au e
       simp only [List.map_cons] at aP
       obtain⟨J,ad⟩:=List.nodup_cons.1 aP
       rcases List.mem_cons.1 aG with ay | aG
       ·rcases List.mem_cons.1 au with aU | au
        ·rw [ay,aU]
        ·exact absurd (List.mem_map.2 ⟨k,au,by rw [← e,ay]⟩) J
       ·rcases List.mem_cons.1 au with aU | au
        ·exact absurd (List.mem_map.2 ⟨j,aG,by rw [e,aU]⟩) J
        ·exact Zo ad j k aG au e
    exact key dt HY
   have IP:∀ (j:Nat) cp,hs[j]? =some (.new cp)→j∈dt:=fun j cp aG=>(mid.news j).2 ⟨rT j _ aG,m4 j (rT j _ aG),cp,aG⟩
   have HZ:∀ e∈lD br hs [] 0 hs,e∈e3 br hs b dt:=fun e he=>by
    obtain⟨j,cp,J,ad⟩:=Gy he
    rw [Nat.zero_add] at ad
    refine List.mem_map.2 ⟨j,IP j cp J,?_⟩
    simp only [J]
    rw [ad,IN]
   have O6:bw c E (lD br hs (dV L hs) 0 hs) a W:=by
    rw [wL,Ox]
    refine mid.st.sub (fun e he=> ?_) ?_
    ·rcases List.mem_append.1 he with he | he
     ·exact List.mem_append.2 (.inr (HZ e he))
     ·exact List.mem_append.2 (.inl he)
    ·rw [eB]
     have eO:=mid.st.nodup
     rw [eB,zI] at eO
     obtain⟨J,ad,ay⟩:=List.nodup_append.1 eO
     refine List.nodup_append.2 ⟨Ks hs 0 fun j k u v aF aR dh=> ?_,J,fun x al y a5 e=> ?_⟩
     ·simp only [Nat.zero_add] at dh
      exact YG j k (IP j u aF) (IP k v aR) dh
     ·subst e
      obtain⟨e,he,tk⟩:=kJ.1 al
      have:x∈aL (e3 br hs b dt):=kJ.2 ⟨e,HZ e he,tk⟩
      rw [zI] at this
      exact ay x a5 x this rfl
   have kp:∀ k∈aL (lD br hs (dV L hs) 0 hs) ++ c.bX,k∈aL (dV L (hs.take b) ++ e3 br hs b dt) ++ c.bX:=fun k au=>by
    rw [wL,eB,Ox] at au
    rw [eB]
    simp only [List.mem_append] at au ⊢
    rcases au with(au | au) | au
    ·obtain⟨e,he,tk⟩:=kJ.1 au
     exact .inl (.inr (kJ.2 ⟨e,HZ e he,tk⟩))
    ·exact .inl (.inl au)
    ·exact .inr au
   refine { O6 with env:=fun t τ eJ=> ?_ }
   rcases K6 0 eJ with⟨j,J,h,ad,ay⟩ | J
   ·rw [Nat.zero_add] at ay
    obtain⟨v,aU,a0⟩:=mid.done j t h τ (rT j h ad) (m4 j (rT j h ad)) J ad ay
    exact⟨v,aU,τ.mono (.drop kp) a0⟩
   ·exact O6.env t τ J
 | succ m bH=>
   intro a3 br dt b a W hm inv mid
   by_cases j3:∀ i,i < n→a3.getD i true=true
   ·have bG:((List.range n).filter fun i=> !a3.getD i true).length≤m:=by
     have:((List.range n).filter fun i=> !a3.getD i true)= []:=List.filter_eq_nil_iff.2 fun i ar=>by simp [j3 i (List.mem_range.1 ar)]
     rw [this]; simp
    have J:=bH a3 br dt b a W bG inv mid
    have more:∀ f (a3:Array Bool) a W,wpAnyIn c.F 9 c.P .any ops Q f a3 a W→wpAnyIn c.F 9 c.P .any ops Q (f + 1) a3 a W:=by
     intro f
     induction f with
     | zero=>intro a3 a W h; exact⟨fun _=>h.2,fun i ar=>by rw [h.1] at ar; cases ar⟩
     | succ f Bo=>intro a3 a W h; exact⟨h.1,fun i ar=>wpOpIn_mono (fun fY pR cX=>Bo _ fY pR cX) (h.2 i ar)⟩
    rw [show m + 1 + (ops.size - n)=(m + (ops.size - n)) + 1 by omega]
    exact more _ _ _ _ J
   ·rw [show m + 1 + (ops.size - n)=(m + (ops.size - n)) + 1 by omega]
    have hex:∃ i,i < n∧a3.getD i true=false:=by
     have J: ¬ ∀ i,i < n→a3.getD i true=true:=j3
     false_or_by_contra
     rename_i ad
     exact J fun i ar=>by
      cases h:a3.getD i true with
      | true=>rfl
      | false=>exact absurd ⟨i,ar,h⟩ ad
    have z2:∀ t∈Region.ready .any ops a3,t < n:=by
     intro t pC
     rcases Nat.lt_or_ge t n with h | h
     ·exact h
     ·obtain⟨i,ar,hT⟩:=hex
      rcases uW with J | J
      ·obtain⟨_,o,a9,_⟩:=mem_ready.1 pC
       have:=(Array.getElem?_eq_some_iff.1 a9).1
       omega
      ·have Oy:n < ops.size:=by
        obtain⟨_,o,a9,_⟩:=mem_ready.1 pC
        have:=(Array.getElem?_eq_some_iff.1 a9).1
        omega
       exact absurd pC (tail_waits J.1 J.2 Oy inv _ i rfl ar hT t h)
    refine⟨fun bG=> ?_,fun i ar=> ?_⟩
    ·exfalso
     have Vd:∀ k,∀ i,i≤k→i < n→a3.getD i true=false→ ∃ i,i < n∧a3.getD i true=false∧ ∀ j,j < i→a3.getD j true=true:=by
      intro k
      induction k with
      | zero=>intro i kU ar hu; exact⟨i,ar,hu,fun j aG=>by omega⟩
      | succ k Bp=>
        intro i kU ar hu
        by_cases hq:∀ j,j < i→a3.getD j true=true
        ·exact⟨i,ar,hu,hq⟩
        ·have:∃ j,j < i∧a3.getD j true=false:=by
          false_or_by_contra
          rename_i ad
          exact hq fun j aG=>by
           cases h:a3.getD j true with
           | true=>rfl
           | false=>exact absurd ⟨j,aG,h⟩ ad
         obtain⟨j,aG,Zp⟩:=this
         exact Bp j (by omega) (by omega) Zp
     obtain⟨i0,vw,Zq⟩:=hex
     obtain⟨i,ar,hu,Iu⟩:=Vd i0 i0 (Nat.le_refl _) vw Zq
     obtain⟨o,a9,_,z3⟩:=rS i ar
     have:i∈Region.ready .any ops a3:=mem_ready.2 ⟨hu,o,a9,fun e he hb=>by
      have J:=Iu e.on (z3 e he hb)
      have ad:e.on < a3.size:=by rw [inv.size]; have:=z3 e he hb; omega
      simpa [ad] using J⟩
     rw [bG] at this
     cases this
    ·have ef:=z2 i ar
     obtain⟨o,a9,l5,z3⟩:=rS i ef
     obtain⟨hT,o',pB,m4⟩:=mem_ready.1 ar
     have Zr:o'=o:=Option.some.inj (pB.symm.trans a9)
     subst Zr
     obtain⟨h,dm⟩:∃ h,hs[i]? =some h:=⟨hs[i]'(by omega),by simp⟩
     obtain⟨bZ,eY,jc⟩:=Gx (ck br) i h dm
     have YH:bZ=o':=by
      rw [Array.getElem?_toList] at eY
      exact Option.some.inj (eY.symm.trans a9)
     subst YH
     have pq:((List.range n).filter fun j=> !(a3.setIfInBounds i true).getD j true).length≤m:=by
      have:((List.range n).filter fun j=> !(a3.setIfInBounds i true).getD j true).length < ((List.range n).filter fun j=> !a3.getD j true).length:=by
       refine DK (fun j=> !a3.getD j true) (fun j=> !(a3.setIfInBounds i true).getD j true) i (by simp only [hT]; rfl) ?_ (fun j aG=> ?_) n ef
       ·have:i < a3.size:=by rw [inv.size]; omega
        simp [this]
       ·by_cases e:i=j
        ·subst e; simp only [hT]; rfl
        ·rw [getD_set_ne true e] at aG; exact aG
      omega
     have rE:=inv.set ar ef
     have pr:i < a3.size:=by rw [inv.size]; omega
     have xp:(a3.setIfInBounds i true).getD i false=true:=by simp [pr]
     have js:a3.getD i false=false:=getD_both hT
     have YI:i ∉ dt:=fun hm=>by have:=((mid.news i).1 hm).2.1; rw [js] at this; cases this
     have Ez:∀ j∈rD.getD i [],j < n∧a3.getD j false=true:=fun j aG=>by
      have ay:=List.all_eq_true.1 (List.all_eq_true.1 NM i (List.mem_range.2 ef)) j aG
      simp only [Bool.and_eq_true,decide_eq_true_eq] at ay
      obtain⟨kf,ho,e,he,hb,kV⟩:=Region.waitsFor_spec ay.2
      have:kf=bZ:=Option.some.inj (ho.symm.trans a9)
      subst this
      have aU:=m4 e he hb
      rw [kV] at aU
      exact⟨ay.1,aU⟩
     have fK:bw c (he br ee hs E (rD.getD i [])) (dV L (hs.take b) ++ e3 br hs b dt) a W:=by
      refine { mid.st with env:=fun t σ eJ=> ?_ }
      rcases Me eJ with⟨j,aG,J,x,ad,ay⟩ | J
      ·exact mid.done j t x σ (Ez j aG).1 (Ez j aG).2 J ad ay
      ·exact mid.st.env t σ J
     have Mf:h.na=true→b≤i∧ ∃ r,hs.take i=hs.take b ++ r∧ ∀ x∈r,x.na=false:=fun Oz=>by
      have ES:b≤i:=by
       rcases Nat.lt_or_ge i b with J | J
       ·have:=(mid.stored i h dm Oz).2 J
        rw [js] at this; cases this
       ·exact J
      refine⟨ES,TB ES dm fun j x xK nr al=> ?_⟩
      cases g4:x.na with
      | false=>rfl
      | true=>
        have ay:=List.all_eq_true.1 YF i (List.mem_range.2 ef)
        have aF:(hs.map e0.na).getD i false=true:=by simp [dm,Oz]
        simp only [aF,Bool.not_true,Bool.false_or] at ay
        have aU:=List.all_eq_true.1 ay j (List.mem_range.2 nr)
        have aR:(hs.map e0.na).getD j false=true:=by simp [al,g4]
        simp only [aR,Bool.not_true,Bool.false_or] at aU
        obtain⟨kf,ho,e,he,hb,kV⟩:=Region.waitsFor_spec aU
        have:kf=bZ:=Option.some.inj (ho.symm.trans a9)
        subst this
        have a0:=m4 e he hb
        rw [kV] at a0
        have:=(mid.stored j x al g4).1 a0
        omega
     unfold wpOpIn
     simp only [a9]
     cases h with
     | val τ=>
       simp only at jc
       have Zs:=jc (dV L (hs.take b) ++ e3 br hs b dt) (fun j e aG hu=>by
        have J:(dV L (hs.take b))[j]? =some e:=by
         rw [zo b 0 hu (fun q hq ⟨qE,cp',al⟩=>by
          have ET:=(mid.stored q _ al rfl).2 hq
          cases hw:Region.waitsFor .any ops (0 + q) (0 + i) with
          | false=>rfl
          | true=>
            obtain⟨IQ,EA,e',EU,vx,OA⟩:=Region.waitsFor_spec hw
            rw [Nat.zero_add] at EA OA
            have:=inv.closed q IQ EA ET e' EU vx
            rw [OA,js] at this
            cases this)]
         exact aG
        rw [List.getElem?_append_left (List.getElem?_eq_some_iff.1 J).1]; exact J)
       obtain⟨J,ad⟩:=Zs a W fK
       have NN:∀ v W',Fr [] W W'→τ.holds (aL (dV L (hs.take b) ++ e3 br hs b dt) ++ c.bX) W' v→xP c n ee hs E L (a3.setIfInBounds i true) br dt b (a.put bZ.dst v) W':=by
        intro v W' f a6
        have j9:=mid.st.world f
        refine⟨?_,fun j b9 x σ aG ao eI al lb=> ?_,fun j=> ?_,fun j x al g4=> ?_,mid.ble⟩
        ·cases hd:bZ.dst with
         | none=>exact j9
         | some s=>
           rw [hd] at l5
           refine { (j9.put (d:=s) (Ey i s l5) a6) with env:=fun t σ eJ=> ?_ }
           have cH:s≠t:=fun e=>Gw aD t σ eJ (by rw [← e]; exact List.mem_filterMap.2 ⟨some s,List.mem_of_getElem? l5,rfl⟩)
           obtain⟨u,a0,bl⟩:=j9.env t σ eJ
           exact⟨u,by simp only [Act.put]; rw [Array.getElem?_setIfInBounds_ne cH]; exact a0,bl⟩
        ·by_cases e:i=j
         ·subst e
          rw [l5] at eI
          rw [dm] at al
          cases al
          simp only [e0.qD,Option.some.injEq] at lb
          subst lb
          simp only [Option.some.injEq] at eI
          rw [eI]
          exact⟨v,by rw [eI] at l5; simp [Act.put,j9.size,Ey i b9 l5],a6⟩
         ·rw [getD_set_ne false e] at ao
          obtain⟨u,a0,bl⟩:=mid.done j b9 x σ aG ao eI al lb
          refine⟨u,?_,σ.mono (.dw f) bl⟩
          cases hd:bZ.dst with
          | none=>exact a0
          | some s=>
            rw [hd] at l5
            have cH:s≠b9:=fun aR=>e (Ow i j s l5 (by rw [aR]; exact eI))
            simp only [Act.put]; rw [Array.getElem?_setIfInBounds_ne cH]; exact a0
        ·rw [mid.news j]
         by_cases e:i=j
         ·subst e
          constructor
          ·rintro ⟨_,a0,_⟩; rw [js] at a0; cases a0
          ·rintro ⟨_,_,cp,a0⟩; rw [dm] at a0; cases a0
         ·rw [getD_set_ne false e]
        ·have e:i≠j:=fun e=>by subst e; rw [dm] at al; cases al; cases g4
         rw [getD_set_ne false e]
         exact mid.stored j x al g4
       split
       ·rename_i hw
        exact(J hw).wpIn fun v W' ⟨f,a6⟩=>bH _ br dt b _ _ pq rE (NN v W' f a6)
       ·rename_i hw
        have EV:Region.wanted bZ (yielded ops a.tmps)=false:=by simpa using hw
        exact⟨fun _ _=>trivial,bH _ br dt b _ _ pq rE (NN undef W (.refl _ _) (ad EV))⟩
     | new cp=>
       simp only at jc
       obtain⟨Bq,jz,er,hB⟩:=jc
       have W9:∀ q x,e0.mb q x∈hs.take b→q≠i:=fun q x hm e=>by
        subst e
        obtain⟨j,aG⟩:=List.mem_iff_getElem?.1 hm
        rw [List.getElem?_take] at aG
        split at aG
        ·rename_i Zt
         have Br:=(mid.stored j _ aG rfl).2 Zt
         have rT:j < n:=by have:=(List.getElem?_eq_some_iff.1 aG).1; omega
         obtain⟨kf,ho,O7⟩:=Gx (ck br) j _ aG
         simp only at O7
         have ay:=List.all_eq_true.1 (List.all_eq_true.1 NM j (List.mem_range.2 rT)) q (by simpa using O7.1)
         simp only [Bool.and_eq_true,decide_eq_true_eq] at ay
         obtain⟨IQ,EA,e,he,hb,kV⟩:=Region.waitsFor_spec ay.2
         have:=inv.closed j IQ EA Br e he hb
         rw [kV,js] at this
         cases this
        ·cases aG
       have EB:h4 i cp (hs.take b)=cp:=zl W9
       let mM:Nat→Nat:=fun j=>if j=i then W.heap.size else br j
       have Zu:∀ j,j∈dt→mM j=br j:=fun j aG=>if_neg (fun e=>YI (by rw [← e]; exact aG))
       have IS:mM i=W.heap.size:=if_pos rfl
       have qs:dV L (hs.take b) ++ e3 mM hs b (i :: dt)=dV L (hs.take b) ++ (⟨some W.heap.size,cp⟩ :: e3 br hs b dt):=by
        have:e3 mM hs b (i :: dt)=⟨some W.heap.size,cp⟩ :: e3 mM hs b dt:=by simp only [e3,List.map_cons,dm,IS,EB]
        rw [this,Ug Zu]
       have A1:xP c n ee hs E L (a3.setIfInBounds i true) mM (i :: dt) b (a.put bZ.dst (.pointer (some ⟨W.heap.size,0,none⟩))) (W.alloc jz):=by
        have j9:bw c E (dV L (hs.take b) ++ e3 mM hs b (i :: dt)) a (W.alloc jz):=by
         rw [qs]
         exact(mid.st.alloc (er _ _)).perm List.perm_middle.symm
        have gK:Ext (aL (dV L (hs.take b) ++ e3 br hs b dt) ++ c.bX) W (aL (dV L (hs.take b) ++ e3 mM hs b (i :: dt)) ++ c.bX) (W.alloc jz):=by
         refine⟨by simp,fun k au _=>DI W jz k au,fun k au cb=> ?_⟩
         rw [qs] at au
         simp only [eB,aL,List.mem_append,List.mem_cons] at au ⊢
         rcases au with(h | h | h) | h
         ·exact .inl (.inl h)
         ·omega
         ·exact .inl (.inr h)
         ·exact .inr h
        refine⟨?_,fun j b9 x σ aG ao eI al lb=> ?_,fun j=> ?_,fun j x al g4=> ?_,mid.ble⟩
        ·cases hd:bZ.dst with
         | none=>exact j9
         | some s=>
           rw [hd] at l5
           refine { (j9.put (d:=s) (τ:= .any) (Ey i s l5) trivial) with env:=fun t σ eJ=> ?_ }
           have cH:s≠t:=fun e=>Gw aD t σ eJ (by rw [← e]; exact List.mem_filterMap.2 ⟨some s,List.mem_of_getElem? l5,rfl⟩)
           obtain⟨u,a0,bl⟩:=j9.env t σ eJ
           exact⟨u,by simp only [Act.put]; rw [Array.getElem?_setIfInBounds_ne cH]; exact a0,bl⟩
        ·by_cases e:i=j
         ·subst e
          rw [l5] at eI
          rw [dm] at al
          cases al
          simp only [e0.qD,Option.some.injEq] at lb
          subst lb
          simp only [Option.some.injEq] at eI
          rw [eI]
          exact⟨.pointer (some ⟨W.heap.size,0,none⟩),by rw [eI] at l5; simp [Act.put,j9.size,Ey i b9 l5],by rw [IS]; rfl⟩
         ·rw [getD_set_ne false e] at ao
          have Zv:mM j=br j:=if_neg (fun e'=>e e'.symm)
          rw [Zv] at lb
          obtain⟨u,a0,bl⟩:=mid.done j b9 x σ aG ao eI al lb
          refine⟨u,?_,σ.mono gK bl⟩
          cases hd:bZ.dst with
          | none=>exact a0
          | some s=>
            rw [hd] at l5
            have cH:s≠b9:=fun aR=>e (Ow i j s l5 (by rw [aR]; exact eI))
            simp only [Act.put]; rw [Array.getElem?_setIfInBounds_ne cH]; exact a0
        ·rw [List.mem_cons,mid.news j]
         by_cases e:i=j
         ·subst e
          exact⟨fun _=>⟨ef,xp,cp,dm⟩,fun _=> .inl rfl⟩
         ·rw [getD_set_ne false e]
          exact⟨fun h=>h.resolve_left (fun e'=>e e'.symm),.inr⟩
        ·have e:i≠j:=fun e=>by subst e; rw [dm] at al; cases al; cases g4
         rw [getD_set_ne false e]
         exact mid.stored j x al g4
       rw [if_pos (by simp [Region.wanted,Bq])]
       refine RN (hB a W) ?_
       exact bH _ mM (i :: dt) b _ _ pq rE A1
     | kN q cp=>
       simp only at jc
       obtain⟨ES,r,vy,n4⟩:=Mf rfl
       have O8:dV L (hs.take i)=dV L (hs.take b):=by rw [vy,Ha,Dc n4]
       rw [Nat.zero_add,O8] at jc
       obtain⟨p,mL,hq,tl⟩:=jc
       have iY:(dV L (hs.take b) ++ e3 br hs b dt)[q]? =some ⟨some p,mL⟩:=by
        rw [List.getElem?_append_left (List.getElem?_eq_some_iff.1 hq).1]; exact hq
       obtain⟨Bq,A2,tl⟩:=tl (dV L (hs.take b) ++ e3 br hs b dt) (fun j e aG=>by
        rw [List.getElem?_append_left (List.getElem?_eq_some_iff.1 aG).1]; exact aG)
       obtain⟨cs,dN,T,J,ad,ay⟩:=tl a W fK
       have Bn:=mid.st.store iY J ay
       have xy:hs.take (i + 1)=hs.take i ++ [.kN q cp]:=by rw [List.take_add_one,dm]; rfl
       have vz:dV L (hs.take (i + 1))=(dV L (hs.take b)).set q ⟨some p,cp⟩:=by
        rw [xy,KP,O8]
        simp only [dV]
        exact SY hq
       have IT:e3 br hs (i + 1) dt=e3 br hs b dt:=by
        unfold e3
        refine List.map_congr_left fun j _=> ?_
        congr 1
        split
        ·rw [xy,Gc,vy,GI,C9 n4]; rfl
        ·rfl
       have Bs:dV L (hs.take (i + 1)) ++ e3 br hs (i + 1) dt=(dV L (hs.take b) ++ e3 br hs b dt).set q ⟨some p,cp⟩:=by
        rw [vz,IT,List.set_append_left _ _ (List.getElem?_eq_some_iff.1 hq).1]
       have ns:aL (dV L (hs.take (i + 1)) ++ e3 br hs (i + 1) dt)=aL (dV L (hs.take b) ++ e3 br hs b dt):=by rw [Bs]; exact xa (cp:=cp) iY
       have jO:p∈aL (dV L (hs.take b) ++ e3 br hs b dt):=kJ.2 ⟨_,List.mem_of_getElem? iY,rfl⟩
       have gK:Ext (aL (dV L (hs.take b) ++ e3 br hs b dt) ++ c.bX) W (aL (dV L (hs.take b) ++ e3 br hs b dt) ++ c.bX) (W.setRow p dN):=
        ⟨by simp,fun k _ bd=>setRow_other W p k dN (fun e=>bd (e ▸ List.mem_append.2 (.inl jO))),fun _ h _=>h⟩
       have A1:xP c n ee hs E L (a3.setIfInBounds i true) br dt (i + 1) (a.put bZ.dst undef) (W.setRow p dN):=by
        rw [A2]
        refine⟨by rw [Bs]; exact Bn,fun j b9 x σ aG ao eI al lb=> ?_,fun j=> ?_,fun j x al g4=> ?_,ef⟩
        ·rw [ns]
         by_cases e:i=j
         ·subst e; rw [dm] at al; cases al; cases lb
         ·rw [getD_set_ne false e] at ao
          obtain⟨u,a0,bl⟩:=mid.done j b9 x σ aG ao eI al lb
          exact⟨u,a0,σ.mono gK bl⟩
        ·rw [mid.news j]
         by_cases e:i=j
         ·subst e
          constructor
          ·rintro ⟨_,a0,_⟩; rw [js] at a0; cases a0
          ·rintro ⟨_,_,cp,a0⟩; rw [dm] at a0; cases a0
         ·rw [getD_set_ne false e]
        ·by_cases e:i=j
         ·subst e; exact⟨fun _=>by omega,fun _=>xp⟩
         ·rw [getD_set_ne false e,mid.stored j x al g4]
          constructor
          ·intro _; omega
          ·intro aG
           rcases Nat.lt_or_ge j b with a0 | a0
           ·exact a0
           ·have:x∈r:=by
             have bl:(hs.take i)[j]? =some x:=by rw [List.getElem?_take,if_pos (by omega)]; exact al
             rw [vy,List.getElem?_append_right (by rw [List.length_take]; omega)] at bl
             exact List.mem_of_getElem? bl
            have:=n4 x this
            rw [g4] at this; cases this
       rw [if_pos (by simp [Region.wanted,Bq])]
       refine KB ad ?_
       exact bH _ br dt (i + 1) _ _ pq rE A1
     | mb q cp=>
       simp only at jc
       obtain⟨ES,r,vy,n4⟩:=Mf rfl
       obtain⟨OB,mL,rU,tl⟩:=jc
       rw [Nat.zero_add] at tl
       have EB:∀ (j:Nat) x,h4 j x (hs.take i)=h4 j x (hs.take b):=fun j x=>by rw [vy,GI,C9 n4]
       have YJ:q∈dt:=(mid.news q).2 ⟨(Ez q (by simpa using OB)).1,(Ez q (by simpa using OB)).2,mL,rU⟩
       obtain⟨k,au⟩:=List.mem_iff_getElem?.1 YJ
       have s9:(e3 br hs b dt)[k]? =some ⟨some (br q),h4 q mL (hs.take i)⟩:=by
        simp only [e3,List.getElem?_map,au,Option.map_some,rU,EB]
       have iY:(dV L (hs.take b) ++ e3 br hs b dt)[(dV L (hs.take b)).length + k]? =some ⟨some (br q),h4 q mL (hs.take i)⟩:=by
        rw [List.getElem?_append_right (by omega),Nat.add_sub_cancel_left]; exact s9
       obtain⟨Bq,A2,tl⟩:=tl (dV L (hs.take b) ++ e3 br hs b dt) _ iY
       obtain⟨cs,dN,T,J,ad,ay⟩:=tl a W fK
       have Bn:=mid.st.store iY J ay
       have xy:hs.take (i + 1)=hs.take i ++ [.mb q cp]:=by rw [List.take_add_one,dm]; rfl
       have vz:dV L (hs.take (i + 1))=dV L (hs.take b):=by
        rw [xy,KP]
        simp only [dV]
        rw [vy,Ha,Dc n4]
       have HY:dt.Nodup:=by
        have:=mid.st.nodup
        rw [eB,zI] at this
        exact KD br dt (List.nodup_append.1 this).2.1
       have IT:e3 br hs (i + 1) dt=(e3 br hs b dt).set k ⟨some (br q),cp⟩:=by
        apply List.ext_getElem?
        intro j
        rw [List.getElem?_set]
        by_cases e:k=j
        ·subst e
         have Bt:k < (e3 br hs b dt).length:=(List.getElem?_eq_some_iff.1 s9).1
         rw [if_pos rfl,if_pos Bt]
         simp only [e3,List.getElem?_map,au,Option.map_some,rU]
         rw [xy,Gc]
         simp [h4]
        ·rw [if_neg e]
         simp only [e3,List.getElem?_map]
         cases aG:dt[j]? with
         | none=>rfl
         | some x=>
           have Zw:x≠q:=fun aR=>by
            subst aR
            obtain⟨cN,cF⟩:=List.getElem?_eq_some_iff.1 aG
            obtain⟨dE,dU⟩:=List.getElem?_eq_some_iff.1 au
            exact e ((List.getElem_inj HY).1 (dU.trans cF.symm))
           simp only [Option.map_some]
           congr 2
           split
           ·rw [xy,Gc,EB]
            have:Nat.beq q x=false:=by
             cases hb:Nat.beq q x with
             | false=>rfl
             | true=>exact absurd (ej.1 hb).symm Zw
            simp [h4,this]
           ·rfl
       have Bs:dV L (hs.take (i + 1)) ++ e3 br hs (i + 1) dt=(dV L (hs.take b) ++ e3 br hs b dt).set ((dV L (hs.take b)).length + k) ⟨some (br q),cp⟩:=by
        rw [vz,IT,List.set_append_right _ _ (by omega),Nat.add_sub_cancel_left]
       have ns:aL (dV L (hs.take (i + 1)) ++ e3 br hs (i + 1) dt)=aL (dV L (hs.take b) ++ e3 br hs b dt):=by rw [Bs]; exact xa (cp:=cp) iY
       have jO:br q∈aL (dV L (hs.take b) ++ e3 br hs b dt):=kJ.2 ⟨_,List.mem_of_getElem? iY,rfl⟩
       have gK:Ext (aL (dV L (hs.take b) ++ e3 br hs b dt) ++ c.bX) W (aL (dV L (hs.take b) ++ e3 br hs b dt) ++ c.bX) (W.setRow (br q) dN):=
        ⟨by simp,fun k _ bd=>setRow_other W (br q) k dN (fun e=>bd (e ▸ List.mem_append.2 (.inl jO))),fun _ h _=>h⟩
       have A1:xP c n ee hs E L (a3.setIfInBounds i true) br dt (i + 1) (a.put bZ.dst undef) (W.setRow (br q) dN):=by
        rw [A2]
        refine⟨by rw [Bs]; exact Bn,fun j b9 x σ aG ao eI al lb=> ?_,fun j=> ?_,fun j x al g4=> ?_,ef⟩
        ·rw [ns]
         by_cases e:i=j
         ·subst e; rw [dm] at al; cases al; cases lb
         ·rw [getD_set_ne false e] at ao
          obtain⟨u,a0,bl⟩:=mid.done j b9 x σ aG ao eI al lb
          exact⟨u,a0,σ.mono gK bl⟩
        ·rw [mid.news j]
         by_cases e:i=j
         ·subst e
          constructor
          ·rintro ⟨_,a0,_⟩; rw [js] at a0; cases a0
          ·rintro ⟨_,_,cp,a0⟩; rw [dm] at a0; cases a0
         ·rw [getD_set_ne false e]
        ·by_cases e:i=j
         ·subst e; exact⟨fun _=>by omega,fun _=>xp⟩
         ·rw [getD_set_ne false e,mid.stored j x al g4]
          constructor
          ·intro _; omega
          ·intro aG
           rcases Nat.lt_or_ge j b with a0 | a0
           ·exact a0
           ·have:x∈r:=by
             have bl:(hs.take i)[j]? =some x:=by rw [List.getElem?_take,if_pos (by omega)]; exact al
             rw [vy,List.getElem?_append_right (by rw [List.length_take]; omega)] at bl
             exact List.mem_of_getElem? bl
            have:=n4 x this
            rw [g4] at this; cases this
       rw [if_pos (by simp [Region.wanted,Bq])]
       refine KB ad ?_
       exact bH _ br dt (i + 1) _ _ pq rE A1
theorem ai.draw {n5:Nat} {l:List Oper} (hm:c.P.follows .mixedOrders=true) (n:Nat) (ee:List (Option Nat)) (rD:List (List Nat)) (hs:List e0) (Bm:List Bool) (gX:Eh l.toArray n ee rD Bm c.n=true) (vY:hs.map e0.na=Bm) (aD:A0 E (ee.filterMap id)=true)
 (hlen:Nat.beq hs.length n=true) (ck:∀ br,qg c l.toArray br ee hs E L 0 l hs rD)
 (bJ:∀ br:Nat→Nat,ah c l.toArray Q (l.drop n) (s8 br E 0 ee hs) (lD br hs (dV L hs) 0 hs)):ai c Q (.region n5 l.toArray true) E L:=fun a W s=>by
 subst vY
 refine wpIn_region_any hm ?_
 have aP:n≤l.toArray.size:=by
  simp only [Eh,Bool.and_eq_true,decide_eq_true_eq] at gX
  exact gX.1.1.1.1.1.1.1.2
 have A3:HeadInv .any l.toArray n (Array.replicate l.toArray.size false):=
  {size:=by simp
   closed:=fun j kf _ ao=>by rw [getD_replicate_false] at ao; cases ao
   tail:=fun t _ bJ=>by simp at bJ; simp [bJ] }
 have YK:xP c n ee hs E L (Array.replicate l.toArray.size false) (fun _=>0) [] 0 a W.drew:=
  {st:=by simpa [dV,e3] using s.world (Fr.drew W)
   done:=fun j s h τ _ ao=>by rw [getD_replicate_false] at ao; cases ao
   news:=fun j=>by
    constructor
    ·intro h; cases h
    ·rintro ⟨_,h,_⟩; rw [getD_replicate_false] at h; cases h
   stored:=fun j h _ _=>by
    rw [getD_replicate_false]
    constructor
    ·intro h; cases h
    ·intro h; omega
   ble:=Nat.zero_le _ }
 have h:=SZ (ops:=l.toArray) (Q:=Q) gX aD (ej.1 hlen) (by simpa using ck) (by simpa using bJ) n (Array.replicate l.toArray.size false) (fun _=>0) [] 0 a W.drew
  (Nat.le_trans (List.length_filter_le _ _) (by simp)) A3 YK
 rw [show n + (l.toArray.size - n)=l.toArray.size by omega] at h
 exact h
end
structure bt (P:Program) (t:TypeId) (α:Type) [ag α]:Prop where
 size:(P.info? t).map (·.size)=some (ag.size α)
 O9:∃ d,P.underlying t=some d∧ (match d with | .struct _ | .array _ _=>true | _=>false)=ag.agg α
structure cn (P:Program) (t:TypeId) {α:Type} [ag α] (x:α):Prop where
 zero:∃ i z,P.info? t=some i∧i.zero=some z∧ ∀ A W,(I.of x).holds A W z
theorem bt.info {P t α} [ag α] (h:bt P t α):∃ i,P.info? t=some i∧i.size=ag.size α:=by
 have:=h.size
 cases ar:P.info? t with
 | none=>simp [ar] at this
 | some i=>exact⟨i,rfl,by simpa [ar] using this⟩
theorem bt.isAgg {P t α} [ag α] (h:bt P t α) (W:World):(isAgg t).run P W= .ok (ag.agg α) W:=by
 obtain⟨d,hd,he⟩:=h.O9
 unfold Go.isAgg
 rw [Sem.run_bind,run_underlying hd W]
 simp only [Result.andThen_ok]
 cases d <;> simp_all
theorem bt.sizeOf {P t α} [ag α] (h:bt P t α) (W:World):(Go.sizeOf t).run P W= .ok (ag.size α) W:=by
 obtain⟨i,ar,hs⟩:=h.info
 simp [Go.sizeOf,typeInfo,ar,hs]
theorem iC (b off j:Nat):(⟨b,off,none⟩:Addr).add j=⟨b,off + j,none⟩:=by unfold Addr.add; split <;> simp_all
theorem tO {P:Program} {W:World} {b off:Nat} {cur:Array Value} {T t:TypeId} {hK:Nat × Nat} {α:Type} [ag α] {A:List Nat} {x:α} (ty:bt P t α)
 (hb:W.heap[b]? =some (.cells cur T hK)) (hs:off + ag.size α≤cur.size) (aS:ag.rep A W ((cur.toList.drop off).take (ag.size α)) x):
 ∃ v,(loadVar t ⟨b,off,none⟩).run P W= .ok v W∧ (I.of x).holds A W v:=by
 have ao:=ag.len aS
 have uY:∀ j v,((cur.toList.drop off).take (ag.size α))[j]? =some v→W.cell? ((⟨b,off,none⟩:Addr).add j)=some v:=by
  intro j v a6
  rw [iC,cell_of_row W b (off + j) cur T hK hb]
  rw [List.getElem?_take] at a6
  split at a6
  ·rw [List.getElem?_drop] at a6; simpa using a6
  ·cases a6
 cases bd:ag.agg α with
 | true=>
   have J:=run_loadCells_list (P:=P) W ⟨b,off,none⟩ _ uY
   rw [ao] at J
   refine⟨.agg ((cur.toList.drop off).take (ag.size α)).toArray,?_,?_,?_⟩
   ·simp [loadVar,Sem.run_bind,ty.isAgg,ty.sizeOf,bd,J]
   ·simp [shaped,bd]
   ·simpa [Value.cells] using aS
 | false=>
   have J:ag.size α=1:=ag.flat bd
   rw [J] at ao
   obtain⟨v,a6⟩:=List.length_eq_one_iff.1 ao
   have ad:=uY 0 v (by rw [J,a6]; rfl)
   have ay:v.oneCell'=true:=ag.one aS v (by rw [J,a6]; simp)
   refine⟨v,?_,?_,?_⟩
   ·rw [iC,Nat.add_zero] at ad
    simp [loadVar,Sem.run_bind,ty.isAgg,bd,ad]
   ·simp [shaped,bd,ay]
   ·rw [oo ay]
    rw [J,a6] at aS
    simpa using aS
def fH (cur:List Value) (off:Nat) (ds:List Value):List Value:=cur.take off ++ ds ++ cur.drop (off + ds.length)
theorem TC {A W v} {α:Type} [ag α] {x:α} (h:(I.of x).holds A W v):v.cells.toList.length=ag.size α∧ ∀ u∈v.cells.toList,u.oneCell'=true:=⟨ag.len h.2,ag.one h.2⟩
theorem y7 {P:Program} {W:World} {b off:Nat} {cur:Array Value} {T t:TypeId} {α:Type} [ag α] {A:List Nat} {x:α} {v:Value} (ty:bt P t α)
 (hb:W.heap[b]? =some (.cells cur T (0,0))) (hs:off + ag.size α≤cur.size) (a6:(I.of x).holds A W v):
 (storeVar t ⟨b,off,none⟩ v).run P W= .ok () (W.setRow b (fH cur.toList off v.cells.toList).toArray):=by
 obtain⟨ao,J⟩:=TC a6
 have ad:=run_storeCells_at P b off T v.cells.toList 0 cur W hb (by rw [ao]; omega) J
 have dW:v.cells.size=ag.size α:=by simpa using ao
 simp only [Nat.add_zero] at ad
 simp only [storeVar,Sem.run_bind,ty.sizeOf,Result.andThen_ok,dW]
 simp only [ne_eq,not_true_eq_false,↓reduceIte,Sem.run_pure,Sem.run_bind,Result.andThen_ok]
 simpa [fH] using ad
structure aQ (β γ:Type) [ag β] [ag γ] where
 off:Nat
 get:β→γ
 set:β→γ→β
 fW:off + ag.size γ≤ag.size β
 hX:∀ {A W cs b},ag.rep A W cs b→ag.rep A W ((cs.drop off).take (ag.size γ)) (get b)
 kI:∀ {A W cs b ds g},ag.rep A W cs b→ag.rep A W ds g→ag.rep A W (cs.take off ++ ds ++ cs.drop (off + ag.size γ)) (set b g)
def aQ.id (β:Type) [ag β]:aQ β β where
 off:=0
 get b:=b
 set _ g:=g
 fW:=by simp
 hX h:=by
  have:=ag.len h
  rw [List.drop_zero,← this,List.take_length]; exact h
 kI h bE:=by
  have J:=ag.len h
  rw [List.take_zero,List.nil_append,Nat.zero_add,← J,List.drop_length,List.append_nil]; exact bE
theorem tQ (cs:List Value) (b6 s1 bZ s2:Nat) (h:bZ + s2≤s1):(((cs.drop b6).take s1).drop bZ).take s2=(cs.drop (b6 + bZ)).take s2:=by
 apply List.ext_getElem?
 intro i
 simp only [List.getElem?_take,List.getElem?_drop]
 split
 ·rw [if_pos (by omega)]; congr 1; omega
 ·rfl
theorem K7 (cs ds:List Value) (b6 s1 bZ s2:Nat) (h:bZ + s2≤s1) (ak:b6 + s1≤cs.length):
 cs.take b6 ++ (((cs.drop b6).take s1).take bZ ++ ds ++ ((cs.drop b6).take s1).drop (bZ + s2)) ++ cs.drop (b6 + s1)=cs.take (b6 + bZ) ++ ds ++ cs.drop (b6 + bZ + s2):=by
 have aF:cs.take (b6 + bZ)=cs.take b6 ++ ((cs.drop b6).take s1).take bZ:=by
  rw [List.take_take,Nat.min_eq_left (by omega),List.take_add]
 have aR:cs.drop (b6 + bZ + s2)=((cs.drop b6).take s1).drop (bZ + s2) ++ cs.drop (b6 + s1):=by
  apply List.ext_getElem?
  intro i
  simp only [List.getElem?_append,List.getElem?_drop,List.getElem?_take,List.length_drop,List.length_take]
  split
  ·rw [if_pos (by omega)]; congr 1; omega
  ·congr 1; omega
 rw [aF,aR]
 simp only [List.append_assoc]
def aQ.comp {α β γ:Type} [ag α] [ag β] [ag γ] (l:aQ α β) (m:aQ β γ):aQ α γ where
 off:=l.off + m.off
 get b:=m.get (l.get b)
 set b g:=l.set b (m.set (l.get b) g)
 fW:=by have:=l.fW; have:=m.fW; omega
 hX h:=by
  have:=m.hX (l.hX h)
  rwa [tQ _ _ _ _ _ m.fW] at this
 kI h bE:=by
  have J:=l.kI h (m.kI (l.hX h) bE)
  have ad:=ag.len h
  have ay:=l.fW
  rwa [K7 _ _ _ _ _ _ m.fW (by omega)] at J
def b7 {α:Type} [Inhabited α] {n:Nat} (v:Vector α n) (k:Nat):α:=v[k]?.getD default
def h2 {α:Type} {n:Nat} (v:Vector α n) (k:Nat) (x:α):Vector α n:=v.setIfInBounds k x
instance {α:Type} [Inhabited α] {n:Nat} :Inhabited (Vector α n):=⟨Vector.replicate n default⟩
instance aaQ {α:Type} [ag α] [Inhabited α] {n:Nat} :ag (Vector α n) where
 size:=n * ag.size α
 agg:=true
 rep A W cs v:=gi A W cs v.toList
 len h:=by rw [h.1]; simp
 one h:=by
  intro u hu
  obtain⟨j,aG⟩:=List.mem_iff_getElem?.1 hu
  have cb:=(List.getElem?_eq_some_iff.1 aG).1
  have J:=h.1
  by_cases hs:ag.size α=0
  ·rw [hs,Nat.mul_zero] at J; omega
  ·have hp:0 < ag.size α:=Nat.pos_of_ne_zero hs
   have ar:j / ag.size α < _:=(Nat.div_lt_iff_lt_mul hp).2 (by rw [J] at cb; exact cb)
   refine ag.one (h.2 _ ar) u (List.mem_iff_getElem?.2 ⟨j % ag.size α,?_⟩)
   rw [List.getElem?_take,if_pos (Nat.mod_lt _ hp),List.getElem?_drop,Nat.mul_comm,Nat.div_add_mod]
   exact aG
 flat h:=by cases h
 mono e h:=h.mono e
theorem R6 {α:Type} [Inhabited α] {n:Nat} (v:Vector α n) {k:Nat} (h:k < n):b7 v k=v.toList[k]'(by simpa using h):=by simp [b7,h]
theorem GJ {α:Type} [ag α] {A W} {cs ds:List Value} {xs:List α} {x:α} {k:Nat} (h:gi A W cs xs) (au:k < xs.length) (hd:ag.rep A W ds x):
 gi A W (cs.take (k * ag.size α) ++ ds ++ cs.drop (k * ag.size α + ag.size α)) (xs.set k x):=by
 have ao:=h.1
 have aba:=ag.len hd
 have hle:(k + 1) * ag.size α≤xs.length * ag.size α:=Nat.mul_le_mul_right _ au
 rw [Nat.succ_mul] at hle
 refine⟨by simp only [List.length_append,List.length_take,List.length_drop,List.length_set]; omega,fun i ar=> ?_⟩
 rw [List.length_set] at ar
 by_cases e:k=i
 ·subst e
  have:((cs.take (k * ag.size α) ++ ds ++ cs.drop (k * ag.size α + ag.size α)).drop (k * ag.size α)).take (ag.size α)=ds:=by
   rw [List.append_assoc,List.drop_append_of_le_length (by simp only [List.length_take]; omega),List.drop_of_length_le (by simp only [List.length_take]; omega),List.nil_append,
    List.take_append_of_le_length (by omega),List.take_of_length_le (by omega)]
  rw [this]
  simpa using hd
 ·have J:=h.2 i ar
  have:((cs.take (k * ag.size α) ++ ds ++ cs.drop (k * ag.size α + ag.size α)).drop (i * ag.size α)).take (ag.size α)=(cs.drop (i * ag.size α)).take (ag.size α):=by
   apply List.ext_getElem?
   intro j
   simp only [List.getElem?_take,List.getElem?_drop]
   split
   ·rename_i aG
    simp only [List.getElem?_append,List.length_append,List.length_take,List.getElem?_take,List.getElem?_drop]
    rcases Nat.lt_or_gt_of_ne e with ad | ad
    ·have:(k + 1) * ag.size α≤i * ag.size α:=Nat.mul_le_mul_right _ ad
     rw [Nat.succ_mul] at this
     rw [if_neg (by omega)]; congr 1; omega
    ·have:(i + 1) * ag.size α≤k * ag.size α:=Nat.mul_le_mul_right _ ad
     rw [Nat.succ_mul] at this
     rw [if_pos (by omega),if_pos (by omega),if_pos (by omega)]
   ·rfl
  rw [this]
  simpa [List.getElem_set_ne e] using J
def aQ.idx {α:Type} [ag α] [Inhabited α] (n k:Nat) (au:k < n):aQ (Vector α n) α where
 off:=k * ag.size α
 get v:=b7 v k
 set v x:=h2 v k x
 fW:=by
  show k * ag.size α + ag.size α≤n * ag.size α
  rw [← Nat.succ_mul]; exact Nat.mul_le_mul_right _ au
 hX h:=by
  rename_i b
  rw [R6 b au]
  exact h.2 k (by simpa using au)
 kI h hd:=by
  rename_i b ds g
  have:=GJ h (k:=k) (by simpa using au) hd
  show gi _ _ _ (h2 b k g).toList
  rw [show(h2 b k g).toList=b.toList.set k g by simp [h2]]
  exact this
def idx (n:Nat) (i:Int):Option Nat:=if 0≤i∧i < n then some i.toNat else none
theorem da {n:Nat} {i:Int} {k:Nat} (h:idx n i=some k):k < n∧i=k:=by
 unfold idx at h
 split at h
 ·rename_i ar
  simp only [Option.some.injEq] at h
  omega
 ·cases h
section
variable {c:c5} {E:List (Nat × I)} {L:List aJ} {ops:Array Oper} {Q:Exit→Act→World→Prop}
variable {d:Option Tmp} {ty:TypeId} {pos:String} {af:Array Edge} {g:Option (Nat × Bool)}
theorem ch {x:Operand} {τ:I} (h:a7 c E L x τ):b4 c E L ⟨d,.move x,ty,pos,af,g⟩ τ:= .pure fun a W s=>⟨_,rfl,h a W s⟩
theorem eH {x:Operand} {τ:I} (h:a7 c E L x τ):b4 c E L ⟨d,.assign x,ty,pos,af,g⟩ τ:= .pure fun a W s=>⟨_,rfl,h a W s⟩
theorem Em {x y:Operand} {b e:Bool} {p:Prop} (al:a7 c E L x (.of b)) (a5:a7 c E L y (.cond p (.of e))) (hp:b=false→p):
 b4 c E L ⟨d,.pick x (.const (.bool true)) y,ty,pos,af,g⟩ (.of (b || e)):= .pure fun a W s=>by
 have J:=of_bool.1 (al a W s)
 cases b with
 | true=>exact⟨.bool true,by simp only [execOp,J,asBool]; rfl,of_bool.2 rfl⟩
 | false=>
   have ad:=of_bool.1 ((a5 a W s).1 (hp rfl))
   exact⟨.bool e,by simp [execOp,asBool,J,ad],of_bool.2 rfl⟩
theorem pc {x y:Operand} {b e:Bool} {p:Prop} (al:a7 c E L x (.of b)) (a5:a7 c E L y (.cond p (.of e))) (hp:b=true→p):
 b4 c E L ⟨d,.pick x y (.const (.bool false)),ty,pos,af,g⟩ (.of (b && e)):= .pure fun a W s=>by
 have J:=of_bool.1 (al a W s)
 cases b with
 | false=>exact⟨.bool false,by simp only [execOp,J,asBool]; rfl,of_bool.2 rfl⟩
 | true=>
   have ad:=of_bool.1 ((a5 a W s).1 (hp rfl))
   exact⟨.bool e,by simp [execOp,asBool,J,ad],of_bool.2 rfl⟩
theorem k6 {x:Operand} {b:Bool} {t:TypeId} (al:a7 c E L x (.of b)):b4 c E L ⟨d,.unOp .not t x,ty,pos,af,g⟩ (.of (!b)):= .pure fun a W s=>
 ⟨.bool (!b),by simp [execOp,Op.unary,of_bool.1 (al a W s)],of_bool.2 rfl⟩
theorem e9 {x:Operand} {t:TypeId} {i p o:Nat} {β γ:Type} [ag β] [ag γ] {b:β} (l:aQ β γ) {r:γ} (ev:bt c.P t γ) (al:a7 c E L x (.eq (.pointer (some ⟨p,o,none⟩))))
 (an:L[i]? =some ⟨some p,.var b⟩) (a9:o=l.off) (aS:l.get b=r):b4 c E L ⟨d,.load t x,ty,pos,af,g⟩ (.of r):= .pure fun a W s=>by
 subst a9
 subst aS
 obtain⟨jz,er,cs,T,rfl,fE⟩:=s.own _ (List.mem_of_getElem? an)
 have J:cs.toList.length=ag.size β:=ag.len fE
 obtain⟨v,ad,ay⟩:=tO (A:=aL L ++ c.bX) ev er (by have:=l.fW; simp at J; omega) (l.hX fE)
 refine⟨v,?_,ay⟩
 have aU:a.eval x=_:=al a W s
 simp [execOp,Instr.loadAt,Instr.sureAddr,aU,ad]
theorem eh {x:Operand} {t:TypeId} {γ:Type} [ag γ] {r:γ} (ev:bt c.P t γ) (al:a7 c E L x (.ptr r)):b4 c E L ⟨d,.load t x,ty,pos,af,g⟩ (.of r):= .pure fun a W s=>by
 obtain⟨b,off,cur,T,hK,aU,hb,ck,hs,aS⟩:=al a W s
 obtain⟨v,ad,ay⟩:=tO ev ck hs aS
 exact⟨v,by simp [execOp,Instr.loadAt,Instr.sureAddr,aU,ad],ay⟩
structure cj (P:Program) (s:TypeId) (f o:Nat):Prop where
 at_:∃ fs fd i,P.underlying s=some (.struct fs)∧fs[f]? =some fd∧fd.offset=o∧P.info? fd.type=some i∧i.size≠0
theorem KI {P:Program} {s:TypeId} {f o:Nat} (h:cj P s f o) (p off:Nat) (W:World):
 (Instr.fieldAt s (.pointer (some ⟨p,off,none⟩)) f).run P W= .ok (.pointer (some ⟨p,off + o,none⟩)) W:=by
 obtain⟨fs,fd,i,J,ad,ay,aU,a0⟩:=h.at_
 simp [Instr.fieldAt,run_underlying J,ad,Instr.sureAddr,fieldPlace,Go.sizeOf,typeInfo,aU,a0,iC,ay]
theorem aX {x:Operand} {s f o p off:Nat} (fd:cj c.P s f o) (al:a7 c E L x (.eq (.pointer (some ⟨p,off,none⟩)))):
 b4 c E L ⟨d,.fieldAddr s x f,ty,pos,af,g⟩ (.eq (.pointer (some ⟨p,off + o,none⟩))):= .pure fun a W st=>by
 have aU:a.eval x=_:=al a W st
 exact⟨_,by simp [execOp,aU,KI fd],rfl⟩
theorem D4 {x:Operand} {s f o:Nat} {β γ:Type} [ag β] [ag γ] {b:β} (l:aQ β γ) {r:γ} (fd:cj c.P s f o) (al:a7 c E L x (.ptr b)) (a9:l.off=o) (aS:l.get b=r):
 b4 c E L ⟨d,.fieldAddr s x f,ty,pos,af,g⟩ (.ptr r):= .pure fun a W st=>by
 subst a9
 subst aS
 obtain⟨q,off,cur,T,hK,aU,hb,ck,hs,fE⟩:=al a W st
 refine⟨.pointer (some ⟨q,off + l.off,none⟩),by simp [execOp,aU,KI fd],q,off + l.off,cur,T,hK,rfl,hb,ck,by have:=l.fW; omega,?_⟩
 have:=l.hX fE
 rwa [tQ _ _ _ _ _ l.fW] at this
structure oU (P:Program) (t:TypeId) (n s:Nat):Prop where
 at_:∃ e i,P.underlying t=some (.array n e)∧P.info? e=some i∧i.size=s
theorem Ry {P:Program} {t n s:Nat} (h:oU P t n s) (p off:Nat) (k:Nat) (au:k < n) (W:World):
 (Instr.indexAt t (.pointer (some ⟨p,off,none⟩)) (.int .i64 (k:Int))).run P W= .ok (.pointer (some ⟨p,off + k * s,none⟩)) W:=by
 obtain⟨e,i,J,ad,ay⟩:=h.at_
 simp [Instr.indexAt,asIntOf,run_underlying J,Instr.sureAddr,Go.sizeOf,typeInfo,ad,ay,au,iC]
theorem jH {x y:Operand} {t n s p off:Nat} {i:Int} {k:Nat} (aaz:oU c.P t n s) (al:a7 c E L x (.eq (.pointer (some ⟨p,off,none⟩)))) (a5:a7 c E L y (.of i)) (au:k < n∧i=k):
 b4 c E L ⟨d,.indexAddr t x y,ty,pos,af,g⟩ (.eq (.pointer (some ⟨p,off + k * s,none⟩))):= .pure fun a W st=>by
 have aU:a.eval x=_:=al a W st
 have a0:=of_int.1 (a5 a W st)
 obtain⟨bl,rfl⟩:=au
 exact⟨_,by simp [execOp,aU,a0,Ry aaz p off k bl],rfl⟩
theorem ah.alloc {t:TypeId} {rest:List Oper} {bb:Nat} {α:Type} [ag α] {z:α} (gl:cn c.P t z) (aP:Nat.blt bb c.n=true)
 (k:∀ p,ah c ops Q rest ((bb,.eq (.pointer (some ⟨p,0,none⟩))) :: E) (⟨some p,.var z⟩ :: L)):ah c ops Q (⟨some bb,.alloc t,ty,pos,af,none⟩ :: rest) E L:=fun a W s=>by
 obtain⟨i,dY,J,ad,ay⟩:=gl.zero
 refine g9 rfl (R:=fun v W'=>v= .pointer (some ⟨W.heap.size,0,none⟩)∧W'=W.alloc (.cells dY.cells t)) (.kj ?_ ⟨rfl,rfl⟩) fun v W' ⟨a6,hw⟩=> ?_
 ·simp [execOp,Instr.alloc,zeroValue,typeInfo,J,ad,newVar,newRow]
 ·subst a6
  subst hw
  exact k _ _ _ ((s.alloc (cp:= .var z) ⟨dY.cells,t,rfl,(ay _ _).2⟩).put (by simpa using aP) rfl)
theorem zw {P:Program} {t:TypeId} {α:Type} [ag α] {z:α} (gl:cn P t z):JM P ⟨d,.alloc t,ty,pos,af,none⟩ (.var z):=by
 obtain⟨i,dY,J,ad,ay⟩:=gl.zero
 refine⟨rfl,.cells dY.cells t,fun A W=>⟨dY.cells,t,rfl,(ay A W).2⟩,fun a W=> ?_⟩
 simp [execOp,Instr.alloc,zeroValue,typeInfo,J,ad,newVar,newRow]
theorem w2 {x y:Operand} {t:TypeId} {i p o:Nat} {β γ:Type} [ag β] [ag γ] {b b':β} {v:γ} (l:aQ β γ) (ev:bt c.P t γ) (al:a7 c E L x (.eq (.pointer (some ⟨p,o,none⟩))))
 (a5:a7 c E L y (.of v)) (an:L[i]? =some ⟨some p,.var b⟩) (a9:o=l.off) (hb:l.set b v=b'):B4 c E L ⟨none,.store t x y,ty,pos,af,none⟩ p (.var b'):=⟨rfl,rfl,fun a W s=>by
 subst a9
 subst hb
 obtain⟨jz,er,cs,T,rfl,fE⟩:=s.own _ (List.mem_of_getElem? an)
 have J:cs.toList.length=ag.size β:=ag.len fE
 have ef:=l.fW
 have a6:=a5 a W s
 have ad:=y7 (A:=aL L ++ c.bX) ev er (off:=l.off) (by simp at J; omega) a6
 have aU:a.eval x=_:=al a W s
 refine⟨cs,(fH cs.toList l.off (a.eval y).cells.toList).toArray,T,er,?_,?_⟩
 ·simp [execOp,Instr.storeAt,Instr.sureAddr,aU,ad]
 ·refine⟨_,T,rfl,?_⟩
  have:=l.kI fE a6.2
  simpa [fH,ag.len a6.2] using this⟩
theorem ah.box {t:TypeId} {x:Operand} {rest:List Oper} {bb:Nat} {α:Type} [ag α] {z:α} (al:a7 c E L x (.of z)) (aP:Nat.blt bb c.n=true)
 (k:∀ p,ah c ops Q rest ((bb,.eq (.pointer (some ⟨p,0,none⟩))) :: E) (⟨some p,.var z⟩ :: L)):ah c ops Q (⟨some bb,.box t x,ty,pos,af,none⟩ :: rest) E L:=fun a W s=>by
 refine g9 rfl (R:=fun v W'=>v= .pointer (some ⟨W.heap.size,0,none⟩)∧W'=W.alloc (.cells (a.eval x).cells t)) (.kj ?_ ⟨rfl,rfl⟩) fun v W' ⟨a6,hw⟩=> ?_
 ·simp [execOp,Instr.box,newVar,newRow]
 ·subst a6
  subst hw
  exact k _ _ _ ((s.alloc (cp:= .var z) ⟨_,t,rfl,(al a W s).2⟩).put (by simpa using aP) rfl)
theorem ah.store {x y:Operand} {t:TypeId} {rest:List Oper} {i p o:Nat} {β γ:Type} [ag β] [ag γ] {b b':β} {v:γ} (l:aQ β γ) (ev:bt c.P t γ) (al:a7 c E L x (.eq (.pointer (some ⟨p,o,none⟩))))
 (a5:a7 c E L y (.of v)) (an:L[i]? =some ⟨some p,.var b⟩) (a9:o=l.off) (hb:l.set b v=b')
 (k:ah c ops Q rest E (L.set i ⟨some p,.var b'⟩)):ah c ops Q (⟨none,.store t x y,ty,pos,af,none⟩ :: rest) E L:=fun a W s=>by
 subst a9
 subst hb
 obtain⟨jz,er,cs,T,rfl,fE⟩:=s.own _ (List.mem_of_getElem? an)
 have J:cs.toList.length=ag.size β:=ag.len fE
 have ef:=l.fW
 have a6:=a5 a W s
 have ad:=y7 (A:=aL L ++ c.bX) ev er (off:=l.off) (by simp at J; omega) a6
 have aU:a.eval x=_:=al a W s
 refine g9 rfl (R:=fun v W'=>W'=W.setRow p (fH cs.toList l.off (a.eval y).cells.toList).toArray) (.wY ?_ rfl) fun v W' hw=> ?_
 ·simp [execOp,Instr.storeAt,Instr.sureAddr,aU,ad]
 ·subst hw
  refine k _ _ (s.store an er ?_)
  refine⟨_,T,rfl,?_⟩
  have:=l.kI fE a6.2
  simpa [fH,ag.len a6.2] using this
def ha (c:c5) (E:List (Nat × I)) (L:List aJ):List Operand→List I→Prop
 | [],[]=>True
 | x :: xs,τ :: τs=>a7 c E L x τ∧ha c E L xs τs
 | _,_=>False
theorem ha.holds:∀ {xs:List Operand} {τs:List I},ha c E L xs τs→ ∀ a W,bw c E L a W→gb (aL L ++ c.bX) W τs (xs.map a.eval)
 | [],[],_,_,_,_=> .nil
 | x :: xs,τ :: τs,h,a,W,s=> .cons (h.1 a W s) (h.2.holds a W s)
 | [],_ :: _,h,_,_,_=>h.elim
 | _ :: _,[],h,_,_,_=>h.elim
structure bM (P:Program) (f:FuncId):Prop where
 at_:∃ fn,P.funcs[f]? =some fn∧fn.body.isNone=false∧ (fn.name == "runtime.NumGoroutine")=false
theorem bM.run {P:Program} {f:FuncId} (h:bM P f) (args:Array Value) (W:World):(callFunc f args).run P W= .ok (.enter f args) W:=by
 obtain⟨fn,J,ad,ay⟩:=h.at_
 simp only [callFunc,Sem.run_bind,run_program,Result.andThen_ok,J,ay,ad]
 rfl
theorem ly {f:FuncId} {xs:List Operand} {ats:Array TypeId} {τs:List I} {ρ:I} (eg:bM c.P f) (h:bW c.P f τs ρ) (al:ha c E L xs τs):
 b4 c E L ⟨d,.call ⟨.value (.func f),xs.toArray,ats⟩,ty,pos,af,g⟩ ρ:=fun a W s=>by
 refine .uf (f:=f) (args:=(xs.map a.eval).toArray) (W':=W) ?_ (h _ W _ s.DJ (al.holds a W s))
 simp [execOp,resolve,Deferred.ofValue,Act.eval,invoke,eg.run]
theorem qW {P:Program} {W:World} {t off:Nat} {cs:Array Value} {α:Type} [ag α] {A:List Nat} {x:α} (ty:bt P t α) (hs:off + ag.size α≤cs.size)
 (aS:ag.rep A W ((cs.toList.drop off).take (ag.size α)) x):∃ v,(part t cs off).run P W= .ok v W∧ (I.of x).holds A W v:=by
 have ao:=ag.len aS
 cases bd:ag.agg α with
 | true=>
   refine⟨.agg (cs.extract off (off + ag.size α)),?_,?_,?_⟩
   ·simp [part,ty.isAgg,ty.sizeOf,bd]
   ·simp [shaped,bd]
   ·simpa [Value.cells,List.extract,Array.toList_extract] using aS
 | false=>
   have J:ag.size α=1:=ag.flat bd
   have cb:off < cs.size:=by omega
   have ad:(cs.toList.drop off).take (ag.size α)= [cs[off]]:=by
    rw [J]
    apply List.ext_getElem?
    intro j
    rw [List.getElem?_take,List.getElem?_drop]
    cases j with
    | zero=>simp [cb]
    | succ j=>simp
   rw [ad] at aS
   have ay:cs[off].oneCell'=true:=ag.one aS _ (by simp)
   refine⟨cs[off],?_,?_,?_⟩
   ·simp [part,ty.isAgg,bd,cb]
   ·simp [shaped,bd,ay]
   ·rw [oo ay]; simpa using aS
structure JN (P:Program) (s f t o:Nat):Prop where
 at_:∃ fs fd,P.underlying s=some (.struct fs)∧fs[f]? =some fd∧fd.offset=o∧fd.type=t
theorem GZ {x:Operand} {s f t o:Nat} {β γ:Type} [ag β] [ag γ] {b:β} (l:aQ β γ) {r:γ} (aaA:JN c.P s f t o) (ev:bt c.P t γ) (bd:ag.agg β=true) (al:a7 c E L x (.of b)) (a9:l.off=o) (aS:l.get b=r):
 b4 c E L ⟨d,.field s x f,ty,pos,af,g⟩ (.of r):= .pure fun a W st=>by
 subst a9
 subst aS
 obtain⟨J,ad⟩:=al a W st
 simp only [shaped,bd,if_true] at J
 obtain⟨cs,tm⟩:=J
 obtain⟨fs,fd,ay,aU,a0,bl⟩:=aaA.at_
 rw [tm] at ad
 simp only [Value.cells] at ad
 have ao:cs.toList.length=ag.size β:=ag.len ad
 obtain⟨v,cP,eL⟩:=qW (A:=aL L ++ c.bX) (P:=c.P) (W:=W) (cs:=cs) (off:=l.off) ev (by have:=l.fW; simp at ao; omega) (l.hX ad)
 refine⟨v,?_,eL⟩
 simp [execOp,Instr.field,run_underlying ay,aU,tm,asAgg,a0,bl,cP]
theorem m9 {x:Operand} {i:Nat} {τs:List I} {τ:I} (al:a7 c E L x (.eD τs)) (ar:τs[i]? =some τ):b4 c E L ⟨d,.extract x i,ty,pos,af,g⟩ τ:= .pure fun a W st=>by
 obtain⟨vs,J,ad⟩:=al a W st
 have get:∀ {τs:List I} {vs:List Value},gb (aL L ++ c.bX) W τs vs→ ∀ (i:Nat) (τ:I),τs[i]? =some τ→ ∃ v,vs[i]? =some v∧τ.holds (aL L ++ c.bX) W v:=by
  intro τs vs h
  induction h with
  | nil=>intro i τ h; simp at h
  | cons J _ bH=>
    intro i τ h
    cases i with
    | zero=>simp only [List.getElem?_cons_zero,Option.some.injEq] at h; subst h; exact⟨_,rfl,J⟩
    | succ i=>simp only [List.getElem?_cons_succ] at h ⊢; exact bH i τ h
 obtain⟨v,ay,aU⟩:=get ad i τ ar
 refine⟨v,?_,aU⟩
 have a0:vs[i]? =some v:=by simpa using ay
 simp [execOp,Instr.extract,J,a0]
end
def bA (x:Int):Int:=IntKind.i64.wrap x
theorem hA {x:Int} (h: -9223372036854775808≤x) (cX:x≤9223372036854775807):bA x=x:=by
 unfold bA
 rw [IntKind.wrap_i64]
 omega
def s7 (a b:Int):Option Int:=if b=0 then none else some (a.tmod b)
theorem Gp {a b r:Int} (h:s7 a b=some r):b≠0∧a.tmod b=r:=by unfold s7 at h; split at h <;> simp_all
theorem wrap_u8 (n:Int):IntKind.u8.wrap n=n % 256:=by simp [IntKind.wrap,IntKind.signed,IntKind.bits]
theorem wrap_u64 (n:Int):IntKind.u64.wrap n=n % 18446744073709551616:=by simp [IntKind.wrap,IntKind.signed,IntKind.bits]
theorem Uh (P:Program) (W:World) (k JO:IntKind) (a b:Int) (h:0≤b):(Op.shift .shl k a JO b).run P W= .ok (.int k (k.wrap (a * 2 ^ min b.toNat k.bits))) W:=by
 unfold Op.shift
 rw [if_neg (by omega)]
 rfl
theorem Ui (P:Program) (W:World) (k JO:IntKind) (a b:Int) (h:0≤b):(Op.shift .shr k a JO b).run P W= .ok (.int k (a.fdiv (2 ^ min b.toNat k.bits))) W:=by
 unfold Op.shift
 rw [if_neg (by omega)]
 rfl
section
variable {c:c5} {E:List (Nat × I)} {L:List aJ}
variable {d:Option Tmp} {ty:TypeId} {pos:String} {af:Array Edge} {g:Option (Nat × Bool)} {x y:Operand} {t t2:TypeId}
theorem dX {a b:Int} (al:a7 c E L x (.of a)) (a5:a7 c E L y (.of b)):b4 c E L ⟨d,.binOp .add t x y t2,ty,pos,af,g⟩ (.of (bA (a + b))):= .pure fun A W s=>
 ⟨.int .i64 (bA (a + b)),by simp [execOp,eqGuard,binOp,Op.intArith,of_int.1 (al A W s),of_int.1 (a5 A W s),bA],of_int.2 rfl⟩
theorem iE {a b:Int} (al:a7 c E L x (.of a)) (a5:a7 c E L y (.of b)):b4 c E L ⟨d,.binOp .sub t x y t2,ty,pos,af,g⟩ (.of (bA (a - b))):= .pure fun A W s=>
 ⟨.int .i64 (bA (a - b)),by simp [execOp,eqGuard,binOp,Op.intArith,of_int.1 (al A W s),of_int.1 (a5 A W s),bA],of_int.2 rfl⟩
theorem V8 {a b:Int} (al:a7 c E L x (.of a)) (a5:a7 c E L y (.of b)):b4 c E L ⟨d,.binOp .mul t x y t2,ty,pos,af,g⟩ (.of (bA (a * b))):= .pure fun A W s=>
 ⟨.int .i64 (bA (a * b)),by simp [execOp,eqGuard,binOp,Op.intArith,of_int.1 (al A W s),of_int.1 (a5 A W s),bA],of_int.2 rfl⟩
theorem HC {a b r:Int} (al:a7 c E L x (.of a)) (a5:a7 c E L y (.of b)) (h:b≠0∧a.tmod b=r):b4 c E L ⟨d,.binOp .rem t x y t2,ty,pos,af,g⟩ (.of r):= .pure fun A W s=>
 ⟨.int .i64 r,by obtain⟨J,rfl⟩:=h; simp [execOp,eqGuard,binOp,Op.intDiv,of_int.1 (al A W s),of_int.1 (a5 A W s),J],of_int.2 rfl⟩
theorem e1 {a b:Int} (al:a7 c E L x (.of a)) (a5:a7 c E L y (.of b)):b4 c E L ⟨d,.binOp .lss t x y t2,ty,pos,af,g⟩ (.of (decide (a < b))):= .pure fun A W s=>
 ⟨.bool (decide (a < b)),by simp only [execOp,eqGuard,binOp,of_int.1 (al A W s),of_int.1 (a5 A W s)]; rfl,of_bool.2 rfl⟩
theorem Ab {a b:Int} (al:a7 c E L x (.of a)) (a5:a7 c E L y (.of b)):b4 c E L ⟨d,.binOp .leq t x y t2,ty,pos,af,g⟩ (.of (decide (a≤b))):= .pure fun A W s=>
 ⟨.bool (decide (a≤b)),by simp only [execOp,eqGuard,binOp,of_int.1 (al A W s),of_int.1 (a5 A W s)]; rfl,of_bool.2 rfl⟩
theorem qe {a b:Int} (al:a7 c E L x (.of a)) (a5:a7 c E L y (.of b)):b4 c E L ⟨d,.binOp .gtr t x y t2,ty,pos,af,g⟩ (.of (decide (a > b))):= .pure fun A W s=>
 ⟨.bool (decide (a > b)),by simp only [execOp,eqGuard,binOp,of_int.1 (al A W s),of_int.1 (a5 A W s)]; rfl,of_bool.2 rfl⟩
theorem mx {a b:Int} (al:a7 c E L x (.of a)) (a5:a7 c E L y (.of b)):b4 c E L ⟨d,.binOp .geq t x y t2,ty,pos,af,g⟩ (.of (decide (a≥b))):= .pure fun A W s=>
 ⟨.bool (decide (a≥b)),by simp only [execOp,eqGuard,binOp,of_int.1 (al A W s),of_int.1 (a5 A W s)]; rfl,of_bool.2 rfl⟩
theorem gI {a b:Int} (al:a7 c E L x (.of a)) (a5:a7 c E L y (.of b)):b4 c E L ⟨d,.binOp .eql t x y t2,ty,pos,af,g⟩ (.of (a ==b)):= .pure fun A W s=>
 ⟨.bool (a ==b),by simp only [execOp,eqGuard,binOp,of_int.1 (al A W s),of_int.1 (a5 A W s)]; rfl,of_bool.2 rfl⟩
theorem pd {a b:Int} (al:a7 c E L x (.of a)) (a5:a7 c E L y (.of b)):b4 c E L ⟨d,.binOp .neq t x y t2,ty,pos,af,g⟩ (.of (a !=b)):= .pure fun A W s=>
 ⟨.bool (a !=b),by simp only [execOp,eqGuard,binOp,of_int.1 (al A W s),of_int.1 (a5 A W s)]; rfl,of_bool.2 rfl⟩
theorem HE {a b:Bool} (hu:c.P.underlying t=some .bool) (al:a7 c E L x (.of a)) (a5:a7 c E L y (.of b)):b4 c E L ⟨d,.binOp .neq t x y t2,ty,pos,af,g⟩ (.of (a !=b)):= .pure fun A W s=>
 ⟨.bool (a !=b),by
   simp only [execOp,eqGuard,binOp,of_bool.1 (al A W s),of_bool.1 (a5 A W s),Op.equal,Op.maxDepth]
   simp [run_equalIn_bool' W 9999 t a b hu,bne],of_bool.2 rfl⟩
theorem Aa {a b:Int} {ats:Array TypeId} (al:a7 c E L x (.of a)) (a5:a7 c E L y (.of b)):b4 c E L ⟨d,.call ⟨.builtin .min,#[x,y],ats⟩,ty,pos,af,g⟩ (.of (min a b)):= .pure fun A W s=>
 ⟨.int .i64 (min a b),by
   simp [execOp,resolve,invoke,builtin,Builtin.min_,Builtin.min2,of_int.1 (al A W s),of_int.1 (a5 A W s)]
   split <;> omega,of_int.2 rfl⟩
theorem DQ {a b:Int} {ats:Array TypeId} (al:a7 c E L x (.of a)) (a5:a7 c E L y (.of b)):b4 c E L ⟨d,.call ⟨.builtin .max,#[x,y],ats⟩,ty,pos,af,g⟩ (.of (max a b)):= .pure fun A W s=>
 ⟨.int .i64 (max a b),by
   simp [execOp,resolve,invoke,builtin,Builtin.max_,Builtin.max2,of_int.1 (al A W s),of_int.1 (a5 A W s)]
   split <;> omega,of_int.2 rfl⟩
theorem Xa (a:BitVec 8):(a.toNat:Int) < 256:=by have:=a.isLt; omega
theorem Nf {a:BitVec 8} {src dst:TypeId} {e:TypeDesc} (hs:c.P.underlying src=some e) (hd:c.P.underlying dst=some (.int .i64)) (al:a7 c E L x (.of a)):b4 c E L ⟨d,.convert src dst x,ty,pos,af,g⟩ (.of (a.toNat:Int)):= .pure fun A W s=>
 ⟨.int .i64 a.toNat,by
   have h:IntKind.i64.wrap (a.toNat:Int)=(a.toNat:Int):=hA (by omega) (by have:=Xa a; omega)
   simp only [execOp,convert,Sem.run_bind,run_underlying hs,run_underlying hd,Eg.1 (al A W s),Conv.intToInt,Result.andThen_ok,h]; rfl,of_int.2 rfl⟩
theorem z4 (a:BitVec 64):(a.toNat:Int) < 18446744073709551616:=by have:=a.isLt; omega
theorem ofInt_u64 (a:BitVec 64):BitVec.ofInt 64 (a.toNat:Int)=a:=by simp
theorem Uj (a b:BitVec 64):IntKind.u64.wrap ((a.toNat:Int) + (b.toNat:Int))=((a + b).toNat:Int):=by rw [wrap_u64,BitVec.toNat_add]; omega
theorem T9 {a b:BitVec 64} (al:a7 c E L x (.of a)) (a5:a7 c E L y (.of b)):b4 c E L ⟨d,.binOp .add t x y t2,ty,pos,af,g⟩ (.of (a + b)):= .pure fun A W s=>
 ⟨.int .u64 (a + b).toNat,by simp [execOp,eqGuard,binOp,Op.intArith,gn.1 (al A W s),gn.1 (a5 A W s),Uj],gn.2 rfl⟩
theorem Uk (a b:BitVec 64):IntKind.u64.wrap ((a.toNat:Int) - (b.toNat:Int))=((a - b).toNat:Int):=by rw [wrap_u64,BitVec.toNat_sub]; have:=z4 a; have:=z4 b; omega
theorem uk {a b:BitVec 64} (al:a7 c E L x (.of a)) (a5:a7 c E L y (.of b)):b4 c E L ⟨d,.binOp .sub t x y t2,ty,pos,af,g⟩ (.of (a - b)):= .pure fun A W s=>
 ⟨.int .u64 (a - b).toNat,by simp [execOp,eqGuard,binOp,Op.intArith,gn.1 (al A W s),gn.1 (a5 A W s),Uk],gn.2 rfl⟩
theorem qX {a b:BitVec 64} (al:a7 c E L x (.of a)) (a5:a7 c E L y (.of b)):b4 c E L ⟨d,.binOp .and t x y t2,ty,pos,af,g⟩ (.of (a &&& b)):= .pure fun A W s=>
 ⟨.int .u64 (a &&& b).toNat,by
   simp only [execOp,eqGuard,binOp,gn.1 (al A W s),gn.1 (a5 A W s)]
   have h:IntKind.u64.wrap ((a &&& b).toNat:Int)=((a &&& b).toNat:Int):=by rw [wrap_u64]; have:=z4 (a &&& b); omega
   rw [← h]
   conv=>rhs; rw [← ofInt_u64 a,← ofInt_u64 b]
   rfl,gn.2 rfl⟩
theorem w5 {a b:BitVec 64} (al:a7 c E L x (.of a)) (a5:a7 c E L y (.of b)):b4 c E L ⟨d,.binOp .or t x y t2,ty,pos,af,g⟩ (.of (a ||| b)):= .pure fun A W s=>
 ⟨.int .u64 (a ||| b).toNat,by
   simp only [execOp,eqGuard,binOp,gn.1 (al A W s),gn.1 (a5 A W s)]
   have h:IntKind.u64.wrap ((a ||| b).toNat:Int)=((a ||| b).toNat:Int):=by rw [wrap_u64]; have:=z4 (a ||| b); omega
   rw [← h]
   conv=>rhs; rw [← ofInt_u64 a,← ofInt_u64 b]
   rfl,gn.2 rfl⟩
theorem Ma {a b:BitVec 64} (al:a7 c E L x (.of a)) (a5:a7 c E L y (.of b)):b4 c E L ⟨d,.binOp .xor t x y t2,ty,pos,af,g⟩ (.of (a ^^^ b)):= .pure fun A W s=>
 ⟨.int .u64 (a ^^^ b).toNat,by
   simp only [execOp,eqGuard,binOp,gn.1 (al A W s),gn.1 (a5 A W s)]
   have h:IntKind.u64.wrap ((a ^^^ b).toNat:Int)=((a ^^^ b).toNat:Int):=by rw [wrap_u64]; have:=z4 (a ^^^ b); omega
   rw [← h]
   conv=>rhs; rw [← ofInt_u64 a,← ofInt_u64 b]
   rfl,gn.2 rfl⟩
theorem Ul (a:BitVec 64) (n:Nat):IntKind.u64.wrap ((a.toNat:Int) * 2 ^ min n 64)=((a <<< n).toNat:Int):=by
 rw [wrap_u64,BitVec.toNat_shiftLeft,Nat.shiftLeft_eq]
 rcases Nat.lt_or_ge n 64 with h | h
 ·rw [Nat.min_eq_left (by omega)]; simp
 ·rw [Nat.min_eq_right h]
  have e:(a.toNat * 2 ^ n) % 2 ^ 64=0:=by
   rw [show n=64 + (n - 64) by omega,Nat.pow_add]
   exact Nat.mod_eq_zero_of_dvd ⟨a.toNat * 2 ^ (n - 64),by rw [← Nat.mul_assoc,Nat.mul_comm a.toNat,Nat.mul_assoc]⟩
  rw [e]
  have aR:(2:Int) ^ 64=18446744073709551616:=by decide
  rw [aR]; omega
theorem Um (a:BitVec 64) (n:Nat):(a.toNat:Int).fdiv (2 ^ min n 64)=((a >>> n).toNat:Int):=by
 rw [BitVec.toNat_ushiftRight,Nat.shiftRight_eq_div_pow]
 have e:∀ m:Nat,(a.toNat:Int).fdiv (2 ^ m)=((a.toNat / 2 ^ m:Nat):Int):=by
  intro m
  rw [show((2:Int) ^ m)=((2 ^ m:Nat):Int) by simp]
  rw [Int.fdiv_eq_ediv_of_nonneg _ (Int.natCast_nonneg _)]
  exact(Int.natCast_ediv _ _).symm
 rw [e]
 rcases Nat.lt_or_ge n 64 with h | h
 ·rw [Nat.min_eq_left (by omega)]
 ·rw [Nat.min_eq_right h]
  have J:a.toNat / 2 ^ 64=0:=Nat.div_eq_of_lt a.isLt
  have ad:a.toNat / 2 ^ n=0:=Nat.div_eq_of_lt (Nat.lt_of_lt_of_le a.isLt (Nat.pow_le_pow_right (by omega) h))
  rw [J,ad]
theorem ou {a:BitVec 64} {b:BitVec 64} (al:a7 c E L x (.of a)) (a5:a7 c E L y (.of b)):b4 c E L ⟨d,.binOp .shl t x y t2,ty,pos,af,g⟩ (.of (a <<< b.toNat)):= .pure fun A W s=>
 ⟨.int .u64 (a <<< b.toNat).toNat,by
   simp only [execOp,eqGuard,binOp,gn.1 (al A W s),gn.1 (a5 A W s)]
   have h:=Uh c.P W .u64 .u64 a.toNat b.toNat (by omega)
   simp only [Int.toNat_natCast,IntKind.bits,Ul] at h
   exact congrArg (fun r:Result Value=>r.andThen fun v w=> .ok (Next.value v) w) h,gn.2 rfl⟩
theorem p5 {a:BitVec 64} {b:BitVec 64} (al:a7 c E L x (.of a)) (a5:a7 c E L y (.of b)):b4 c E L ⟨d,.binOp .shr t x y t2,ty,pos,af,g⟩ (.of (a >>> b.toNat)):= .pure fun A W s=>
 ⟨.int .u64 (a >>> b.toNat).toNat,by
   simp only [execOp,eqGuard,binOp,gn.1 (al A W s),gn.1 (a5 A W s)]
   have h:=Ui c.P W .u64 .u64 a.toNat b.toNat (by omega)
   simp only [Int.toNat_natCast,IntKind.bits,Um] at h
   exact congrArg (fun r:Result Value=>r.andThen fun v w=> .ok (Next.value v) w) h,gn.2 rfl⟩
theorem L7 {a b:BitVec 64} (al:a7 c E L x (.of a)) (a5:a7 c E L y (.of b)):b4 c E L ⟨d,.binOp .lss t x y t2,ty,pos,af,g⟩ (.of (decide (a < b))):= .pure fun A W s=>
 ⟨.bool (decide (a < b)),by
   simp only [execOp,eqGuard,binOp,gn.1 (al A W s),gn.1 (a5 A W s)]
   have h:decide ((a.toNat:Int) < (b.toNat:Int))=decide (a < b):=by simp [BitVec.lt_def,BitVec.le_def]
   rw [← h]; rfl,of_bool.2 rfl⟩
theorem GX {a b:BitVec 64} (al:a7 c E L x (.of a)) (a5:a7 c E L y (.of b)):b4 c E L ⟨d,.binOp .geq t x y t2,ty,pos,af,g⟩ (.of (decide (a≥b))):= .pure fun A W s=>
 ⟨.bool (decide (a≥b)),by
   simp only [execOp,eqGuard,binOp,gn.1 (al A W s),gn.1 (a5 A W s)]
   have h:decide ((a.toNat:Int)≥ (b.toNat:Int))=decide (a≥b):=by simp [BitVec.lt_def,BitVec.le_def]
   rw [← h]; rfl,of_bool.2 rfl⟩
theorem wU {a b:BitVec 64} (al:a7 c E L x (.of a)) (a5:a7 c E L y (.of b)):b4 c E L ⟨d,.binOp .eql t x y t2,ty,pos,af,g⟩ (.of (a ==b)):= .pure fun A W s=>
 ⟨.bool (a ==b),by
   simp only [execOp,eqGuard,binOp,gn.1 (al A W s),gn.1 (a5 A W s)]
   have h:((a.toNat:Int) ==(b.toNat:Int))=(a ==b):=by
    rw [Bool.eq_iff_iff]; simp [bne]; exact⟨fun h=>BitVec.eq_of_toNat_eq (by omega),fun h=>by rw [h]⟩
   rw [← h]; rfl,of_bool.2 rfl⟩
theorem T8 {a b:BitVec 64} (al:a7 c E L x (.of a)) (a5:a7 c E L y (.of b)):b4 c E L ⟨d,.binOp .neq t x y t2,ty,pos,af,g⟩ (.of (a !=b)):= .pure fun A W s=>
 ⟨.bool (a !=b),by
   simp only [execOp,eqGuard,binOp,gn.1 (al A W s),gn.1 (a5 A W s)]
   have h:((a.toNat:Int) !=(b.toNat:Int))=(a !=b):=by
    rw [Bool.eq_iff_iff]; simp [bne]; exact⟨fun h=>fun e=>h (by rw [e]),fun h=>by intro e; exact h (BitVec.eq_of_toNat_eq (by omega))⟩
   rw [← h]; rfl,of_bool.2 rfl⟩
theorem ir {a:Int} {src dst:TypeId} {e:TypeDesc} (hs:c.P.underlying src=some e) (hd:c.P.underlying dst=some (.int .u64)) (al:a7 c E L x (.of a)):b4 c E L ⟨d,.convert src dst x,ty,pos,af,g⟩ (.of (BitVec.ofInt 64 a)):= .pure fun A W s=>
 ⟨.int .u64 (BitVec.ofInt 64 a).toNat,by
   have h:IntKind.u64.wrap a=((BitVec.ofInt 64 a).toNat:Int):=by rw [wrap_u64,BitVec.toNat_ofInt]; omega
   simp [execOp,convert,run_underlying hs,run_underlying hd,of_int.1 (al A W s),Conv.intToInt,h],gn.2 rfl⟩
theorem T6 {a:BitVec 64} {src dst:TypeId} {e:TypeDesc} (hs:c.P.underlying src=some e) (hd:c.P.underlying dst=some (.int .u8)) (al:a7 c E L x (.of a)):b4 c E L ⟨d,.convert src dst x,ty,pos,af,g⟩ (.of (a.setWidth 8)):= .pure fun A W s=>
 ⟨.int .u8 (a.setWidth 8).toNat,by
   have h:IntKind.u8.wrap (a.toNat:Int)=((a.setWidth 8).toNat:Int):=by rw [wrap_u8,BitVec.toNat_setWidth]; have:=a.isLt; omega
   simp only [execOp,convert,Sem.run_bind,run_underlying hs,run_underlying hd,gn.1 (al A W s),Conv.intToInt,Result.andThen_ok,h]; rfl,Eg.2 rfl⟩
theorem U2 {a:BitVec 64} {src dst:TypeId} {e:TypeDesc} (hs:c.P.underlying src=some e) (hd:c.P.underlying dst=some (.int .i64)) (al:a7 c E L x (.of a)):b4 c E L ⟨d,.convert src dst x,ty,pos,af,g⟩ (.of (bA a.toNat)):= .pure fun A W s=>
 ⟨.int .i64 (bA a.toNat),by
   simp only [execOp,convert,Sem.run_bind,run_underlying hs,run_underlying hd,gn.1 (al A W s),Conv.intToInt,Result.andThen_ok]; rfl,of_int.2 rfl⟩
end
def uA (tmps:Array Value):ResultVar→Sem Value
 | .tmp t=>pure (tmps.getD t undef)
 | .cell a t=>do loadVar t (← asAddr (tmps.getD a undef))
theorem wP (fn:Func) (tmps:Array Value):results fn tmps=(do
 let vs ← fn.results.mapM (uA tmps)
 pure (if h:vs.size=1 then vs[0] else .tuple vs)):=by
 unfold results
 congr 1
section
variable {c:c5} {E:List (Nat × I)} {L:List aJ} {ops:Array Oper} {Q:Exit→Act→World→Prop}
def sa (c:c5) (E:List (Nat × I)) (L:List aJ) (r:ResultVar) (τ:I):Prop:=
 ∀ a W,bw c E L a W→ ∃ v,(uA a.tmps r).run c.P W= .ok v W∧τ.holds c.bX W v
theorem ve {t:Nat} {τ:I} (h:look E t=some τ):sa c E L (.tmp t) τ:=fun a W s=>by
 obtain⟨v,J,ad⟩:=s.env t τ h
 exact⟨v,by simp [uA,J],KO ad⟩
theorem YL {t:Nat} {ty:TypeId} {i p:Nat} {α:Type} [ag α] {x:α} (ev:bt c.P ty α) (h:look E t=some (.eq (.pointer (some ⟨p,0,none⟩)))) (an:L[i]? =some ⟨some p,.var x⟩):sa c E L (.cell t ty) (.of x):=fun a W s=>by
 obtain⟨v,J,ad⟩:=s.env t _ h
 subst ad
 obtain⟨jz,er,cs,T,rfl,fE⟩:=s.own _ (List.mem_of_getElem? an)
 have ao:cs.toList.length=ag.size α:=ag.len fE
 have dW:cs.size=ag.size α:=by simpa using ao
 obtain⟨v,ay,aU⟩:=tO (A:=aL L ++ c.bX) (off:=0) ev er (by omega) (by rw [List.drop_zero,← ao,List.take_length]; exact fE)
 exact⟨v,by simp [uA,J,asAddr,ay],KO aU⟩
def vg (c:c5) (ρ:I):Ending→World→Prop:=fun e W'=> ∃ v,e= .returned v∧Fr c.X c.iP W'∧ρ.holds c.bX W' v
theorem ae.iU {fn:Func} {r:ResultVar} {τ:I} (aS:fn.results= #[r]) (h:sa c E L r τ) (hH:c.ds= []:=by rfl):ae c (bodyPost c.P fn (vg c τ)) .ret E L:=fun a W s=>by
 obtain⟨v,J,ad⟩:=h a W s
 exact⟨s.wQ hH,v,by simp [wP,aS,J],v,rfl,s.dw,ad⟩
theorem ae.En {fn:Func} {r gY:ResultVar} {τ pD:I} (aS:fn.results= #[r,gY]) (h:sa c E L r τ) (ad:sa c E L gY pD) (hH:c.ds= []:=by rfl):ae c (bodyPost c.P fn (vg c (.eD [τ,pD]))) .ret E L:=fun a W s=>by
 obtain⟨v,ay,aU⟩:=h a W s
 obtain⟨v2,a0,bl⟩:=ad a W s
 exact⟨s.wQ hH,.tuple #[v,v2],by simp [wP,aS,ay,a0],_,rfl,s.dw,_,rfl,.cons aU (.cons bl .nil)⟩
theorem ae.On {fn:Func} {r gY pS:ResultVar} {τ pD Pa:I} (aS:fn.results= #[r,gY,pS]) (h:sa c E L r τ) (ad:sa c E L gY pD) (ay:sa c E L pS Pa) (hH:c.ds= []:=by rfl):ae c (bodyPost c.P fn (vg c (.eD [τ,pD,Pa]))) .ret E L:=fun a W s=>by
 obtain⟨v,aU,a0⟩:=h a W s
 obtain⟨v2,bl,cP⟩:=ad a W s
 obtain⟨aaB,eL,fM⟩:=ay a W s
 exact⟨s.wQ hH,.tuple #[v,v2,aaB],by simp [wP,aS,aU,bl,eL],_,rfl,s.dw,_,rfl,.cons a0 (.cons cP (.cons fM .nil))⟩
theorem bW.of {P:Program} {f:FuncId} {fn:Func} {code:Code} {n:Nat} {τs:List I} {ρ:I} (a8:P.funcs[f]? =some fn) (hb:fn.body=some code) (aP:fn.ntmps=n) (hlen:Nat.ble τs.length n=true)
 (h:∀ W A,ai ⟨P,n,W,[],A,none,[]⟩ (bodyPost P fn (vg ⟨P,n,W,[],A,none,[]⟩ ρ)) code (params 0 τs) []):bW P f τs ρ:=bW.enter a8 hb aP hlen h
end
structure lP (P:Program) (t:TypeId) (α:Type) [ag α] [DecidableEq α] (k:Nat):Prop where
 run:∀ d,k≤d→ ∀ A W u v (x y:α),(I.of x).holds A W u→ (I.of y).holds A W v→ (Op.equalIn d t u v).run P W= .ok (decide (x=y)) W
theorem Mg {P t K} (h:P.underlying t=some (.int K)):lP P t Int 1 where
 run d hd A W u v x y al a5:=by
  obtain⟨d,rfl⟩:∃ e,d=e + 1:=⟨d - 1,by omega⟩
  rw [of_int.1 al,of_int.1 a5,run_equalIn_int W d t .i64 K x y h]
  congr 1
theorem Un {P t K} (h:P.underlying t=some (.int K)):lP P t (BitVec 64) 1 where
 run d hd A W u v x y al a5:=by
  obtain⟨d,rfl⟩:∃ e,d=e + 1:=⟨d - 1,by omega⟩
  rw [gn.1 al,gn.1 a5,run_equalIn_int W d t .u64 K _ _ h]
  congr 1
  rw [Bool.eq_iff_iff]; simp only [beq_iff_eq,decide_eq_true_eq]
  exact⟨fun h=>BitVec.eq_of_toNat_eq (by omega),fun h=>by rw [h]⟩
theorem TD {P t} (h:P.underlying t=some .bool):lP P t Bool 1 where
 run d hd A W u v x y al a5:=by
  obtain⟨d,rfl⟩:∃ e,d=e + 1:=⟨d - 1,by omega⟩
  rw [of_bool.1 al,of_bool.1 a5,run_equalIn_bool' W d t x y h]
  congr 1
theorem F7 {P:Program} {W:World} (f:Nat→Sem Bool) (p:Nat→Bool):∀ (l:List Nat),(∀ i∈l,(f i).run P W= .ok (p i) W)→
 (forIn (m:=Sem) l ((none,()):Option Bool × Unit) (fun i _=>do
  let __do_lift ← f i
  if (!__do_lift)=true then pure (ForInStep.done (some false,())) else
   pure (ForInStep.yield (none,())))).run P W= .ok (if l.all p then(none,()) else(some false,())) W
 | [],_=>by simp
 | i :: r,h=>by
   have J:=h i (by simp)
   have ad:=F7 (P:=P) (W:=W) f p r (fun j aG=>h j (by simp [aG]))
   cases hp:p i with
   | false=>simp [List.forIn_cons,J,hp]
   | true=>
     rw [List.forIn_cons]
     simp only [Sem.run_bind,J,hp,Result.andThen_ok,Bool.not_true,Bool.false_eq_true,if_false,Sem.run_pure]
     rw [ad]
     simp [hp]
theorem Mh {P t e n k} {α:Type} [ag α] [Inhabited α] [DecidableEq α] (h:P.underlying t=some (.array n e)) (ew:bt P e α) (he:lP P e α k):lP P t (Vector α n) (k + 1) where
 run d hd A W u v x y al a5:=by
  obtain⟨d,rfl⟩:∃ e,d=e + 1:=⟨d - 1,by omega⟩
  obtain⟨J,ad⟩:=al
  obtain⟨ay,aU⟩:=a5
  obtain⟨xs,rfl⟩:∃ cs,u= .agg cs:=by simpa [shaped,ag.agg] using J
  obtain⟨ys,rfl⟩:∃ cs,v= .agg cs:=by simpa [shaped,ag.agg] using ay
  simp only [Value.cells] at ad aU
  have rV:xs.toList.length=n * ag.size α:=ag.len ad
  have Bu:ys.toList.length=n * ag.size α:=ag.len aU
  have rr:∀ i∈List.range' 0 n,((do
   let a ← part e xs (i * ag.size α)
   let b ← part e ys (i * ag.size α)
   Op.equalIn d e a b):Sem Bool).run P W= .ok (decide (b7 x i=b7 y i)) W:=by
   intro i ar
   have gp:i < n:=by simpa using ar
   have ef:i * ag.size α + ag.size α≤n * ag.size α:=(aQ.idx (α:=α) n i gp).fW
   obtain⟨a,bd,rW⟩:=qW (A:=A) (P:=P) (W:=W) (cs:=xs) (off:=i * ag.size α) ew (by simp at rV; omega) ((aQ.idx (α:=α) n i gp).hX ad)
   obtain⟨b,hb,Bv⟩:=qW (A:=A) (P:=P) (W:=W) (cs:=ys) (off:=i * ag.size α) ew (by simp at Bu; omega) ((aQ.idx (α:=α) n i gp).hX aU)
   simp only [Sem.run_bind,bd,hb,Result.andThen_ok]
   exact he.run d (by omega) A W a b _ _ rW Bv
  have a8:=F7 (P:=P) (W:=W) _ _ _ rr
  have j3:(List.range' 0 n).all (fun i=>decide (b7 x i=b7 y i))=decide (x=y):=by
   rw [Bool.eq_iff_iff,List.all_eq_true,decide_eq_true_eq]
   constructor
   ·intro h
    apply Vector.ext
    intro i ar
    have:=h i (by simpa using ar)
    simpa [b7,ar] using this
   ·rintro rfl i _
    simp
  rw [j3] at a8
  simp only [Op.equalIn,Sem.run_bind,run_underlying h,Result.andThen_ok,ew.sizeOf,Std.Legacy.Range.forIn_eq_forIn_range']
  simp only [Std.Legacy.Range.size,Nat.sub_zero,Nat.add_one_sub_one,Nat.div_one] at a8 ⊢
  simp only [bind_assoc] at a8
  rw [a8]
  by_cases Bw:x=y
  ·simp [Bw]
  ·simp [Bw]
section
variable {c:c5} {E:List (Nat × I)} {L:List aJ} {ops:Array Oper} {Q:Exit→Act→World→Prop}
variable {d:Option Tmp} {ty:TypeId} {pos:String} {af:Array Edge} {g:Option (Nat × Bool)} {x y:Operand} {t t2:TypeId}
theorem HD {α:Type} [ag α] [DecidableEq α] {k:Nat} {a b:α} (vZ:lP c.P t α k) (au:Nat.ble k 10000=true) (bE:c.P.eqGuardType c.P.depth t=false) (bd:ag.agg α=true) (al:a7 c E L x (.of a)) (a5:a7 c E L y (.of b)):
 b4 c E L ⟨d,.binOp .eql t x y t2,ty,pos,af,g⟩ (.of (decide (a=b))):= .pure fun A W s=>by
 have J:=al A W s
 have ad:=a5 A W s
 obtain⟨xs,g4⟩:∃ cs,A.eval x= .agg cs:=by simpa [shaped,bd] using J.1
 obtain⟨ys,tn⟩:∃ cs,A.eval y= .agg cs:=by simpa [shaped,bd] using ad.1
 have ay:=vZ.run 10000 (Nat.le_of_ble_eq_true au) _ W _ _ a b J ad
 rw [g4,tn] at ay
 refine⟨.bool (decide (a=b)),?_,of_bool.2 rfl⟩
 simp only [execOp,g4,tn,Sem.run_bind,run_eqGuard_agg W .eql t x y xs ys bE,Result.andThen_ok,run_eql_struct,ay,Sem.run_pure]
theorem HL {α:Type} [ag α] [DecidableEq α] {k:Nat} {a b:α} (vZ:lP c.P t α k) (au:Nat.ble k 10000=true) (bE:c.P.eqGuardType c.P.depth t=false) (bd:ag.agg α=true) (al:a7 c E L x (.of a)) (a5:a7 c E L y (.of b)):
 b4 c E L ⟨d,.binOp .neq t x y t2,ty,pos,af,g⟩ (.of (!decide (a=b))):= .pure fun A W s=>by
 have J:=al A W s
 have ad:=a5 A W s
 obtain⟨xs,g4⟩:∃ cs,A.eval x= .agg cs:=by simpa [shaped,bd] using J.1
 obtain⟨ys,tn⟩:∃ cs,A.eval y= .agg cs:=by simpa [shaped,bd] using ad.1
 have ay:=vZ.run 10000 (Nat.le_of_ble_eq_true au) _ W _ _ a b J ad
 rw [g4,tn] at ay
 refine⟨.bool (!decide (a=b)),?_,of_bool.2 rfl⟩
 simp only [execOp,g4,tn,Sem.run_bind,run_eqGuard_agg W .neq t x y xs ys bE,Result.andThen_ok,run_neq_struct,ay,Sem.run_pure]
end
theorem Mi {P:Program} {W:World} {d:Nat} {xs ys:Array Value} :(Op.eqFields d xs ys []).run P W= .ok true W:=rfl
theorem ug {P:Program} {A:List Nat} {W:World} {d:Nat} {xs ys:Array Value} {β γ:Type} [ag β] [ag γ] [DecidableEq γ] (l:aQ β γ) {JP JQ:β} {fd:Field} {fs:List Field} {k:Nat} {r:Bool} (ew:bt P fd.type γ) (a9:fd.offset=l.off) (aP:(fd.name == "_")=false)
 (vZ:lP P fd.type γ k) (hd:k≤d) (al:ag.rep A W xs.toList JP) (a5:ag.rep A W ys.toList JQ) (aS:(Op.eqFields d xs ys fs).run P W= .ok r W):
 (Op.eqFields d xs ys (fd :: fs)).run P W= .ok (decide (l.get JP=l.get JQ) && r) W:=by
 have rV:xs.toList.length=ag.size β:=ag.len al
 have Bu:ys.toList.length=ag.size β:=ag.len a5
 have ef:=l.fW
 obtain⟨a,bd,rW⟩:=qW (A:=A) (P:=P) (W:=W) (cs:=xs) (off:=l.off) ew (by simp at rV; omega) (l.hX al)
 obtain⟨b,hb,Bv⟩:=qW (A:=A) (P:=P) (W:=W) (cs:=ys) (off:=l.off) ew (by simp at Bu; omega) (l.hX a5)
 have rX:fd.name≠ "_" :=fun e=>by rw [e] at aP; simp at aP
 simp only [Op.eqFields,if_pos rX,Sem.run_bind,a9,bd,hb,Result.andThen_ok,vZ.run d hd A W a b _ _ rW Bv]
 by_cases h:l.get JP=l.get JQ
 ·simp [h,aS]
 ·simp [h]
theorem KQ {P:Program} {t:TypeId} {β:Type} [ag β] [DecidableEq β] {k:Nat} {fs:Array Field} (bd:ag.agg β=true) (hu:P.underlying t=some (.struct fs)) (hp:P.stoodInHeld t=false)
 (h:∀ d,k≤d→ ∀ A W (xs ys:Array Value) (x y:β),ag.rep A W xs.toList x→ag.rep A W ys.toList y→ (Op.eqFields d xs ys fs.toList).run P W= .ok (decide (x=y)) W):lP P t β (k + 1) where
 run d hd A W u v x y al a5:=by
  obtain⟨d,rfl⟩:∃ e,d=e + 1:=⟨d - 1,by omega⟩
  obtain⟨xs,rfl⟩:∃ cs,u= .agg cs:=by simpa [shaped,bd] using al.1
  obtain⟨ys,rfl⟩:∃ cs,v= .agg cs:=by simpa [shaped,bd] using a5.1
  have a8:P.fieldsOf t=fs:=by simp [Program.fieldsOf,hu]
  rw [run_equalIn_struct W d t xs ys (by rw [a8]; exact hu) hp,a8]
  exact h d (by omega) A W xs ys x y (by simpa [Value.cells] using al.2) (by simpa [Value.cells] using a5.2)
theorem Kt {P:Program} {W:World} (fs:Array Field) (h:fs.all (fun f=>(P.info? f.type).isSome)=true):
 (fs.mapM (m:=Sem) fun f=>do pure (f.offset,← Go.sizeOf f.type)).run P W= .ok (fs.map fun f=>(f.offset,P.cellsOf f.type)) W:=by
 obtain⟨l⟩:=fs
 have key:∀ (l:List Field),l.all (fun f=>(P.info? f.type).isSome)=true→ (l.mapM (m:=Sem) fun f=>do pure (f.offset,← Go.sizeOf f.type)).run P W= .ok (l.map fun f=>(f.offset,P.cellsOf f.type)) W:=by
  intro l
  induction l with
  | nil=>intro _; rfl
  | cons f r bH=>
    intro h
    simp only [List.all_cons,Bool.and_eq_true] at h
    obtain⟨i,ar⟩:=Option.isSome_iff_exists.1 h.1
    rw [List.mapM_cons]
    simp only [Sem.run_bind,Go.sizeOf,typeInfo,run_program,Result.andThen_ok,ar,Sem.run_pure]
    have:=bH h.2
    simp only [Sem.run_bind,Go.sizeOf,typeInfo] at this
    rw [this]
    simp [Program.cellsOf,ar]
 have cX:l.all (fun f=>(P.info? f.type).isSome)=true:=by simpa using h
 rw [List.mapM_toArray]
 simp only [Sem.run_map,key l cX,Result.andThen_ok]
 simp
theorem R7 (ds:List Value) (off:Nat):∀ (j:Nat) (cs:Array Value),off + j + ds.length≤cs.size→
 (ds.zipIdx j).foldl (fun cs (c,j)=>cs.setIfInBounds (off + j) c) cs=(cs.toList.take (off + j) ++ ds ++ cs.toList.drop (off + j + ds.length)).toArray:=by
 induction ds with
 | nil=>intro j cs _; simp
 | cons v r bH=>
   intro j cs h
   simp only [List.length_cons] at h
   rw [List.zipIdx_cons,List.foldl_cons,bH (j + 1) _ (by simp; omega)]
   simp only [Array.toList_setIfInBounds]
   have:=list_seg_step cs.toList (off + j) v r (by simp; omega)
   rw [show off + (j + 1)=off + j + 1 by omega]
   simp only [List.length_cons]
   rw [this]
theorem Dk {place:Nat→Option (Nat × Nat)} {cs:Array Value} {i off sz:Nat} {v:Value} {rest:List (Nat × Value)} (hp:place i=some (off,sz)) (a6:v.cells.size=sz) (hle:off + sz≤cs.size):
 Instr.fill place cs ((i,v) :: rest)=Instr.fill place (fH cs.toList off v.cells.toList).toArray rest:=by
 simp only [Instr.fill,hp]
 rw [if_neg (by simp [a6]; omega)]
 have:=R7 v.cells.toList off 0 cs (by simp [a6]; omega)
 simp only [Nat.add_zero] at this
 congr 1
 rw [← Array.foldl_toList]
 have df:(v.cells.zipIdx).toList=v.cells.toList.zipIdx:=by simp
 rw [df,this]
 simp [fH]
section
variable {c:c5} {E:List (Nat × I)} {L:List aJ} {ops:Array Oper} {Q:Exit→Act→World→Prop}
variable {d:Option Tmp} {ty:TypeId} {pos:String} {af:Array Edge} {g:Option (Nat × Bool)} {x y:Operand} {t t2:TypeId}
inductive qh (c:c5) (E:List (Nat × I)) (L:List aJ) (place:Nat→Option (Nat × Nat)) {β:Type} [ag β]:β→List (Nat × Operand)→β→Prop
 | nil {b} :qh c E L place b [] b
 | cons {b dE b':β} {γ:Type} [ag γ] {v:γ} {i:Nat} {x:Operand} {r:List (Nat × Operand)} (l:aQ β γ):place i=some (l.off,ag.size γ)→a7 c E L x (.of v)→l.set b v=dE→qh c E L place dE r b'→qh c E L place b ((i,x) :: r) b'
theorem qh.run {place:Nat→Option (Nat × Nat)} {β:Type} [ag β] {b b':β} {br:List (Nat × Operand)} (h:qh c E L place b br b'):∀ a W,bw c E L a W→ ∀ cs:Array Value,ag.rep (aL L ++ c.bX) W cs.toList b→
 ∃ dN,Instr.fill place cs (br.map fun(i,x)=>(i,a.eval x))=some dN∧ag.rep (aL L ++ c.bX) W dN.toList b':=by
 induction h with
 | nil=>intro a W s cs aS; exact⟨cs,rfl,aS⟩
 | @cons b dE b' γ _ v i x r l J ad ay _ bH=>
   intro a W s cs aS
   subst ay
   have a6:=ad a W s
   have dW:(a.eval x).cells.size=ag.size γ:=by have:=ag.len a6.2; simpa using this
   have ao:cs.toList.length=ag.size β:=ag.len aS
   have ef:=l.fW
   rw [List.map_cons,Dk J dW (by simp at ao; omega)]
   refine bH a W s _ ?_
   have:=l.kI aS a6.2
   simpa [fH,ag.len a6.2] using this
structure g7 (P:Program) (t:TypeId) (pl:Array (Nat × Nat)):Prop where
 at_:∃ fs,P.underlying t=some (.struct fs)∧fs.all (fun f=>(P.info? f.type).isSome)=true∧ (fs.map fun f=>(f.offset,P.cellsOf f.type))=pl
theorem cW {β:Type} [ag β] {z b:β} {br:List (Nat × Operand)} {pl:Array (Nat × Nat)} (bd:ag.agg β=true) (B5:g7 c.P t pl) (gl:cn c.P t z)
 (a8:qh c E L (pl[·]?) z br b):b4 c E L ⟨d,.build t br.toArray,ty,pos,af,g⟩ (.of b):= .pure fun a W s=>by
 obtain⟨fs,hu,hs,rfl⟩:=B5.at_
 obtain⟨i,dY,J,ad,ay⟩:=gl.zero
 obtain⟨dN,aU,a0⟩:=a8.run a W s dY.cells (ay _ _).2
 refine⟨.agg dN,?_,by simp [shaped,bd],by simpa [Value.cells] using a0⟩
 have hm:(br.toArray.map fun(x:Nat × Operand)=>(x.1,a.eval x.2)).toList=br.map fun(i,x)=>(i,a.eval x):=by simp
 simp only [execOp,Instr.build,Sem.run_bind,zeroValue,typeInfo,run_program,Result.andThen_ok,J,ad,Sem.run_pure,run_underlying hu,Kt fs hs]
 rw [hm,aU]
 rfl
theorem Tu {β:Type} [ag β] {z b:β} {br:List (Nat × Operand)} {n e sz:Nat} (bd:ag.agg β=true) (hu:c.P.underlying t=some (.array n e)) (hs:(c.P.info? e).map (·.size)=some sz) (gl:cn c.P t z)
 (a8:qh c E L (fun i=>some (i * sz,sz)) z br b):b4 c E L ⟨d,.build t br.toArray,ty,pos,af,g⟩ (.of b):= .pure fun a W s=>by
 obtain⟨i,dY,J,ad,ay⟩:=gl.zero
 obtain⟨fN,eb,dW⟩:∃ fN,c.P.info? e=some fN∧fN.size=sz:=by
  cases ar:c.P.info? e with
  | none=>simp [ar] at hs
  | some fN=>exact⟨fN,rfl,by simpa [ar] using hs⟩
 obtain⟨dN,aU,a0⟩:=a8.run a W s dY.cells (ay _ _).2
 refine⟨.agg dN,?_,by simp [shaped,bd],by simpa [Value.cells] using a0⟩
 have hm:(br.toArray.map fun(x:Nat × Operand)=>(x.1,a.eval x.2)).toList=br.map fun(i,x)=>(i,a.eval x):=by simp
 simp only [execOp,Instr.build,Sem.run_bind,zeroValue,typeInfo,run_program,Result.andThen_ok,J,ad,Sem.run_pure,run_underlying hu,Go.sizeOf,eb,dW]
 rw [hm,aU]
 rfl
end
def nx {α:Type} [ag α] (A:List Nat) (W:World) (v:Value) (xs:List α):Prop:=
 (v= .slice none 0 0∧xs= [])∨
 ∃ b off cap cur T hK,v= .slice (some ⟨b,off,none⟩) xs.length cap∧b ∉ A∧W.heap[b]? =some (.cells cur T hK)∧xs.length≤cap∧xs.length≤maxLen∧off + xs.length * ag.size α≤cur.size∧
   gi A W ((cur.toList.drop off).take (xs.length * ag.size α)) xs
theorem nx.mono {α:Type} [ag α] {A W c0 W' v} {xs:List α} (e:Ext A W c0 W') (h:nx A W v xs):nx c0 W' v xs:=by
 rcases h with h | ⟨b,off,cap,cur,T,hK,J,ad,ay,aU,a0,bl,cP⟩
 ·exact .inl h
 ·have cb:b < W.heap.size:=(Array.getElem?_eq_some_iff.1 ay).1
  exact .inr ⟨b,off,cap,cur,T,hK,J,fun hm=>ad (e.new b hm cb),by rw [e.block b cb ad]; exact ay,aU,a0,bl,cP.mono e⟩
instance aaR {α:Type} [ag α]:ag (List α) where
 size:=1
 agg:=false
 rep A W cs xs:= ∃ v,cs= [v]∧nx A W v xs
 len h:=by obtain⟨v,rfl,_⟩:=h; rfl
 one h:=by
  obtain⟨v,rfl,h⟩:=h
  intro u hu
  rw [List.mem_singleton.1 hu]
  rcases h with⟨rfl,_⟩ | ⟨b,off,cap,cur,T,hK,rfl,_⟩ <;> rfl
 flat _:=rfl
 mono e h:=let⟨v,J,ad⟩:=h; ⟨v,J,ad.mono e⟩
theorem nx.one {α:Type} [ag α] {A W v} {xs:List α} (h:nx A W v xs):v.oneCell'=true:=by
 rcases h with⟨rfl,_⟩ | ⟨b,off,cap,cur,T,hK,rfl,_⟩ <;> rfl
theorem mu {α:Type} [ag α] {A W v} {xs:List α} :(I.of xs).holds A W v↔nx A W v xs:=by
 constructor
 ·rintro ⟨J,u,ad,ay⟩
  have:v=u:=nG J ad
  rw [this]; exact ay
 ·intro h
  exact⟨h.one,v,by rw [oo h.one],h⟩
def aI {α:Type} [Inhabited α] (xs:List α) (k:Nat):α:=xs[k]?.getD default
theorem eV {α:Type} [Inhabited α] (xs:List α) {k:Nat} (h:k < xs.length):aI xs k=xs[k]:=by simp [aI,h]
def uz {α:Type} (xs:List α) (lo ar:Int):Option (List α):=if 0≤lo∧lo≤ar∧ar≤xs.length then some ((xs.drop lo.toNat).take (ar.toNat - lo.toNat)) else none
theorem R8 {α:Type} {xs r:List α} {lo ar:Int} (h:uz xs lo ar=some r):∃ a b:Nat,lo=a∧ar=b∧a≤b∧b≤xs.length∧r=(xs.drop a).take (b - a):=by
 unfold uz at h
 split at h
 ·rename_i ak
  simp only [Option.some.injEq] at h
  exact⟨lo.toNat,ar.toNat,by omega,by omega,by omega,by omega,h.symm⟩
 ·cases h
def hQ {α:Type} (bytes:Nat) (xs ys:List α):Option (List α):=if (xs.length + ys.length) * bytes≤140737488355328∧xs.length + ys.length≤maxLen then some (xs ++ ys) else none
theorem K8 {α:Type} {bytes:Nat} {xs ys r:List α} (h:hQ bytes xs ys=some r):(xs.length + ys.length) * bytes≤140737488355328∧xs.length + ys.length≤maxLen∧r=xs ++ ys:=by
 unfold hQ at h
 split at h
 ·rename_i ak; simp only [Option.some.injEq] at h; exact⟨ak.1,ak.2,h.symm⟩
 ·cases h
section
variable {c:c5} {E:List (Nat × I)} {L:List aJ} {ops:Array Oper} {Q:Exit→Act→World→Prop}
variable {d:Option Tmp} {ty:TypeId} {pos:String} {af:Array Edge} {g:Option (Nat × Bool)} {x y:Operand} {t t2:TypeId}
theorem look_nil {α:Type} [ag α]:a7 c E L (.const (.slice none 0 0)) (.of ([]:List α)):=fun _ _ _=>mu.2 (.inl ⟨rfl,rfl⟩)
theorem nx.len {α:Type} [ag α] {A W v} {xs:List α} (h:nx A W v xs):∃ a cap,v= .slice a xs.length cap:=by
 rcases h with⟨rfl,rfl⟩ | ⟨b,off,cap,cur,T,hK,rfl,_⟩
 ·exact⟨none,0,rfl⟩
 ·exact⟨_,_,rfl⟩
theorem eT {α:Type} [ag α] {xs:List α} {e:TypeId} (hu:c.P.underlying t=some (.slice e)) (al:a7 c E L x (.of xs)):b4 c E L ⟨d,.call ⟨.builtin .len,#[x],#[t]⟩,ty,pos,af,g⟩ (.of (xs.length:Int)):= .pure fun a W s=>by
 obtain⟨b,cap,J⟩:=(mu.1 (al a W s)).len
 exact⟨.int .i64 xs.length,by simp [execOp,resolve,invoke,builtin,Builtin.len_,J,run_underlying hu,goInt],of_int.2 rfl⟩
theorem ri {α:Type} [ag α] [Inhabited α] {xs:List α} {e:TypeId} {i:Int} {k:Nat} (hu:c.P.underlying t=some (.slice e)) (ew:bt c.P e α) (al:a7 c E L x (.of xs)) (a5:a7 c E L y (.of i)) (au:k < xs.length∧i=k):
 b4 c E L ⟨d,.indexAddr t x y,ty,pos,af,g⟩ (.ptr (aI xs k)):= .pure fun a W s=>by
 obtain⟨bl,rfl⟩:=au
 have a0:=of_int.1 (a5 a W s)
 rcases mu.1 (al a W s) with⟨_,rfl⟩ | ⟨b,off,cap,cur,T,hK,J,ad,ay,aU,cP,eL,fM⟩
 ·simp at bl
 ·obtain⟨fN,eb,dW⟩:=ew.info
  have hle:(k + 1) * ag.size α≤xs.length * ag.size α:=Nat.mul_le_mul_right _ bl
  rw [Nat.succ_mul] at hle
  refine⟨.pointer (some ⟨b,off + k * ag.size α,none⟩),?_,b,off + k * ag.size α,cur,T,hK,rfl,ad,ay,by omega,?_⟩
  ·simp [execOp,Instr.indexAt,asIntOf,run_underlying hu,J,a0,bl,Go.sizeOf,typeInfo,eb,dW,iC]
  ·have:=fM.2 k bl
   rw [tQ _ _ _ _ _ hle] at this
   rw [eV xs bl]
   exact this
theorem om {P:Program} {W:World} {v:Value} {k:IntKind} {n m:Nat} {code:BoundsCode} (h:n≤m) (a6:v= .int k n):(Instr.sliceBound v m code).run P W= .ok n W:=by
 subst a6
 have bG:(n:Int)≤ (m:Int):=by omega
 simp [Instr.sliceBound,asIntOf,h]
theorem Uo {α:Type} [ag α] {A W} {xs:List α} {b off cap:Nat} {cur:Array Value} {T:TypeId} {hK:Nat × Nat} {lo ar:Nat} (ad:b ∉ A) (ay:W.heap[b]? =some (.cells cur T hK)) (aU:xs.length≤cap) (cP:xs.length≤maxLen)
 (eL:off + xs.length * ag.size α≤cur.size) (fM:gi A W ((cur.toList.drop off).take (xs.length * ag.size α)) xs) (h:lo≤ar) (cX:ar≤xs.length):
 nx A W (.slice (some (if cap=lo then⟨b,off,none⟩ else⟨b,off + lo * ag.size α,none⟩)) (ar - lo) (cap - lo)) ((xs.drop lo).take (ar - lo)):=by
 have ao:((xs.drop lo).take (ar - lo)).length=ar - lo:=by simp; omega
 have hm:ar * ag.size α≤xs.length * ag.size α:=Nat.mul_le_mul_right _ cX
 have mc:lo * ag.size α≤ar * ag.size α:=Nat.mul_le_mul_right _ h
 have hd:(ar - lo) * ag.size α=ar * ag.size α - lo * ag.size α:=Nat.sub_mul _ _ _
 by_cases e:cap=lo
 ·subst e
  have bG:ar=cap:=by omega
  subst bG
  refine .inr ⟨b,off,ar - ar,cur,T,hK,by simp,ad,ay,by simp,by simp,by simp; omega,?_⟩
  simp only [Nat.sub_self,List.take_zero,List.length_nil,Nat.zero_mul]
  exact⟨by simp,fun i ar=>by simp at ar⟩
 ·rw [if_neg e]
  refine .inr ⟨b,off + lo * ag.size α,cap - lo,cur,T,hK,by rw [ao],ad,ay,by omega,by omega,by rw [ao]; omega,?_⟩
  rw [ao]
  refine⟨by simp only [ao,List.length_take,List.length_drop]; simp; omega,fun i gp=> ?_⟩
  rw [ao] at gp
  have jt:=fM.2 (lo + i) (by omega)
  have hle:(lo + i + 1) * ag.size α≤xs.length * ag.size α:=Nat.mul_le_mul_right _ (by omega)
  have EC:(i + 1) * ag.size α≤ (ar - lo) * ag.size α:=Nat.mul_le_mul_right _ (by omega)
  rw [Nat.succ_mul] at hle EC
  rw [tQ _ _ _ _ _ hle] at jt
  rw [tQ _ _ _ _ _ EC]
  have:((xs.drop lo).take (ar - lo))[i]'(by rw [ao]; exact gp)=xs[lo + i]:=by simp
  rw [this]
  rw [show off + lo * ag.size α + i * ag.size α=off + (lo + i) * ag.size α by rw [Nat.add_mul]; omega]
  exact jt
inductive tu (c:c5) (E:List (Nat × I)) (L:List aJ):Option Operand→Int→Int→Prop
 | none {n} :tu c E L .none n n
 | some {x i n} :a7 c E L x (.of (i:Int))→tu c E L (.some x) i n
theorem L4 {α:Type} [ag α] {xs r:List α} {e:TypeId} {lo ar:Option Operand} {i j:Int} (hu:c.P.underlying t=some (.slice e)) (ew:bt c.P e α) (al:a7 c E L x (.of xs)) (fR:tu c E L lo i 0) (dm:tu c E L ar j xs.length)
 (h:uz xs i j=some r):b4 c E L ⟨d,.slice t x lo ar none,ty,pos,af,g⟩ (.of r):= .pure fun a W s=>by
 obtain⟨m,n,rfl,rfl,rP,aP,rfl⟩:=R8 h
 obtain⟨fN,eb,dW⟩:=ew.info
 rcases mu.1 (al a W s) with⟨J,rfl⟩ | ⟨b,off,cap,cur,T,hK,J,ad,ay,aU,cP,eL,fM⟩
 ·have qt:n=0:=by simpa using aP
  have gO:m=0:=by omega
  subst qt
  subst gO
  refine⟨.slice none 0 0,?_,mu.2 (.inl ⟨rfl,by simp⟩)⟩
  have an:(match lo.map a.eval with | some v=>Instr.sliceBound v 0 .sliceB | none=>pure 0:Sem Nat).run c.P W= .ok 0 W:=by
   cases fR with
   | none=>rfl
   | some ao=>exact om (Nat.le_refl _) (of_int.1 (ao a W s))
  have jc:(match ar.map a.eval,(none:Option Value) with | some v,some _=>Instr.sliceBound v 0 .slice3B | some v,none=>Instr.sliceBound v 0 .sliceAcap | none,none=>pure 0 | none,some _=>stuck "Slice: max without high" :Sem Nat).run c.P W= .ok 0 W:=by
   cases dm with
   | none=>rfl
   | some ao=>exact om (Nat.le_refl _) (of_int.1 (ao a W s))
  cases fR <;> cases dm
  all_goals
   simp only [execOp,Instr.sliceAt,Instr.slice,Instr.sliceBounds,J,Sem.run_bind,run_underlying hu,Result.andThen_ok,Option.map_none,Option.map_some,Option.isSome_none,Bool.false_eq_true,if_false,if_true,Sem.run_pure] at an jc ⊢
   try simp only [an,jc,Result.andThen_ok,Go.sizeOf,typeInfo,Sem.run_bind,run_program,eb,Sem.run_pure]
   try simp [eb]
 ·refine⟨.slice (some (if cap=m then⟨b,off,none⟩ else⟨b,off + m * ag.size α,none⟩)) (n - m) (cap - m),?_,mu.2 (Uo ad ay aU cP eL fM rP aP)⟩
  have an:∀ v,v=Value.int .i64 m→ (Instr.sliceBound v n .sliceB).run c.P W= .ok m W:=fun v a6=>om rP a6
  have jc:∀ v,v=Value.int .i64 n→ (Instr.sliceBound v cap .sliceAcap).run c.P W= .ok n W:=fun v a6=>om (by omega) a6
  have A4:(if cap=m then(some ⟨b,off,none⟩:Option Addr) else(some (Addr.add ⟨b,off,none⟩ (m * ag.size α))))=some (if cap=m then⟨b,off,none⟩ else⟨b,off + m * ag.size α,none⟩):=by
   split <;> simp [iC]
  generalize ef:(n:Int)=PH at dm
  generalize Bx:(m:Int)=PI at fR
  generalize By:(xs.length:Int)=PJ at dm
  generalize Pb:(0:Int)=PK at fR
  cases fR with
  | none=>
    have gO:m=0:=by omega
    cases dm with
    | none=>
      have ky:n=xs.length:=by omega
      subst ky
      subst gO
      simp [execOp,Instr.sliceAt,Instr.slice,Instr.sliceBounds,J,run_underlying hu,Go.sizeOf,typeInfo,eb,dW,iC]
    | some ao=>
      have a0:=of_int.1 (ao a W s)
      rw [← ef] at a0
      have bl:=jc _ a0
      subst gO
      simp [execOp,Instr.sliceAt,Instr.slice,Instr.sliceBounds,J,run_underlying hu,Go.sizeOf,typeInfo,eb,dW,iC,bl]
  | some ao=>
    have a0:=of_int.1 (ao a W s)
    rw [← Bx] at a0
    have bl:=an _ a0
    cases dm with
    | none=>
      have ky:n=xs.length:=by omega
      subst ky
      simp only [execOp,Instr.sliceAt,Instr.slice,Instr.sliceBounds,J,Sem.run_bind,run_underlying hu,Result.andThen_ok,Option.map_none,Option.map_some,Option.isSome_none,Bool.false_eq_true,if_false,if_true,Sem.run_pure,bl,Go.sizeOf,typeInfo,run_program,eb,dW]
      rw [← A4]
    | some kx=>
      have Pc:=of_int.1 (kx a W s)
      rw [← ef] at Pc
      have Zx:=jc _ Pc
      simp only [execOp,Instr.sliceAt,Instr.slice,Instr.sliceBounds,J,Sem.run_bind,run_underlying hu,Result.andThen_ok,Option.map_none,Option.map_some,Option.isSome_none,Bool.false_eq_true,if_false,if_true,Sem.run_pure,bl,Zx,Go.sizeOf,typeInfo,run_program,eb,dW]
      rw [← A4]
end
def ba:Option Nat→Nat→Nat→Value
 | some p,n,cap=> .slice (some ⟨p,0,none⟩) n cap
 | none,_,_=> .slice none 0 0
theorem R9 {L:List aJ} {i:Nat} {cp:dr} :∀ k∈aL (L.set i ⟨none,cp⟩),∃ j e,j≠i∧L[j]? =some e∧e.key=some k:=by
 intro k au
 obtain⟨e,he,tk⟩:=kJ.1 au
 obtain⟨j,aG⟩:=List.mem_iff_getElem?.1 he
 rw [List.getElem?_set] at aG
 split at aG
 ·split at aG
  ·simp only [Option.some.injEq] at aG; subst aG; cases tk
  ·cases aG
 ·rename_i cH
  exact⟨j,e,fun h=>cH h.symm,aG,tk⟩
theorem wB {L:List aJ} {i:Nat} {cp:dr} :aL (L.set i ⟨none,cp⟩) |>.Sublist (aL L):=by
 induction L generalizing i with
 | nil=>simp [aL]
 | cons x r bH=>
   cases i with
   | zero=>
     cases au:x.key with
     | none=>simp [aL,au]
     | some p=>simp [aL,au]
   | succ i=>
     cases au:x.key with
     | none=>simpa [aL,au] using bH
     | some p=>simpa [aL,au] using bH
theorem bw.kill {c E L a W} (h:bw c E L a W) (i:Nat):bw c E (L.set i ⟨none,.dead⟩) a W:=by
 have kp:=wB (L:=L) (i:=i) (cp:= .dead)
 have au:∀ k∈aL (L.set i ⟨none,.dead⟩),k∈aL L:=fun k au=>kp.subset au
 have gK:Ext (aL L ++ c.bX) W (aL (L.set i ⟨none,.dead⟩) ++ c.bX) W:= .drop fun k hm=>by
  rcases List.mem_append.1 hm with hm | hm
  ·exact List.mem_append.2 (.inl (au k hm))
  ·exact List.mem_append.2 (.inr hm)
 exact
 {defers:=h.defers
  size:=h.size
  env:=fun t τ ao=>let⟨v,J,ad⟩:=h.env t τ ao; ⟨v,J,τ.mono gK ad⟩
  dw:=h.dw
  own:=fun e he=>by
   obtain⟨j,aG⟩:=List.mem_iff_getElem?.1 he
   rw [List.getElem?_set] at aG
   split at aG
   ·split at aG
    ·simp only [Option.some.injEq] at aG; subst aG; trivial
    ·cases aG
   ·have J:=h.own e (List.mem_of_getElem? aG)
    unfold aJ.ok at *
    split at J
    ·obtain⟨o',a9,ck⟩:=J
     exact⟨o',a9,dr.mono _ gK ck⟩
    ·exact J
  nodup:=h.nodup.sublist kp
  lt:=fun k hm=>h.lt k (au k hm)
  fD:=fun k hm=>h.fD k (au k hm)
  eF:=fun k hm=>⟨(h.eF k hm).1,fun ad=>(h.eF k hm).2 (au k ad)⟩ }
theorem bw.zz {c E L a W} (h:bw c E L a W) {i p:Nat} {cp:dr} (ar:L[i]? =some ⟨some p,cp⟩):p ∉ aL (L.set i ⟨none,.dead⟩) ++ c.bX:=by
 intro hm
 rcases List.mem_append.1 hm with hm | hm
 ·obtain⟨j,e,cH,aG,tk⟩:=R9 p hm
  exact cH (Hs h.nodup aG ar tk rfl)
 ·exact(h.eF p hm).2 (kJ.2 ⟨_,List.mem_of_getElem? ar,rfl⟩)
theorem Gd {α:Type} [ag α] {A W} {cs:Array Value} {xs:List α} {cap:Nat} (h:cs.size=cap * ag.size α) (aP:xs.length≤cap) (aS:gi A W (cs.toList.take (xs.length * ag.size α)) xs):
 0 + xs.length * ag.size α≤cs.size∧gi A W ((cs.toList.drop 0).take (xs.length * ag.size α)) xs:=by
 refine⟨?_,by simpa using aS⟩
 rw [h,Nat.zero_add]; exact Nat.mul_le_mul_right _ aP
section
variable {c:c5} {E:List (Nat × I)} {L:List aJ} {ops:Array Oper} {Q:Exit→Act→World→Prop}
variable {d:Option Tmp} {ty:TypeId} {pos:String} {af:Array Edge} {g:Option (Nat × Bool)} {x y:Operand} {t t2:TypeId}
theorem bw.freeze {a:Act} {W:World} {α:Type} [ag α] {i s cap T:Nat} {key:Option Nat} {xs:List α} (h:bw c E L a W) (ao:look E s=some (.eq (ba key xs.length cap))) (an:L[i]? =some ⟨key,.row T xs cap⟩):
 bw c ((s,.of xs) :: E) (L.set i ⟨none,.dead⟩) a W:=by
 have au:=h.kill i
 refine { au with env:=fun t τ eJ=> ?_ }
 simp only [look] at eJ
 by_cases e:Nat.beq s t=true
 ·rw [e] at eJ
  simp only [cond_true,Option.some.injEq] at eJ
  subst eJ
  have:=ej.1 e
  subst this
  obtain⟨v,J,ad⟩:=h.env s _ ao
  refine⟨v,J,mu.2 ?_⟩
  have ld:v=ba key xs.length cap:=ad
  subst ld
  have a9:=h.own _ (List.mem_of_getElem? an)
  cases key with
  | none=>exact .inl ⟨rfl,a9.1⟩
  | some p=>
    obtain⟨o,er,cs,rfl,dW,aP,vq,aS⟩:=a9
    obtain⟨ay,aU⟩:=Gd dW aP aS
    refine .inr ⟨p,0,cap,cs,T,(0,0),rfl,h.zz an,er,aP,by omega,ay,?_⟩
    have kp:=wB (L:=L) (i:=i) (cp:= .dead)
    exact aU.mono (.drop fun k hm=>by
     rcases List.mem_append.1 hm with hm | hm
     ·exact List.mem_append.2 (.inl (kp.subset hm))
     ·exact List.mem_append.2 (.inr hm))
 ·simp only [Bool.not_eq_true] at e
  rw [e] at eJ
  exact au.env t τ eJ
theorem ah.freeze {l:List Oper} {α:Type} [ag α] {key:Option Nat} {xs:List α} {cap T:Nat} (i s:Nat) (ao:look E s=some (.eq (ba key xs.length cap))) (an:L[i]? =some ⟨key,.row T xs cap⟩)
 (k:ah c ops Q l ((s,.of xs) :: E) (L.set i ⟨none,.dead⟩)):ah c ops Q l E L:=fun a W st=>k a W (st.freeze ao an)
theorem ae.freeze {x:Exit} {α:Type} [ag α] {key:Option Nat} {xs:List α} {cap T:Nat} (i s:Nat) (ao:look E s=some (.eq (ba key xs.length cap))) (an:L[i]? =some ⟨key,.row T xs cap⟩)
 (k:ae c Q x ((s,.of xs) :: E) (L.set i ⟨none,.dead⟩)):ae c Q x E L:=fun a W st=>k a W (st.freeze ao an)
theorem ai.freeze {code:Code} {α:Type} [ag α] {key:Option Nat} {xs:List α} {cap T:Nat} (i s:Nat) (ao:look E s=some (.eq (ba key xs.length cap))) (an:L[i]? =some ⟨key,.row T xs cap⟩)
 (k:ai c Q code ((s,.of xs) :: E) (L.set i ⟨none,.dead⟩)):ai c Q code E L:=fun a W st=>k a W (st.freeze ao an)
theorem bw.Ve {a:Act} {W:World} {α:Type} [ag α] (T:TypeId) (h:bw c E L a W):bw c E (⟨none,.row T ([]:List α) 0⟩ :: L) a W:=
 {h with
  own:=fun e he=>by
   rcases List.mem_cons.1 he with rfl | he
   ·exact⟨rfl,rfl⟩
   ·exact h.own e he }
theorem ah.own {l:List Oper} {α:Type} [ag α] (T:TypeId) (k:ah c ops Q l E (⟨none,.row T ([]:List α) 0⟩ :: L)):ah c ops Q l E L:=fun a W st=>k a W (st.Ve T)
theorem ub:a7 c E L (.const (.slice none 0 0)) (.eq (ba none 0 0)):=fun _ _ _=>rfl
theorem ra {key:Option Nat} {n cap:Nat} {e i T:Nat} {α:Type} [ag α] {xs:List α} (hu:c.P.underlying t=some (.slice e)) (al:a7 c E L x (.eq (ba key n cap))) (aP:n=xs.length) (an:L[i]? =some ⟨key,.row T xs cap⟩):b4 c E L ⟨d,.call ⟨.builtin .len,#[x],#[t]⟩,ty,pos,af,g⟩ (.of (n:Int)):= .pure fun a W s=>by
 subst aP
 have J:a.eval x=_:=al a W s
 have a9:=s.own _ (List.mem_of_getElem? an)
 cases key with
 | none=>
   have:xs= []:=a9.1
   subst this
   exact⟨.int .i64 0,by simp [execOp,resolve,invoke,builtin,Builtin.len_,J,ba,run_underlying hu,goInt],of_int.2 rfl⟩
 | some p=>exact⟨.int .i64 xs.length,by simp [execOp,resolve,invoke,builtin,Builtin.len_,J,ba,run_underlying hu,goInt],of_int.2 rfl⟩
theorem gi.one {α:Type} [ag α] {A W} {cs:List Value} {xs:List α} (h:gi A W cs xs):∀ u∈cs,u.oneCell'=true:=by
 intro u hu
 obtain⟨j,aG⟩:=List.mem_iff_getElem?.1 hu
 have cb:=(List.getElem?_eq_some_iff.1 aG).1
 have J:=h.1
 by_cases hs:ag.size α=0
 ·rw [hs,Nat.mul_zero] at J; omega
 ·have hp:0 < ag.size α:=Nat.pos_of_ne_zero hs
  have ar:j / ag.size α < _:=(Nat.div_lt_iff_lt_mul hp).2 (by rw [J] at cb; exact cb)
  refine ag.one (h.2 _ ar) u (List.mem_iff_getElem?.2 ⟨j % ag.size α,?_⟩)
  rw [List.getElem?_take,if_pos (Nat.mod_lt _ hp),List.getElem?_drop,Nat.mul_comm,Nat.div_add_mod]
  exact aG
theorem sr {α:Type} [ag α] {A W} {cs ds:List Value} {xs ys:List α} (h:gi A W cs xs) (cX:gi A W ds ys):gi A W (cs ++ ds) (xs ++ ys):=by
 refine⟨by rw [List.length_append,h.1,cX.1,List.length_append,Nat.add_mul],fun i ar=> ?_⟩
 rw [List.length_append] at ar
 by_cases cb:i < xs.length
 ·have J:=h.2 i cb
  have hle:(i + 1) * ag.size α≤xs.length * ag.size α:=Nat.mul_le_mul_right _ cb
  rw [Nat.succ_mul] at hle
  have kW:=h.1
  rw [List.drop_append_of_le_length (by omega),List.take_append_of_le_length (by simp; omega)]
  rw [List.getElem_append_left cb]
  exact J
 ·have J:=cX.2 (i - xs.length) (by omega)
  have e:i * ag.size α=cs.length + (i - xs.length) * ag.size α:=by
   rw [h.1,← Nat.add_mul]; congr 1; omega
  rw [e,List.drop_append,List.drop_of_length_le (by omega),List.nil_append,show cs.length + (i - xs.length) * ag.size α - cs.length=(i - xs.length) * ag.size α by omega]
  rw [List.getElem_append_right (by omega)]
  exact J
theorem nx.cells {α:Type} [ag α] {A W v} {ys:List α} (h:nx A W v ys):
 (v= .slice none 0 0∧ys= [])∨ ∃ (b off cap:Nat) (news:List Value),v= .slice (some ⟨b,off,none⟩) ys.length cap∧news.length=ys.length * ag.size α∧ (∀ (j:Nat) (u:Value),news[j]? =some u→W.cell? ((⟨b,off,none⟩:Addr).add j)=some u)∧
  (∀ u∈news,u.oneCell'=true)∧gi A W news ys:=by
 rcases h with h | ⟨b,off,cap,cur,T,hK,J,ad,ay,aU,a0,bl,cP⟩
 ·exact .inl h
 ·refine .inr ⟨b,off,cap,_,J,cP.1,fun j u hu=> ?_,fun u hu=> ?_,cP⟩
  ·rw [List.getElem?_take] at hu
   split at hu
   ·rw [iC,cell_of_row W b (off + j) cur T hK ay]
    rw [List.getElem?_drop] at hu
    simpa using hu
   ·cases hu
  ·exact cP.one u hu
theorem bw.grow {a:Act} {W:World} (h:bw c E L a W) {i:Nat} {jU:aJ} (ar:L[i]? =some jU) {o:Obj} {cp:dr} (ak:cp.holds (aL L ++ c.bX) W o):
 bw c E (L.set i ⟨some W.heap.size,cp⟩) a (W.alloc o):=by
 have J:=h.alloc ak
 refine J.sub (fun e he=> ?_) ?_
 ·obtain⟨j,aG⟩:=List.mem_iff_getElem?.1 he
  rw [List.getElem?_set] at aG
  split at aG
  ·split at aG
   ·simp only [Option.some.injEq] at aG; subst aG; simp
   ·cases aG
  ·exact List.mem_cons_of_mem _ (List.mem_of_getElem? aG)
 ·have oG:W.heap.size ∉ aL L:=fun hm=>Nat.lt_irrefl _ (h.lt _ hm)
  have key:∀ (L:List aJ) (i:Nat) (q:Nat),q ∉ aL L→ (aL L).Nodup→ (aL (L.set i ⟨some q,cp⟩)).Nodup∧ ∀ k∈aL (L.set i ⟨some q,cp⟩),k=q∨k∈aL L:=by
   intro L
   induction L with
   | nil=>intro i q _ aP; exact⟨by simpa using aP,by simp [aL]⟩
   | cons x r bH=>
     intro i q hq aP
     cases al:x.key with
     | none=>
       have iY:q ∉ aL r:=by simpa [aL,al] using hq
       have rX:(aL r).Nodup:=by simpa [aL,al] using aP
       cases i with
       | zero=>exact⟨by simp only [List.set_cons_zero,aL]; exact List.nodup_cons.2 ⟨iY,rX⟩,fun k au=>by
        simp only [List.set_cons_zero,aL,List.mem_cons] at au; rcases au with rfl | au
        ·exact .inl rfl
        ·exact .inr (by simpa [aL,al] using au)⟩
       | succ i=>
         obtain⟨J,ad⟩:=bH i q iY rX
         exact⟨by simpa [aL,al] using J,fun k au=>by have:=ad k (by simpa [aL,al] using au); simpa [aL,al] using this⟩
     | some p=>
       simp only [aL,al,List.mem_cons,not_or] at hq
       simp only [aL,al] at aP
       obtain⟨hp,rX⟩:=List.nodup_cons.1 aP
       cases i with
       | zero=>exact⟨by simp only [List.set_cons_zero,aL]; exact List.nodup_cons.2 ⟨hq.2,rX⟩,fun k au=>by
        simp only [List.set_cons_zero,aL,List.mem_cons] at au; rcases au with rfl | au
        ·exact .inl rfl
        ·exact .inr (by simp [aL,al,au])⟩
       | succ i=>
         obtain⟨J,ad⟩:=bH i q hq.2 rX
         refine⟨?_,fun k au=> ?_⟩
         ·simp only [List.set_cons_succ,aL,al]
          refine List.nodup_cons.2 ⟨fun hm=> ?_,J⟩
          rcases ad p hm with e | xQ
          ·exact hq.1 e.symm
          ·exact hp xQ
         ·simp only [List.set_cons_succ,aL,al,List.mem_cons] at au
          rcases au with rfl | au
          ·exact .inr (by simp [aL,al])
          ·rcases ad k au with e | xQ
           ·exact .inl e
           ·exact .inr (by simp [aL,al,xQ])
  exact(key L i _ oG h.nodup).1
theorem Hb {α:Type} [ag α] {A W} {cs ds:List Value} {xs:List α} {T cap:Nat} (h:gi A W cs xs) (df:ds.length=(cap - xs.length) * ag.size α) (aP:xs.length≤cap) (hm:cap≤maxLen) {arr:Array Value} (bd:arr.toList=cs ++ ds):
 (dr.row T xs cap).holds A W (.cells arr T (0,0)):=by
 refine⟨arr,rfl,?_,aP,hm,?_⟩
 ·have:arr.size=(cs ++ ds).length:=by rw [← bd]; simp
  rw [this,List.length_append,h.1,df,← Nat.add_mul]; congr 1; omega
 ·rw [bd,← h.1,List.take_left]; exact h
theorem ah.app {α:Type} [ag α] {rest:List Oper} {bb i e bytes cap:Nat} {key:Option Nat} {xs ys r:List α} {z:α} (hu:c.P.underlying t=some (.slice e)) (ew:bt c.P e α) (gl:cn c.P e z)
 (vA:(c.P.info? e).map (·.bytes)=some bytes) (hs:a7 c E L x (.eq (ba key xs.length cap))) (an:L[i]? =some ⟨key,.row e xs cap⟩) (a5:a7 c E L y (.of ys)) (h:hQ bytes xs ys=some r) (aP:Nat.blt bb c.n=true)
 (k:∀ ps cap',ah c ops Q rest ((bb,.eq (ba ps r.length cap')) :: E) (L.set i ⟨ps,.row e r cap'⟩)):
 ah c ops Q (⟨some bb,.call ⟨.builtin .append,#[x,y],#[t,t]⟩,ty,pos,af,none⟩ :: rest) E L:=fun a W s=>by
 obtain⟨lN,kT,rfl⟩:=K8 h
 obtain⟨fN,dY,eb,df,qu⟩:=gl.zero
 have mF:fN.size=ag.size α:=by
  obtain⟨i2,J,ad⟩:=ew.info
  rw [eb] at J; cases J; exact ad
 have Ht:fN.bytes=bytes:=by simpa [eb] using vA
 have vB:dY.cells.size=ag.size α:=by have:=ag.len (qu [] W).2; simpa using this
 subst Ht
 have J:a.eval x=_:=hs a W s
 have a9:=s.own _ (List.mem_of_getElem? an)
 have jA:bb < c.n:=by simpa using aP
 have x3:=(mu.1 (a5 a W s)).cells
 have mc:maxLen=9223372036854775807:=rfl
 have main:∃ ps cap' W',(Builtin.append_ #[t,t] ty #[a.eval x,a.eval y]).run c.P W= .ok (ba ps (xs ++ ys).length cap') W'∧bw c E (L.set i ⟨ps,.row e (xs ++ ys) cap'⟩) a W':=by
  cases key with
  | none=>
    obtain⟨EW,vC⟩:xs= []∧cap=0:=a9
    subst EW
    subst vC
    have xp:L.set i ⟨none,.row e ([]:List α) 0⟩=L:=by
     obtain⟨cb,he⟩:=List.getElem?_eq_some_iff.1 an
     rw [← he]; exact List.set_getElem_self cb
    rcases x3 with⟨a6,rfl⟩ | ⟨b,off,cp,news,a6,qv,Ei,xR,fE⟩
    ·refine⟨none,0,W,?_,by simpa [xp] using s⟩
     simp [J,a6,ba,Builtin.append_,run_underlying hu,Go.sizeOf,typeInfo,eb,Builtin.lenOf,Builtin.firstCells]
    ·by_cases hm:ys.length=0
     ·have:ys= []:=List.eq_nil_of_length_eq_zero hm
      subst this
      refine⟨none,0,W,?_,by simpa [xp] using s⟩
      simp [J,a6,ba,Builtin.append_,run_underlying hu,Go.sizeOf,typeInfo,eb,Builtin.lenOf,Builtin.firstCells,loadCells,loadCellsFrom]
     ·simp only [List.length_nil,Nat.zero_add] at lN kT
      have aS:=run_append_nil (P:=c.P) W t ty e fN dY hu eb df ⟨b,off,none⟩ ys.length cp news (by rw [mF]; exact qv) Ei (by omega) (by omega) (by omega)
      refine⟨some W.heap.size,grownCap W ys.length 0 e,_,by rw [J,a6]; simpa [ba] using aS,?_⟩
      have rY:=grownCap_ge W ys.length 0 e
      have hle:=grownCap_le_maxLen W ys.length 0 e kT
      have:=(s.world (Fr.drew W)).grow an (o:= .cells (news.toArray ++ Builtin.zeroCells dY.cells (grownCap W ys.length 0 e - ys.length)) e) (cp:= .row e ([] ++ ys) (grownCap W ys.length 0 e))
       (Hb (T:=e) (fE.mono (Ext.dw (Fr.drew W))) (ds:=(Builtin.zeroCells dY.cells (grownCap W ys.length 0 e - ys.length)).toList) (by rw [Array.length_toList,size_zeroCells,vB]) rY hle (by simp))
      simpa using this
  | some p=>
    obtain⟨jz,er,cs,rfl,dW,Zy,vq,EX⟩:=a9
    have ka:a.eval x= .slice (some ⟨p,0,none⟩) xs.length cap:=J
    rcases x3 with⟨a6,rfl⟩ | ⟨b,off,cp,news,a6,qv,Ei,xR,fE⟩
    ·refine⟨some p,cap,W,?_,?_⟩
     ·simp [ka,a6,ba,Builtin.append_,run_underlying hu,Go.sizeOf,typeInfo,eb,Builtin.lenOf,Builtin.firstCells,storeCells,Zy]
     ·have:L.set i ⟨some p,.row e (xs ++ []) cap⟩=L:=by
       obtain⟨cb,he⟩:=List.getElem?_eq_some_iff.1 an
       rw [List.append_nil,← he]; exact List.set_getElem_self cb
      rw [this]; exact s
    ·by_cases xm:xs.length + ys.length≤cap
     ·have ED:xs.length * fN.size + news.length≤cs.size:=by rw [mF,qv,dW,← Nat.add_mul]; exact Nat.mul_le_mul_right _ xm
      have aS:=run_append_room (P:=c.P) W t ty e fN hu eb p xs.length cap cs er ⟨b,off,none⟩ ys.length cp news (by rw [mF]; exact qv) Ei xR xm ED
      refine⟨some p,cap,_,by rw [ka,a6]; simpa [ba] using aS,?_⟩
      refine s.store an er ⟨_,rfl,?_,by simpa using xm,vq,?_⟩
      ·simp only [List.size_toArray,List.length_append,List.length_take,List.length_drop,Array.length_toList]; omega
      ·have ao:(cs.toList.take (xs.length * fN.size)).length=xs.length * ag.size α:=by rw [mF]; exact EX.1
       have xz:=sr EX fE
       rw [mF]
       have hlen:(xs ++ ys).length * ag.size α=(cs.toList.take (xs.length * ag.size α) ++ news).length:=by rw [xz.1]
       have PL:((cs.toList.take (xs.length * ag.size α) ++ news ++ cs.toList.drop (xs.length * ag.size α + news.length)).toArray).toList.take ((xs ++ ys).length * ag.size α)=cs.toList.take (xs.length * ag.size α) ++ news:=by
        rw [hlen]; exact List.take_left
       rw [List.append_assoc] at PL
       rw [PL]
       exact xz
     ·have holds:∀ (j:Nat) u,(cs.toList.take (xs.length * ag.size α))[j]? =some u→W.cell? ((⟨p,0,none⟩:Addr).add j)=some u:=by
       intro j u lQ
       rw [List.getElem?_take] at lQ
       split at lQ
       ·rw [iC,Nat.zero_add,cell_of_row W p j cs e (0,0) er]; simpa using lQ
       ·cases lQ
      have aS:=run_append_grow (P:=c.P) W t ty e fN dY hu eb df ⟨p,0,none⟩ xs.length cap _ (by rw [mF]; exact EX.1) holds ⟨b,off,none⟩ ys.length cp news (by rw [mF]; exact qv) Ei (by omega) (by omega) (growslice_fits (by omega) lN)
      have rY:=grownCap_ge W (xs.length + ys.length) cap e
      have hle:=grownCap_le_maxLen W (xs.length + ys.length) cap e kT
      refine⟨some W.heap.size,grownCap W (xs.length + ys.length) cap e,_,by rw [ka,a6]; simpa [ba] using aS,?_⟩
      have xz:=(sr EX fE).mono (Ext.dw (Fr.drew W))
      have:=(s.world (Fr.drew W)).grow an (o:= .cells ((cs.toList.take (xs.length * ag.size α)).toArray ++ news.toArray ++ Builtin.zeroCells dY.cells (grownCap W (xs.length + ys.length) cap e - (xs.length + ys.length))) e)
       (cp:= .row e (xs ++ ys) (grownCap W (xs.length + ys.length) cap e))
       (Hb (T:=e) xz (ds:=(Builtin.zeroCells dY.cells (grownCap W (xs.length + ys.length) cap e - (xs.length + ys.length))).toList) (by rw [Array.length_toList,size_zeroCells,vB,List.length_append]) (by rw [List.length_append]; exact rY) hle (by simp))
      simpa using this
 obtain⟨ps,cap',W',hB,fK⟩:=main
 refine g9 rfl (R:=fun v gP=>v=ba ps (xs ++ ys).length cap'∧gP=W') (.kj ?_ ⟨rfl,rfl⟩) fun v gP ⟨a6,hw⟩=> ?_
 ·simp only [execOp,resolve,invoke,builtin,Sem.run_bind,Sem.run_pure,Result.andThen_ok]
  have aF:(#[x,y]:Array Operand).map a.eval= #[a.eval x,a.eval y]:=by simp
  rw [aF,hB]
  rfl
 ·subst a6
  subst hw
  exact k ps cap' _ _ (fK.put jA rfl)
inductive m7 (c:c5) (E:List (Nat × I)) (L:List aJ) {α:Type} [ag α]:List α→List (Nat × Operand)→List α→Prop
 | nil {b} :m7 c E L b [] b
 | cons {b b':List α} {v:α} {i:Nat} {x:Operand} {r:List (Nat × Operand)} :i < b.length→a7 c E L x (.of v)→m7 c E L (b.set i v) r b'→m7 c E L b ((i,x) :: r) b'
theorem m7.run {α:Type} [ag α] {b b':List α} {br:List (Nat × Operand)} (h:m7 c E L b br b'):∀ a W,bw c E L a W→ ∀ cs:Array Value,gi (aL L ++ c.bX) W cs.toList b→
 ∃ dN,Instr.fill (fun i=>some (i * ag.size α,ag.size α)) cs (br.map fun(i,x)=>(i,a.eval x))=some dN∧gi (aL L ++ c.bX) W dN.toList b'∧b'.length=b.length:=by
 induction h with
 | nil=>intro a W s cs aS; exact⟨cs,rfl,aS,rfl⟩
 | @cons b b' v i x r ar ad _ bH=>
   intro a W s cs aS
   have a6:=ad a W s
   have dW:(a.eval x).cells.size=ag.size α:=by have:=ag.len a6.2; simpa using this
   have ao:=aS.1
   have hle:(i + 1) * ag.size α≤b.length * ag.size α:=Nat.mul_le_mul_right _ ar
   rw [Nat.succ_mul] at hle
   rw [List.map_cons,Dk rfl dW (by simp at ao; omega)]
   obtain⟨dN,ay,aU,a0⟩:=bH a W s (fH cs.toList (i * ag.size α) (a.eval x).cells.toList).toArray (by
    have:=GJ aS ar a6.2
    simpa [fH,ag.len a6.2] using this)
   exact⟨dN,ay,aU,by rw [a0,List.length_set]⟩
theorem zp {α:Type} [ag α] {A W} {z:α} {dY:Value} (h:(I.of z).holds A W dY) (n:Nat) (hs:ag.size α≠0):gi A W ((Array.range (n * ag.size α)).map (dY.cells[· % dY.cells.size]!)).toList (List.replicate n z):=by
 have ao:dY.cells.size=ag.size α:=by have:=ag.len h.2; simpa using this
 have hp:0 < ag.size α:=Nat.pos_of_ne_zero hs
 refine⟨by simp,fun i ar=> ?_⟩
 have gp:i < n:=by simpa using ar
 have hle:(i + 1) * ag.size α≤n * ag.size α:=Nat.mul_le_mul_right _ gp
 rw [Nat.succ_mul] at hle
 have:((((Array.range (n * ag.size α)).map (dY.cells[· % dY.cells.size]!)).toList.drop (i * ag.size α)).take (ag.size α))=dY.cells.toList:=by
  apply List.ext_getElem?
  intro j
  rw [List.getElem?_take]
  split
  ·rename_i aG
   rw [List.getElem?_drop]
   have cb:i * ag.size α + j < n * ag.size α:=by omega
   have A5:(i * ag.size α + j) % ag.size α=j:=by rw [Nat.mul_comm,Nat.mul_add_mod]; exact Nat.mod_eq_of_lt aG
   simp only [Array.getElem?_toList,Array.getElem?_map,Array.getElem?_range,cb,if_true,Option.map_some,ao,A5]
   rw [getElem!_pos dY.cells j (by omega)]
   simp [ao,aG]
  ·rename_i aG
   symm
   simp only [Array.getElem?_toList]
   exact Array.getElem?_eq_none (by omega)
 rw [this]
 simpa using h.2
theorem ig {α:Type} [ag α] {e n:Nat} {z:α} {r:List α} {br:List (Nat × Operand)} (hu:c.P.underlying t=some (.slice e)) (ew:bt c.P e α) (gl:cn c.P e z) (hs:Nat.beq (ag.size α) 0=false) (aP:Nat.ble (n * ag.size α) 16777216=true)
 (a8:m7 c E L (List.replicate n z) br r):b4 c E L ⟨d,.buildSlice t n br.toArray,ty,pos,af,g⟩ (.of r):=fun a W s=>by
 obtain⟨fN,dY,eb,df,qu⟩:=gl.zero
 have mF:fN.size=ag.size α:=by
  obtain⟨i2,J,ad⟩:=ew.info
  rw [eb] at J; cases J; exact ad
 have eI:ag.size α≠0:=fun h=>by rw [h] at hs; cases hs
 have pE:=zp (qu (aL L ++ c.bX) W) n eI
 obtain⟨dN,ay,aU,a0⟩:=a8.run a W s _ pE
 have hlen:r.length=n:=by rw [a0]; simp
 have hm:(br.toArray.map fun(x:Nat × Operand)=>(x.1,a.eval x.2)).toList=br.map fun(i,x)=>(i,a.eval x):=by simp
 have YM:=Nat.le_of_ble_eq_true aP
 refine .kj (v:= .slice (some ⟨W.heap.size,0,none⟩) n n) (W':=W.alloc (.cells dN e)) ?_ ⟨Fr.alloc W _,mu.2 ?_⟩
 ·simp only [execOp,Instr.buildSlice,Sem.run_bind,run_underlying hu,Result.andThen_ok,Go.sizeOf,typeInfo,run_program,eb,Sem.run_pure,mF]
  rw [if_neg (by omega)]
  try simp only [Sem.run_pure,Result.andThen_ok,Sem.run_bind]
  by_cases bG:n * ag.size α=0
  ·have qt:n=0:=by
    rcases Nat.mul_eq_zero.1 bG with h | h
    ·exact h
    ·exact absurd h eI
   subst qt
   simp only [Nat.zero_mul,if_true,Sem.run_pure,Result.andThen_ok]
   try simp only [Nat.zero_mul] at ay
   have jU:((Array.range 0).map (fun x=>(#[]:Array Value)[x % (#[]:Array Value).size]!))=((Array.range 0).map (dY.cells[· % dY.cells.size]!)):=by simp
   simp only [pure_bind]
   rw [jU,hm,ay]
   simp [newRow]
  ·simp only [bG,if_false,Sem.run_bind,zeroValue,typeInfo,run_program,Result.andThen_ok,eb,df,Sem.run_pure]
   rw [hm,ay]
   simp [newRow]
 ·have gK:Ext (aL L ++ c.bX) W (aL L ++ c.bX) (W.alloc (.cells dN e)):=Ext.dw (Fr.alloc W _)
  refine .inr ⟨W.heap.size,0,n,dN,e,(0,0),by rw [hlen],fun ta=>Nat.lt_irrefl _ (s.DJ _ ta),MM W _,by omega,?_,?_,?_⟩
  ·have:r.length * 1≤n * ag.size α:=by rw [hlen]; exact Nat.mul_le_mul_left _ (by omega)
   have:maxLen=9223372036854775807:=rfl
   omega
  ·have:=aU.1; simp at this; omega
  ·have bl:=aU.1
   rw [List.drop_zero,← bl,List.take_length]
   exact aU.mono gK
end
theorem Dv {cs:List Value} {o s:Nat} {u:Value} (h:u∈cs.drop o):u∈ (cs.drop o).take s∨u∈cs.drop (o + s):=by
 rw [← List.take_append_drop s (cs.drop o)] at h
 rcases List.mem_append.1 h with h | h
 ·exact .inl h
 ·rw [List.drop_drop] at h; exact .inr h
theorem Mj {cs:List Value} {n o:Nat} {u:Value} {p:Prop} (ao:cs.length=n) (a9:o=n) (h:u∈cs.drop o):p:=by
 rw [List.drop_of_length_le (by omega)] at h; cases h
theorem Vf {cs ds:List Value} {o s n:Nat} (ao:cs.length=n) (hd:ds.length=s) (h:o + s≤n):(cs.take o ++ ds ++ cs.drop (o + s)).length=n:=by
 simp only [List.length_append,List.length_take,List.length_drop]; omega
theorem Mk {cs ds:List Value} {o s n:Nat} (ao:cs.length=n) (hd:ds.length=s) (h:o + s≤n):((cs.take o ++ ds ++ cs.drop (o + s)).drop o).take s=ds:=by
 have J:(cs.take o).length=o:=by simp; omega
 rw [List.append_assoc,List.drop_append,J,List.drop_of_length_le (by omega),List.nil_append,Nat.sub_self,List.drop_zero,List.take_append_of_le_length (by omega),List.take_of_length_le (by omega)]
theorem GK {cs ds:List Value} {o s n bZ s2:Nat} (ao:cs.length=n) (hd:ds.length=s) (h:o + s≤n) (cH:bZ + s2≤o∨o + s≤bZ):((cs.take o ++ ds ++ cs.drop (o + s)).drop bZ).take s2=(cs.drop bZ).take s2:=by
 apply List.ext_getElem?
 intro i
 simp only [List.getElem?_take,List.getElem?_drop]
 split
 ·rename_i ar
  simp only [List.getElem?_append,List.length_append,List.length_take,List.getElem?_take,List.getElem?_drop]
  have J:min o cs.length=o:=by omega
  rw [J,hd]
  rcases cH with ad | ad
  ·rw [if_pos (by omega),if_pos (by omega),if_pos (by omega)]
  ·rw [if_neg (by omega)]; congr 1; omega
 ·rfl
structure tp (P:Type) where
 size:Nat
 rep:List Nat→World→List Value→Nat→P→Prop
 one:∀ {A W cs o x n},rep A W cs o x→cs.length=n→o + size=n→ ∀ u∈cs.drop o,u.oneCell'=true
 mono:∀ {A W c0 W' cs o x},Ext A W c0 W'→rep A W cs o x→rep c0 W' cs o x
 qk:∀ {A W cs o x n ds p s},rep A W cs o x→cs.length=n→ds.length=s→p + s≤n→p + s≤o→rep A W (cs.take p ++ ds ++ cs.drop (p + s)) o x
@[reducible] def hr (B:Type) [ag B]:tp B where
  size:=ag.size B
  rep A W cs o x:=ag.rep A W ((cs.drop o).take (ag.size B)) x
  one h ao a9 u hu:=by
   rcases Dv (s:=ag.size B) hu with J | bG
   ·exact ag.one h u J
   ·exact Mj ao a9 bG
  mono e h:=ag.mono e h
  qk h ao hd aP hp:=by rw [GK ao hd aP (.inr hp)]; exact h
@[reducible] def di (B:Type) [ag B] {P:Type} (S:tp P):tp (B × P) where
  size:=ag.size B + S.size
  rep A W cs o x:=ag.rep A W ((cs.drop o).take (ag.size B)) x.1∧S.rep A W cs (o + ag.size B) x.2
  one h ao a9 u hu:=by
   rcases Dv (s:=ag.size B) hu with J | bG
   ·exact ag.one h.1 u J
   ·exact S.one h.2 ao (by omega) u bG
  mono e h:=⟨ag.mono e h.1,S.mono e h.2⟩
  qk h ao hd aP hp:=⟨by rw [GK ao hd aP (.inr hp)]; exact h.1,S.qk h.2 ao hd aP (by omega)⟩
@[reducible] def ag.str {T P:Type} (S:tp P) (to:T→P) (N:Nat) (jA:S.size=N:=by rfl):ag T where
  size:=N
  agg:=true
  rep A W cs x:=cs.length=N∧S.rep A W cs 0 (to x)
  len h:=h.1
  one h:=fun u hu=>S.one h.2 h.1 (by omega) u (by simpa using hu)
  flat h:=by cases h
  mono e h:=⟨h.1,S.mono e h.2⟩
structure Bz {P:Type} (S:tp P) (G:Type) [ag G] where
 off:Nat
 get:P→G
 set:P→G→P
 fW:off + ag.size G≤S.size
 hX:∀ {A W cs o b},S.rep A W cs o b→ag.rep A W ((cs.drop (o + off)).take (ag.size G)) (get b)
 kI:∀ {A W cs n o b ds g},cs.length=n→o + S.size≤n→S.rep A W cs o b→ag.rep A W ds g→S.rep A W (cs.take (o + off) ++ ds ++ cs.drop (o + off + ag.size G)) o (set b g)
def hU {B:Type} [ag B]:Bz (hr B) B where
 off:=0
 get b:=b
 set _ g:=g
 fW:=by show 0 + ag.size B≤ag.size B; omega
 hX h:=h
 kI ao a9 _ bE:=by
  have h:=Mk ao (ag.len bE) a9
  show ag.rep _ _ ((List.drop _ _).take _) _
  rw [Nat.add_zero,h]; exact bE
def du {B:Type} [ag B] {P:Type} {S:tp P} :Bz (di B S) B where
 off:=0
 get b:=b.1
 set b g:=(g,b.2)
 fW:=by show 0 + ag.size B≤ag.size B + S.size; omega
 hX h:=h.1
 kI {A W cs n o b ds g} ao a9 h bE:=by
  have a9:o + (ag.size B + S.size)≤n:=a9
  refine⟨?_,S.qk h.2 ao (ag.len bE) (by omega) (by omega)⟩
  rw [Nat.add_zero,Mk ao (ag.len bE) (by omega)]; exact bE
def bz {B:Type} [ag B] {P:Type} {S:tp P} {G:Type} [ag G] (l:Bz S G):Bz (di B S) G where
 off:=ag.size B + l.off
 get b:=l.get b.2
 set b g:=(b.1,l.set b.2 g)
 fW:=by have:=l.fW; show ag.size B + l.off + ag.size G≤ag.size B + S.size; omega
 hX h:=by rw [← Nat.add_assoc]; exact l.hX h.2
 kI {A W cs n o b ds g} ao a9 h bE:=by
  have a9:o + (ag.size B + S.size)≤n:=a9
  have ar:=l.fW
  have ad:=l.kI ao (by omega) h.2 bE
  rw [Nat.add_assoc o] at ad
  exact⟨by rw [GK ao (ag.len bE) (by omega) (.inl (by omega))]; exact h.1,ad⟩
def aQ.str {T P G:Type} [ag G] {S:tp P} {to:T→P} {N:Nat} (l:Bz S G) (off:Nat) (get:T→G) (set:T→G→T) (jA:S.size=N:=by rfl) (a9:l.off=off:=by rfl) (J:∀ b,l.get (to b)=get b:=by intro b; rfl) (ad:∀ b g,l.set (to b) g=to (set b g):=by intro b g; rfl): @aQ T G (ag.str S to N jA) _:=
 @aQ.mk T G (ag.str S to N jA) _ off get set (by have:=l.fW; show off + ag.size G≤N; omega)
  (fun {A W cs b} h=>by have:=l.hX h.2; rw [Nat.zero_add,a9,J] at this; exact this)
  (fun {A W cs b ds g} h bE=>by
   have ay:=l.kI h.1 (by omega) h.2 bE
   rw [Nat.zero_add,a9,ad] at ay
   have aU:=l.fW
   exact⟨Vf h.1 (ag.len bE) (by omega),ay⟩)
class bc (α:Type) [ag α] [Inhabited α] where
 cells:List Value
 ok:∀ A W,ag.rep A W cells (default:α)
instance:bc Bool:=⟨[.bool false],fun _ _=>rfl⟩
instance:bc Int:=⟨[.int .i64 0],fun _ _=>rfl⟩
instance:bc (BitVec 64):=⟨[.int .u64 0],fun _ _=>rfl⟩
instance:bc (BitVec 32):=⟨[.int .u32 0],fun _ _=>rfl⟩
instance:bc (BitVec 16):=⟨[.int .u16 0],fun _ _=>rfl⟩
instance:bc (BitVec 8):=⟨[.int .u8 0],fun _ _=>rfl⟩
instance:bc ByteArray:=⟨[.string ByteArray.empty],fun _ _=>rfl⟩
instance {α:Type} [ag α]:bc (List α):=⟨[.slice none 0 0],fun _ _=>⟨_,rfl,.inl ⟨rfl,rfl⟩⟩⟩
theorem Lw {α:Type} [ag α] {A W} {k1:List Value} {z:α} (h:ag.rep A W k1 z):∀ n,gi A W (List.replicate n k1).flatten (List.replicate n z)
 | 0=>⟨by simp,fun i ar=>by simp at ar⟩
 | n + 1=>by
   have J:=Lw h n
   have ad:gi A W k1 [z]:=⟨by simp [ag.len h],fun i ar=>by
    have:i=0:=by simpa using ar
    subst this
    rw [Nat.zero_mul,List.drop_zero,← ag.len h,List.take_length]; exact h⟩
   have:=sr ad J
   simpa [List.replicate_succ] using this
instance {α:Type} [ag α] [Inhabited α] [bc α] {n:Nat} :bc (Vector α n):=⟨(List.replicate n (bc.cells α)).flatten,fun A W=>by
 have:=Lw (bc.ok (α:=α) A W) n
 show gi A W _ (Vector.replicate n default).toList
 simpa using this⟩
def Iv (α:Type) [ag α] [Inhabited α] [bc α]:Value:=if ag.agg α=true then .agg (bc.cells α).toArray else(bc.cells α).headD undef
theorem cn.of {P:Program} {t:TypeId} {α:Type} [ag α] [Inhabited α] [bc α] (h:(P.info? t).bind (·.zero)=some (Iv α)):cn P t (default:α) where
 zero:=by
  cases ar:P.info? t with
  | none=>simp [ar] at h
  | some i=>
    refine⟨i,Iv α,rfl,by simpa [ar] using h,fun A W=> ?_⟩
    have ok:=bc.ok (α:=α) A W
    unfold Iv
    cases bd:ag.agg α with
    | true=>simp only [if_true]; exact⟨by simp [shaped,bd],by simpa [Value.cells] using ok⟩
    | false=>
      have J:=ag.len ok
      rw [ag.flat bd] at J
      obtain⟨v,a6⟩:=List.length_eq_one_iff.1 J
      have ay:v.oneCell'=true:=ag.one ok v (by rw [a6]; simp)
      simp only [Bool.false_eq_true,if_false,a6,List.headD_cons]
      exact⟨by simp [shaped,bd,ay],by rw [oo ay]; rw [a6] at ok; exact ok⟩
theorem bt.of {P:Program} {t:TypeId} {α:Type} [ag α] {d:TypeDesc} (bd:(match d with | .struct _ | .array _ _=>true | _=>false)=ag.agg α) (hu:P.underlying t=some d) (hs:(P.info? t).map (·.size)=some (ag.size α)):bt P t α:=⟨hs,d,hu,bd⟩
theorem cj.of {P:Program} {s f o:Nat} {fs:Array Field} {fd:Field} {γ:Type} [ag γ] (hu:P.underlying s=some (.struct fs)) (a8:fs[f]? =some fd) (a9:fd.offset=o) (ev:bt P fd.type γ) (hs:Nat.beq (ag.size γ) 0=false):cj P s f o:=by
 obtain⟨i,J,ad⟩:=ev.info
 exact⟨fs,fd,i,hu,a8,a9,J,fun h=>by rw [← ad,h] at hs; cases hs⟩
theorem oU.of {P:Program} {t n e s:Nat} {γ:Type} [ag γ] (hu:P.underlying t=some (.array n e)) (ev:bt P e γ) (hs:ag.size γ=s):oU P t n s:=by
 obtain⟨i,J,ad⟩:=ev.info
 exact⟨e,i,hu,J,by rw [ad,hs]⟩
theorem bind_some {α β:Type} {m:Option α} {f:α→Option β} {r:β} (h:m.bind f=some r):∃ y,m=some y∧f y=some r:=Option.bind_eq_some_iff.1 h
theorem hY {α:Type} {b:Bool} {p q:Option α} {r:α} (hb:b=true) (h:cond b p q=some r):p=some r:=by rw [hb] at h; exact h
theorem hZ {α:Type} {b:Bool} {p q:Option α} {r:α} (hb:b=false) (h:cond b p q=some r):q=some r:=by rw [hb] at h; exact h
theorem aK {α:Type} {a b:α} (h:some a=some b):a=b:=Option.some.inj h
def dd {α:Type} [Inhabited α] (b want:Bool) (m:Option α):Option α:=if b=want then m else some default
theorem ga {α:Type} [Inhabited α] {b want:Bool} {m:Option α} {y:α} (h:dd b want m=some y) (hb:b=want):m=some y:=by unfold dd at h; rw [if_pos hb] at h; exact h
def fa:Nat:=2 ^ 80
theorem bw.oC {c E L a W} (h:bw c E L a W) (n:Nat):bw c E (L.drop n) a W:=
 h.sub (fun e he=>List.mem_of_mem_drop he) (by
   have:(aL (L.drop n)).Sublist (aL L):=by
    induction L generalizing n with
    | nil=>simp
    | cons x r bH=>
      cases n with
      | zero=>simp
      | succ n=>
        have aS:∀ n,(aL (r.drop n)).Sublist (aL r):=by
         intro n
         have key:∀ (r:List aJ) n,(aL (r.drop n)).Sublist (aL r):=by
          intro r
          induction r with
          | nil=>intro n; simp
          | cons y r Pd=>
            intro n
            cases n with
            | zero=>simp
            | succ n=>
              simp only [List.drop_succ_cons]
              cases au:y.key with
              | none=>simpa [aL,au] using Pd n
              | some p=>simp only [aL,au]; exact(Pd n).cons _
         exact key r n
        simp only [List.drop_succ_cons]
        cases au:x.key with
        | none=>simpa [aL,au] using aS n
        | some p=>simp only [aL,au]; exact(aS n).cons _
   exact h.nodup.sublist this)
section
variable {c:c5} {E:List (Nat × I)} {L:List aJ} {ops:Array Oper} {Q:Exit→Act→World→Prop}
theorem ai.dd {γ:Type} {x:Operand} {b:Bool} {y z:Code} (E':γ→List (Nat × I)) (L':γ→List aJ) (ao:a7 c E L x (.of b)) (tv:∀ g,ae c Q .normal (E' g) (L' g))
 (bJ:(∀ g,ae c Q .normal (E' g) (L' g))→b=true→ai c Q y E L) (a8:(∀ g,ae c Q .normal (E' g) (L' g))→b=false→ai c Q z E L):ai c Q (.cond x y z) E L:=
 ai.cond ao (bJ tv) (a8 tv)
theorem ae.meet {x:Exit} {E':List (Nat × I)} {L':List aJ} (n:Nat) (an:L.drop n=L') (h:g6 E E') (k:ae c Q x E' L'):ae c Q x E L:=fun a W s=>k a W (by rw [← an]; exact(s.oC n).less h.look)
def xS {σ ε γ δ:Type} (c:c5) (E:σ→γ→List (Nat × I)) (L:σ→γ→List aJ) (xs:ε→Exit) (fy:ε→δ→List (Nat × I)) (Lx:ε→δ→List aJ):σ ⊕ ε→Exit→Act→World→Prop
 | .inl s,x,a,W=>x= .normal∧ ∃ g,bw c (E s g) (L s g) a W
 | .inr e,x,a,W=>x≠ .normal∧x=xs e∧ ∃ g,bw c (fy e g) (Lx e g) a W
theorem ae.Vg {σ ε γ δ:Type} {E':σ→γ→List (Nat × I)} {L':σ→γ→List aJ} {xs:ε→Exit} {fy:ε→δ→List (Nat × I)} {Lx:ε→δ→List aJ} {s:σ} (g:γ) (n:Nat)
 (an:L.drop n=L' s g) (h:g6 E (E' s g)):ae c (xS c E' L' xs fy Lx (.inl s)) .normal E L:=fun a W st=>⟨rfl,g,by rw [← an]; exact(st.oC n).less h.look⟩
theorem ae.Vh {σ ε γ δ:Type} {E':σ→γ→List (Nat × I)} {L':σ→γ→List aJ} {xs:ε→Exit} {fy:ε→δ→List (Nat × I)} {Lx:ε→δ→List aJ} {e:ε} {x:Exit} (g:δ) (n:Nat)
 (al:x=xs e) (aP:x≠ .normal) (an:L.drop n=Lx e g) (h:g6 E (fy e g)):ae c (xS c E' L' xs fy Lx (.inr e)) x E L:=fun a W st=>⟨aP,al,g,by rw [← an]; exact(st.oC n).less h.look⟩
theorem ai.D7 {σ ε γ δ:Type} {body:Code} {N:Nat} {b:σ→Option (σ ⊕ ε)} {cd:σ} {e:ε} (ao:fj N b cd=some e)
 (E':σ→γ→List (Nat × I)) (L':σ→γ→List aJ) (xs:ε→Exit) (fy:ε→δ→List (Nat × I)) (Lx:ε→δ→List aJ) (g0:γ) (an:L=L' cd g0) (aD:g6 E (E' cd g0))
 (rq:∀ s r,b s=some r→ ∀ g,ai c (xS c E' L' xs fy Lx r) body (E' s g) (L' s g))
 (nO:∀ g,ae c Q (xs e) (fy e g) (Lx e g)):ai c Q (.loop body) E L:=fun a W st=>by
 subst an
 exact K5 b (fun s a W=> ∃ g,bw c (E' s g) (L' s g) a W) (fun e x a W=>x=xs e∧ ∃ g,bw c (fy e g) (Lx e g) a W)
  (fun s r hs a W ⟨g,ln⟩=>wpIn_mono (rq s r hs g a W ln) (fun x a W h=>by
   cases r with
   | inl b9=>exact h
   | inr e'=>exact⟨h.1,h.2⟩)) Q e (fun x a W ⟨al,g,hs⟩=>by subst al; exact nO g a W hs) ao ⟨g0,st.less aD.look⟩
end
theorem b4.as {c E L o} {α:Type} [ag α] {a b:α} (h:b4 c E L o (.of a)) (e:a=b):b4 c E L o (.of b):=by subst e; exact h
def I.vj {α β:Type} [ag α] [ag β] (P:Program) (F:α→Option β):I where
 holds A W v:= ∃ f fst cap,v= .func (.func f) fst cap∧bM P f∧ ∀ c0 W',Ext A W c0 W'→ (∀ k∈c0,k < W'.heap.size)→ ∀ x r oa,F x=some r→ (I.of x).holds c0 W' oa→
  Calls P f (fst ++ #[oa] ++ cap) W' fun e BA=> ∃ v,e= .returned v∧Fr [] W' BA∧ (I.of r).holds c0 BA v
 mono e h:=let⟨f,fst,cap,J,ad,ay⟩:=h; ⟨f,fst,cap,J,ad,fun c0 W' e'=>ay c0 W' (e.trans e')⟩
def I.qp {α β γ:Type} [ag α] [ag β] [ag γ] (P:Program) (F:α→β→Option γ):I where
 holds A W v:= ∃ f fst cap,v= .func (.func f) fst cap∧bM P f∧ ∀ c0 W',Ext A W c0 W'→ (∀ k∈c0,k < W'.heap.size)→ ∀ x y r oa x6,F x y=some r→ (I.of x).holds c0 W' oa→ (I.of y).holds c0 W' x6→
  Calls P f (fst ++ #[oa,x6] ++ cap) W' fun e BA=> ∃ v,e= .returned v∧Fr [] W' BA∧ (I.of r).holds c0 BA v
 mono e h:=let⟨f,fst,cap,J,ad,ay⟩:=h; ⟨f,fst,cap,J,ad,fun c0 W' e'=>ay c0 W' (e.trans e')⟩
section
variable {c:c5} {E:List (Nat × I)} {L:List aJ} {d:Option Tmp} {ty:TypeId} {pos:String} {af:Array Edge} {g:Option (Nat × Bool)}
theorem Tx {α β:Type} [ag α] [ag β] {F:α→Option β} {f:FuncId} (eg:bM c.P f) (h:∀ x r,F x=some r→bW c.P f [.of x] (.of r)):a7 c E L (.func f) (.vj c.P F):=fun a W s=>
 ⟨f,#[],#[],rfl,eg,fun c0 W' _ gv x r oa ob al=>by simpa using h x r ob c0 W' [oa] gv (.cons al .nil)⟩
theorem GG {α β γ:Type} [ag α] [ag β] [ag γ] {F:α→β→Option γ} {f:FuncId} (eg:bM c.P f) (h:∀ x y r,F x y=some r→bW c.P f [.of x,.of y] (.of r)):a7 c E L (.func f) (.qp c.P F):=fun a W s=>
 ⟨f,#[],#[],rfl,eg,fun c0 W' _ gv x y r oa x6 ob al a5=>by simpa using h x y r ob c0 W' [oa,x6] gv (.cons al (.cons a5 .nil))⟩
theorem Dh {α β:Type} [ag α] [ag β] {F:α→Option β} {ny x:Operand} {ats:Array TypeId} {B6:α} {r:β} (a8:a7 c E L ny (.vj c.P F)) (al:a7 c E L x (.of B6)) (h:F B6=some r):
 b4 c E L ⟨d,.call ⟨.value ny,#[x],ats⟩,ty,pos,af,g⟩ (.of r):=fun a W s=>by
 obtain⟨f,fst,cap,J,eg,ad⟩:=a8 a W s
 refine .uf (f:=f) (args:=fst ++ #[a.eval x] ++ cap) (W':=W) ?_ (ad _ W (Ext.refl _ _) s.DJ _ _ _ h (al a W s))
 simp [execOp,resolve,Deferred.ofValue,J,invoke,eg.run]
theorem zy {α β γ:Type} [ag α] [ag β] [ag γ] {F:α→β→Option γ} {ny x y:Operand} {ats:Array TypeId} {B6:α} {PM:β} {r:γ} (a8:a7 c E L ny (.qp c.P F)) (al:a7 c E L x (.of B6)) (a5:a7 c E L y (.of PM)) (h:F B6 PM=some r):
 b4 c E L ⟨d,.call ⟨.value ny,#[x,y],ats⟩,ty,pos,af,g⟩ (.of r):=fun a W s=>by
 obtain⟨f,fst,cap,J,eg,ad⟩:=a8 a W s
 refine .uf (f:=f) (args:=fst ++ #[a.eval x,a.eval y] ++ cap) (W':=W) ?_ (ad _ W (Ext.refl _ _) s.DJ _ _ _ _ _ h (al a W s) (a5 a W s))
 simp [execOp,resolve,Deferred.ofValue,J,invoke,eg.run]
end
end Gv
namespace Gv
open Go Go.ChangeShapes Go.WideShapes Go.RowKit
structure Arg (P:Program) (t:TypeId) (α:Type) [ag α]:Prop where
 cells:P.cellsOf t=ag.size α
 read:∀ {H:Type} {enc:TypeId × Value→H} {W:World} {n:Nat} {cs:List Value} {x:DataW H × List MemPlace},DataW.trod enc P W 0 (fun _=>true) true n t cs=some x→ ∃ a:α,ag.rep [] W cs a
 form:∀ {W:World} {b:Nat} {v:Value},Value.okWide P W .any b t v→shaped (ag.agg α) v
variable {P:Program} {t e:TypeId}
theorem S0 (hu:P.underlying t=some .bool) {H:Type} {enc:TypeId × Value→H} {W:World} {n:Nat} {cs:List Value} {x:DataW H × List MemPlace} (h:DataW.trod enc P W 0 (fun _=>true) true n t cs=some x):
 ∃ b:Bool,cs= [.bool b]:=by
 cases n with
 | zero=>simp [DataW.trod] at h
 | succ n=>
   unfold DataW.trod at h
   rw [hu] at h
   split at h <;> first | exact⟨_,rfl⟩ | (simp at h)
   all_goals simp_all
theorem Arg.bool (hu:P.underlying t=some .bool) (ak:P.cellsOf t=1):Arg P t Bool where
 cells:=ak
 read {H enc W n cs x} h:=by
  obtain⟨b,rfl⟩:=S0 hu h
  exact⟨b,rfl⟩
 form {W b v} h:=by
  unfold Value.okWide Cell.okWide at h
  simp only [hu] at h
  unfold Cell.ok at h
  rw [hu] at h
  cases v <;> first | rfl | simp at h
theorem zA {k:IntKind} (hu:P.underlying t=some (.int k)) {H:Type} {enc:TypeId × Value→H} {W:World} {n:Nat} {cs:List Value} {x:DataW H × List MemPlace} (h:DataW.trod enc P W 0 (fun _=>true) true n t cs=some x):
 ∃ z:Int,cs= [.int k z]∧k.min≤z∧z≤k.max:=by
 cases n with
 | zero=>simp [DataW.trod] at h
 | succ n=>
   unfold DataW.trod at h
   rw [hu] at h
   split at h <;> simp_all [Lit.wf]
theorem zB {k:IntKind} (hu:P.underlying t=some (.int k)) {W:World} {b:Nat} {v:Value} (h:Value.okWide P W .any b t v):v.oneCell'=true:=by
 unfold Value.okWide Cell.okWide at h
 simp only [hu] at h
 unfold Cell.ok at h
 rw [hu] at h
 cases v <;> first | rfl | simp at h
theorem Arg.int (hu:P.underlying t=some (.int .i64)) (ak:P.cellsOf t=1):Arg P t Int where
 cells:=ak
 read h:=by obtain⟨z,rfl,_⟩:=zA hu h; exact⟨z,rfl⟩
 form h:=zB hu h
theorem Arg.u64 (hu:P.underlying t=some (.int .u64)) (ak:P.cellsOf t=1):Arg P t (BitVec 64) where
 cells:=ak
 read h:=by
  obtain⟨z,rfl,J,ad⟩:=zA hu h
  simp [IntKind.min,IntKind.max,IntKind.signed,IntKind.bits] at J ad
  exact⟨BitVec.ofInt 64 z,by show [_]= [_]; simp; omega⟩
 form h:=zB hu h
theorem Arg.u32 (hu:P.underlying t=some (.int .u32)) (ak:P.cellsOf t=1):Arg P t (BitVec 32) where
 cells:=ak
 read h:=by
  obtain⟨z,rfl,J,ad⟩:=zA hu h
  simp [IntKind.min,IntKind.max,IntKind.signed,IntKind.bits] at J ad
  exact⟨BitVec.ofInt 32 z,by show [_]= [_]; simp; omega⟩
 form h:=zB hu h
theorem Arg.u16 (hu:P.underlying t=some (.int .u16)) (ak:P.cellsOf t=1):Arg P t (BitVec 16) where
 cells:=ak
 read h:=by
  obtain⟨z,rfl,J,ad⟩:=zA hu h
  simp [IntKind.min,IntKind.max,IntKind.signed,IntKind.bits] at J ad
  exact⟨BitVec.ofInt 16 z,by show [_]= [_]; simp; omega⟩
 form h:=zB hu h
theorem Arg.u8 (hu:P.underlying t=some (.int .u8)) (ak:P.cellsOf t=1):Arg P t (BitVec 8) where
 cells:=ak
 read h:=by
  obtain⟨z,rfl,J,ad⟩:=zA hu h
  simp [IntKind.min,IntKind.max,IntKind.signed,IntKind.bits] at J ad
  exact⟨BitVec.ofInt 8 z,by show [_]= [_]; simp; omega⟩
 form h:=zB hu h
theorem TE (hs:(∃ fs,P.underlying t=some (.struct fs))∨ (∃ n e,P.underlying t=some (.array n e))) {W:World} {b:Nat} {v:Value} (h:Value.okWide P W .any b t v):shaped true v:=by
 unfold Value.okWide at h
 rcases hs with⟨fs,hu⟩ | ⟨n,e,hu⟩ <;> rw [hu] at h <;> exact⟨h.choose,h.choose_spec.1⟩
theorem Arg.arr {α:Type} [ag α] [Inhabited α] {n:Nat} (hu:P.underlying t=some (.array n e)) (he:Arg P e α) (ak:P.cellsOf t=n * ag.size α):Arg P t (Vector α n) where
 cells:=ak
 read {H enc W m cs x} h:=by
  obtain⟨xs,q,_,_,ao,hlen,a8⟩:=DataW.trod_array hu h
  have aS:∀ i,i < n→ ∃ a:α,ag.rep [] W ((cs.drop (i * ag.size α)).take (ag.size α)) a:=by
   intro i ar
   have J:=a8 i ar
   rw [List.getElem?_eq_getElem (by omega)] at J
   rw [← he.cells]
   exact he.read J
  refine⟨Vector.ofFn fun i=>(aS i.1 i.2).choose,by rw [ao,ak]; simp,fun i ar=> ?_⟩
  have gp:i < n:=by simpa using ar
  have:=(aS i gp).choose_spec
  simpa using this
 form h:=TE (.inr ⟨_,_,hu⟩) h
theorem K9 {H:Type} {enc:TypeId × Value→H} {W W':World} (ao:laidOutB P=true) {sp:Nat→Bool} :∀ {gZ:List TypeId} {vs:List Value} {ds:List (DataW H)} {br:List MemPlace},
 (∀ t∈gZ,P.readableRec t=true∧t < P.types.size)→DataW.TrodAll enc P W 0 (fun _=>true) true gZ vs ds br→ (∀ p∈br,W.sameAt W' p)→ (∀ p∈br,sp p.block=true)→DataW.TrodAll enc P W' 0 sp true gZ vs ds br
 | [],_,_,_,_,h,_,_=>by
   obtain⟨rfl,rfl,rfl⟩:=trodAll_nil h
   exact rfl
 | _ :: _,_,_,_,bJ,h,hs,hp=>by
   obtain⟨v,IU,d,IV,p,q,rfl,rfl,rfl,J,ad⟩:=trodAll_cons h
   have bG:=bJ _ (List.mem_cons_self ..)
   exact⟨p,q,WideElems.Trod_stays ao bG.1 bG.2 J (fun x al=>hs x (by simp [al])) (fun x al=>hp x (by simp [al])),
    K9 ao (fun t pC=>bJ t (List.mem_cons_of_mem _ pC)) ad (fun x al=>hs x (by simp [al])) (fun x al=>hp x (by simp [al])),rfl⟩
theorem Fr.below {W W':World} (h:Fr [] W W'):Below W.heap.size W W':=⟨h.os,h.tape,h.output,h.size,fun k au=>h.block k au (by simp)⟩
theorem TF {H:Type} {enc:TypeId × Value→H} {f:Func} {s:ChangeSpec} {W W':World} {args:Array Value} {ds gs:List (DataW H)} {before:List MemPlace} {hv:TypeId}
 (ao:laidOutB P=true) (hp:∀ t∈f.params.toList,P.readableRec t=true∧t < P.types.size) (aS:f.resultTypes= #[hv]) (hb:P.underlying hv=some .bool) (a6:s.vars= [])
 (hs:s.fn H ds= { results:= [.lit (.bool true)],args:=ds })
 (x7:DataW.Whole enc P f.params.toList s.vars false W args.toList ds gs before) (ob:Fr [] W W'):
 s.post enc P f false true false false W args (.bool true) W':=by
 have Zz:=x7
 obtain⟨p,q,gv,JR,rfl,df,aP⟩:=Zz
 rw [a6] at JR
 obtain⟨rfl,rfl⟩:=trodVars_none JR
 have cb:∀ x∈p,x.block < W.heap.size:=fun x al=>x7.lt x (by simpa using al)
 have lR:=ob.below
 have Xb:∀ x∈p,W.sameAt W' x:=fun x al=>lR.same (cb x al)
 have YN:∀ (b:Nat) (sp:Nat→Bool) (hd:Bool),DataW.TrodAll enc P W' b sp hd f.resultTypes.toList ((Value.bool true).resultList f.resultTypes.size) [.lit (.bool true)] []:=by
  intro b sp hd
  rw [aS]
  exact⟨[],[],shut_bool hb true,rfl,rfl⟩
 refine⟨ds,[],p ++ [],[],p,[],x7,?_,?_,?_,World.keptBut_mono (fun x al=> ?_) (lR.frame fun _=>False),fun h=>by cases h⟩
 ·rw [List.append_nil,hs]; exact YN _ _ _
 ·rw [List.append_nil,hs]; exact K9 ao hp gv Xb (fun x al=>by simpa using cb x al)
 ·rw [List.append_nil,hs,a6]; rfl
 ·exact al.elim
end Gv
namespace Gv
open Go Go.ChangeShapes Go.WideShapes Go.RowKit
theorem TG {P:Program} {fits:TypeId→Bool} {d:Nat} {e:TypeId} {count off n:Nat} (h:rowAt P fits d e count off n=true):off≤count * P.cellsOf e:=by
 cases d with
 | zero=>cases h
 | succ d=>
   unfold rowAt at h
   simp only at h
   split at h
   ·cases h
   ·rename_i hs
    have hp:0 < P.cellsOf e:=Nat.pos_of_ne_zero hs
    have abb:=Nat.div_add_mod off (P.cellsOf e)
    rw [Bool.or_eq_true] at h
    rcases h with h | h
    ·simp only [Bool.and_eq_true,beq_iff_eq,decide_eq_true_eq] at h
     have:P.cellsOf e * (off / P.cellsOf e)≤P.cellsOf e * count:=Nat.mul_le_mul_left _ (by omega)
     rw [Nat.mul_comm count]; omega
    ·simp only [Bool.and_eq_true,decide_eq_true_eq] at h
     have hm:=Nat.mod_lt off hp
     have:P.cellsOf e * (off / P.cellsOf e + 1)≤P.cellsOf e * count:=Nat.mul_le_mul_left _ (by omega)
     rw [Nat.mul_add] at this
     rw [Nat.mul_comm count]; omega
theorem La {P:Program} :∀ {d:Nat} {e:TypeId} {count off:Nat} {u:TypeId} {n:Nat},liesAt P d e count off u n=true→off≤count * P.cellsOf e
 | 0,_,_,_,_,_,h=>by cases h
 | d + 1,e,count,off,u,n,h=>by
   unfold liesAt at h
   rw [Bool.or_eq_true] at h
   rcases h with h | h
   ·exact TG h
   ·split at h
    ·exact La h
    ·cases h
structure vh (P:Program) (t:TypeId) (α:Type) [ag α]:Prop where
 top:∀ {H:Type} {enc:TypeId × Value→H} {W:World} {n b:Nat} {v:Value} {x:DataW H × List MemPlace},DataW.trod enc P W 0 (fun _=>true) true n t v.cells.toList=some x→Value.okWide P W .any b t v→ ∃ a:α,(I.of a).holds [] W v
variable {P:Program} {t e:TypeId}
theorem vh.of {α:Type} [ag α] (h:Arg P t α):vh P t α where
 top J ad:=let⟨a,ay⟩:=h.read J; ⟨a,h.form ad,ay⟩
theorem TH {α:Type} [ag α] (hu:P.underlying t=some (.slice e)) (he:Arg P e α) (df:Nat.beq (ag.size α) 0=false) {H:Type} {enc:TypeId × Value→H} {W:World} {n b:Nat} {v:Value} {x:DataW H × List MemPlace}
 (h:DataW.trod enc P W 0 (fun _=>true) true n t [v]=some x) (hV:Cell.okWide P W .any b t v):∃ a:List α,(I.of a).holds [] W v:=by
 have j9:ag.size α≠0:=fun h=>by rw [h] at df; cases df
 rcases DataW.trod_slice hu h with⟨J,_⟩ | ⟨a,len,cap,elems,rest,m,_,J,_,_,abc,vq,BB,YO,aaW,_⟩
 ·have:=List.singleton_inj.1 J
  subst this
  exact⟨[],mu.2 (.inl ⟨rfl,rfl⟩)⟩
 ·have:=List.singleton_inj.1 J
  subst this
  unfold Cell.okWide at hV
  simp only [hu] at hV
  unfold Cell.ok at hV
  rw [hu] at hV
  obtain⟨_,_,_,NO,row,cells,xT,YP⟩:=hV
  obtain⟨PN,sb,abd⟩:=a
  simp only at NO
  subst NO
  unfold World.shape? at xT
  cases er:W.heap[PN]? with
  | none=>rw [er] at xT; cases xT
  | some jz=>
    rw [er] at xT
    cases jz <;> simp at xT
    rename_i qw T hK
    obtain⟨abB,dW⟩:=xT
    have aa0:sb≤qw.size:=by
     have a0:sb≤_:=La YP
     have bl:=Nat.div_mul_le_self cells (P.cellsOf row)
     omega
    have Ay:=he.cells
    have fE:∀ i,i < len→ ∃ a:α,ag.rep [] W ((qw.toList.drop (sb + i * ag.size α)).take (ag.size α)) a∧sb + (i + 1) * ag.size α≤qw.size:=fun i ar=>by
     have a0:=YO i ar
     rw [List.getElem?_eq_getElem (by omega)] at a0
     obtain⟨dN,bl,cP⟩:=Option.bind_eq_some_iff.1 a0
     obtain⟨_,ao,ak⟩:=World.cells?_some bl
     rw [Ay] at ao ak bl
     have uY:∀ j,j < ag.size α→qw[sb + i * ag.size α + j]? =dN[j]? :=fun j aG=>by
      rw [← ak j aG,iC,iC]
      unfold World.cell?
      simp [er]
     have heq:(qw.toList.drop (sb + i * ag.size α)).take (ag.size α)=dN:=by
      apply List.ext_getElem?
      intro j
      rw [List.getElem?_take]
      by_cases aG:j < ag.size α
      ·rw [if_pos aG,List.getElem?_drop,Array.getElem?_toList]; exact uY j aG
      ·rw [if_neg aG]; symm; exact List.getElem?_eq_none (by omega)
     obtain⟨a,bd⟩:=he.read cP
     refine⟨a,by rw [heq]; exact bd,?_⟩
     have eL:=uY (ag.size α - 1) (by omega)
     rw [List.getElem?_eq_getElem (show ag.size α - 1 < dN.length by omega)] at eL
     have:=(Array.getElem?_eq_some_iff.1 eL).1
     rw [Nat.add_mul]; omega
    have hex:∃ xs:List α,xs.length=len∧ ∀ i (h:i < xs.length),ag.rep [] W ((qw.toList.drop (sb + i * ag.size α)).take (ag.size α)) xs[i]:=by
     refine⟨List.ofFn fun i:Fin len=>(fE i.1 i.2).choose,by simp,fun i ar=> ?_⟩
     have gp:i < len:=by simpa using ar
     rw [List.getElem_ofFn]
     exact(fE i gp).choose_spec.1
    obtain⟨xs,By,ZA⟩:=hex
    have hbound:sb + xs.length * ag.size α≤qw.size:=by
     rw [By]
     rcases Nat.eq_zero_or_pos len with bG | bG
     ·rw [bG]; omega
     ·have:=(fE (len - 1) (by omega)).choose_spec.2
      rw [show len - 1 + 1=len by omega] at this
      exact this
    refine⟨xs,mu.2 (.inr ⟨PN,sb,cap,qw,T,hK,by rw [By],by simp,er,by omega,by omega,hbound,?_,fun i ar=> ?_⟩)⟩
    ·rw [List.length_take,List.length_drop]; simp; omega
    ·have hle:(i + 1) * ag.size α≤xs.length * ag.size α:=Nat.mul_le_mul_right _ ar
     rw [Nat.succ_mul] at hle
     rw [tQ _ _ _ _ _ hle]
     exact ZA i ar
theorem vh.ZB {α:Type} [ag α] (hu:P.underlying t=some (.slice e)) (he:Arg P e α) (df:Nat.beq (ag.size α) 0=false):vh P t (List α) where
 top {H enc W n b v x} h hV:=by
  have xA:Cell.okWide P W .any b t v:=by
   unfold Value.okWide at hV
   simp only [hu] at hV
   exact hV
  have YQ:v.oneCell'=true:=by
   unfold Cell.okWide at xA
   simp only [hu] at xA
   unfold Cell.ok at xA
   rw [hu] at xA
   cases v <;> first | rfl | simp at xA
  rw [oo YQ] at h
  exact TH hu he df h xA
theorem KR {H:Type} {enc:TypeId × Value→H} {W:World} {gZ:List TypeId} {vs:List Value} {ds:List (DataW H)} {br:List MemPlace} {α:Type} [ag α] {b:Nat} (bd:vh P t α)
 (h:DataW.TrodAll enc P W 0 (fun _=>true) true (t :: gZ) vs ds br) (hV:∀ (j:Nat) u v,(t :: gZ)[j]? =some u→vs[j]? =some v→Value.okWide P W .any b u v):
 ∃ (a:α) (v:Value) (IW:List Value) (Pe:List (DataW H)) (mM:List MemPlace) (d:DataW H),vs=v :: IW∧ds=d :: Pe∧ (I.of a).holds [] W v∧DataW.TrodAll enc P W 0 (fun _=>true) true gZ IW Pe mM∧
   (∀ (j:Nat) u w,gZ[j]? =some u→IW[j]? =some w→Value.okWide P W .any b u w):=by
 obtain⟨v,IU,d,IV,p,q,rfl,rfl,rfl,⟨n,J⟩,ad⟩:=trodAll_cons h
 obtain⟨a,ay⟩:=bd.top J (hV 0 t v rfl rfl)
 exact⟨a,v,IU,IV,q,d,rfl,rfl,ay,ad,fun j u w aG hw=>hV (j + 1) u w (by simpa using aG) (by simpa using hw)⟩
end Gv
namespace Gv
open Go
theorem Sr {L' L:List aJ} (h:L'.Sublist L):(aL L').Sublist (aL L):=by
 induction h with
 | slnil=>simp [aL]
 | cons e _ bH=>cases au:e.key <;> simp only [aL,au] <;> first | exact bH | exact bH.cons _
 | cons_cons e _ bH=>cases au:e.key <;> simp only [aL,au] <;> first | exact bH | exact bH.cons_cons _
theorem aJ.sB {e:aJ} {A c0 W W'} (h:e.ok A W) (x:Ext A W c0 W') (hb:∀ p,e.key=some p→W'.heap[p]? =W.heap[p]?):e.ok c0 W':=by
 unfold aJ.ok at *
 cases au:e.key with
 | none=>rw [au] at h; exact h
 | some p=>
   rw [au] at h
   obtain⟨o,J,ad⟩:=h
   exact⟨o,by rw [hb p au]; exact J,dr.mono _ x ad⟩
def j1 (X bX:List Nat) (iP:World) {δ:Type} (ρ:δ→I) (Lo:δ→List aJ):Ending→World→Prop:=fun e W'=>
 ∃ v d,e= .returned v∧Fr X iP W'∧ (aL (Lo d)).Nodup∧ (∀ k∈aL (Lo d),k < W'.heap.size∧ (k < iP.heap.size→k∈X)∧k ∉ bX)∧ (∀ e∈Lo d,e.ok (aL (Lo d) ++ bX) W')∧ (ρ d).holds (aL (Lo d) ++ bX) W' v
def bO (P:Program) (f:FuncId) (τs:List I) (Lin:List aJ) {δ:Type} (ρ:δ→I) (Lo:δ→List aJ):Prop:=
 ∀ (A:List Nat) (W:World) (vs:List Value),(∀ k∈A,k < W.heap.size∧k ∉ aL Lin)→ (aL Lin).Nodup→ (∀ k∈aL Lin,k < W.heap.size)→ (∀ e∈Lin,e.ok (aL Lin ++ A) W)→gb (aL Lin ++ A) W τs vs→
   Calls P f vs.toArray W (j1 (aL Lin) A W ρ Lo)
theorem bO.of {P:Program} {f:FuncId} {fn:Func} {code:Code} {n:Nat} {τs:List I} {Lin:List aJ} {δ:Type} {ρ:δ→I} {Lo:δ→List aJ} (a8:P.funcs[f]? =some fn) (hb:fn.body=some code) (aP:fn.ntmps=n) (hlen:Nat.ble τs.length n=true)
 (h:∀ W A,ai ⟨P,n,W,aL Lin,A,none,[]⟩ (bodyPost P fn (j1 (aL Lin) A W ρ Lo)) code (params 0 τs) Lin):bO P f τs Lin ρ Lo:=by
 intro A W vs gv fV cb hV a6
 refine calls_of_wp a8 hb (wpIn_wide.1 (h W A _ _ ?_))
 have ao:=a6.length
 have hle:τs.length≤n:=Nat.le_of_ble_eq_true hlen
 exact
 {defers:=rfl
  size:=by simp [aP,ao]; omega
  env:=fun t τ kx=>by
   obtain⟨_,v,ad,ay⟩:=tV a6 0 t τ kx
   refine⟨v,?_,ay⟩
   have cb:t < vs.length:=(List.getElem?_eq_some_iff.1 ad).1
   rw [Array.getElem?_append_left (by simpa using cb)]
   simpa using ad
  dw:= .refl _ _
  own:=hV
  nodup:=fV
  lt:=cb
  fD:=fun k au _=>au
  eF:=gv }
section
variable {c:c5} {E:List (Nat × I)} {L:List aJ} {ops:Array Oper} {Q:Exit→Act→World→Prop}
variable {d:Option Tmp} {ty:TypeId} {pos:String} {af:Array Edge} {g:Option (Nat × Bool)} {x y:Operand} {t t2:TypeId}
def BC (c:c5) (E:List (Nat × I)) (L:List aJ) (r:ResultVar) (τ:I):Prop:=
 ∀ a W,bw c E L a W→ ∃ v,(uA a.tmps r).run c.P W= .ok v W∧τ.holds (aL L ++ c.bX) W v
theorem dH {t:Nat} {τ:I} (h:look E t=some τ):BC c E L (.tmp t) τ:=fun a W s=>by
 obtain⟨v,J,ad⟩:=s.env t τ h
 exact⟨v,by simp [uA,J],ad⟩
theorem kk {t:Nat} {ty:TypeId} {i p:Nat} {α:Type} [ag α] {x:α} (ev:bt c.P ty α) (h:look E t=some (.eq (.pointer (some ⟨p,0,none⟩)))) (an:L[i]? =some ⟨some p,.var x⟩):BC c E L (.cell t ty) (.of x):=fun a W s=>by
 obtain⟨v,J,ad⟩:=s.env t _ h
 subst ad
 obtain⟨jz,er,cs,T,rfl,fE⟩:=s.own _ (List.mem_of_getElem? an)
 have ao:cs.toList.length=ag.size α:=ag.len fE
 have dW:cs.size=ag.size α:=by simpa using ao
 obtain⟨v,ay,aU⟩:=tO (A:=aL L ++ c.bX) (off:=0) ev er (by omega) (by rw [List.drop_zero,← ao,List.take_length]; exact fE)
 exact⟨v,by simp [uA,J,asAddr,ay],aU⟩
theorem bw.ends {a:Act} {W:World} (s:bw c E L a W) {δ:Type} {ρ:δ→I} {Lo:δ→List aJ} (bb:δ) (hs:(Lo bb).Sublist L) {v:Value} (a6:(ρ bb).holds (aL L ++ c.bX) W v):j1 c.X c.bX c.iP ρ Lo (.returned v) W:=by
 have kp:=Sr hs
 have au:∀ k∈aL (Lo bb),k∈aL L:=fun k au=>kp.subset au
 have gK:Ext (aL L ++ c.bX) W (aL (Lo bb) ++ c.bX) W:= .drop fun k hm=>by
  rcases List.mem_append.1 hm with hm | hm
  ·exact List.mem_append.2 (.inl (au k hm))
  ·exact List.mem_append.2 (.inr hm)
 exact⟨v,bb,rfl,s.dw,s.nodup.sublist kp,fun k hm=>⟨s.lt k (au k hm),s.fD k (au k hm),fun bd=>(s.eF k bd).2 (au k hm)⟩,
  fun e he=>aJ.sB (s.own e (hs.subset he)) gK fun _ _=>rfl,I.mono _ gK a6⟩
theorem ae.eW {fn:Func} {r:ResultVar} {τ:I} {δ:Type} {ρ:δ→I} {Lo:δ→List aJ} (bb:δ) (hs:(Lo bb).Sublist L) (aS:fn.results= #[r]) (vD:ρ bb=τ) (h:BC c E L r τ) (hH:c.ds= []:=by rfl):ae c (bodyPost c.P fn (j1 c.X c.bX c.iP ρ Lo)) .ret E L:=fun a W s=>by
 subst vD
 obtain⟨v,J,ad⟩:=h a W s
 exact⟨s.wQ hH,v,by simp [wP,aS,J],s.ends bb hs ad⟩
theorem ae.kl {fn:Func} {r gY:ResultVar} {τ pD:I} {δ:Type} {ρ:δ→I} {Lo:δ→List aJ} (bb:δ) (hs:(Lo bb).Sublist L) (aS:fn.results= #[r,gY]) (vD:ρ bb= .eD [τ,pD]) (h:BC c E L r τ) (ad:BC c E L gY pD) (hH:c.ds= []:=by rfl):ae c (bodyPost c.P fn (j1 c.X c.bX c.iP ρ Lo)) .ret E L:=fun a W s=>by
 obtain⟨v,ay,aU⟩:=h a W s
 obtain⟨v2,a0,bl⟩:=ad a W s
 exact⟨s.wQ hH,.tuple #[v,v2],by simp [wP,aS,ay,a0],s.ends bb hs (by rw [vD]; exact⟨_,rfl,.cons aU (.cons bl .nil)⟩)⟩
theorem su:∀ {L:List aJ} {i:Nat} {e:aJ},L[i]? =some e→L.Perm (e :: L.eraseIdx i)
 | [],i,e,h=>by simp at h
 | x :: r,0,e,h=>by simp only [List.getElem?_cons_zero,Option.some.injEq] at h; subst h; exact .refl _
 | x :: r,i + 1,e,h=>by
   simp only [List.getElem?_cons_succ] at h
   exact((su h).cons x).trans (.swap e x _)
theorem bw.bU {a:Act} {W:World} (s:bw c E L a W) {i:Nat} {e:aJ} (h:L[i]? =some e):bw c E (e :: L.eraseIdx i) a W:=s.perm (su h)
theorem ah.bU {l:List Oper} (i:Nat) {e:aJ} (h:L[i]? =some e) (k:ah c ops Q l E (e :: L.eraseIdx i)):ah c ops Q l E L:=fun a W s=>k a W (s.bU h)
theorem ae.bU {z:Exit} (i:Nat) {e:aJ} (h:L[i]? =some e) (k:ae c Q z E (e :: L.eraseIdx i)):ae c Q z E L:=fun a W s=>k a W (s.bU h)
theorem bw.after {a:Act} {W W':World} {Lin Lr:List aJ} (s:bw c E (Lin ++ Lr) a W) {Lo:List aJ} (a8:Fr (aL Lin) W W') (fV:(aL Lo).Nodup)
 (au:∀ k∈aL Lo,k < W'.heap.size∧ (k < W.heap.size→k∈aL Lin)∧k ∉ aL Lr ++ c.bX) (hV:∀ e∈Lo,e.ok (aL Lo ++ (aL Lr ++ c.bX)) W'):bw c E (Lo ++ Lr) a W':=by
 have gK:Ext (aL (Lin ++ Lr) ++ c.bX) W (aL (Lo ++ Lr) ++ c.bX) W':=
  ⟨a8.size,fun k cb bd=>a8.block k cb fun hm=>bd (by rw [eB]; simp [hm]),fun k hm cb=>by
   rw [eB] at hm ⊢
   simp only [List.mem_append] at hm ⊢
   rcases hm with(hm | hm) | hm
   ·exact .inl (.inl ((au k hm).2.1 cb))
   ·exact .inl (.inr hm)
   ·exact .inr hm⟩
 have lH:=s.nodup
 rw [eB] at lH
 obtain⟨lS,mN,pF⟩:=List.nodup_append.1 lH
 have xI:∀ k∈aL Lr,k < W.heap.size∧k ∉ aL Lin:=fun k hm=>⟨s.lt k (by rw [eB]; exact List.mem_append.2 (.inr hm)),fun h=>pF k h k hm rfl⟩
 exact
 {defers:=s.defers
  size:=s.size
  env:=fun t τ ao=>let⟨v,J,ad⟩:=s.env t τ ao; ⟨v,J,τ.mono gK ad⟩
  dw:=⟨a8.os.trans s.dw.os,a8.tape.trans s.dw.tape,a8.output.trans s.dw.output,Nat.le_trans s.dw.size a8.size,fun k cb al=>
   (a8.block k (Nat.lt_of_lt_of_le cb s.dw.size) fun hm=>al (s.fD k (by rw [eB]; exact List.mem_append.2 (.inl hm)) cb)).trans (s.dw.block k cb al)⟩
  own:=fun e he=>by
   rcases List.mem_append.1 he with he | he
   ·have:=hV e he
    refine aJ.sB this (.drop fun k hm=> ?_) fun _ _=>rfl
    rw [eB] at hm
    simp only [List.mem_append] at hm ⊢
    rcases hm with(hm | hm) | hm
    ·exact .inl hm
    ·exact .inr (.inl hm)
    ·exact .inr (.inr hm)
   ·exact aJ.sB (s.own e (List.mem_append.2 (.inr he))) gK fun p hp=>by
     have:=xI p (kJ.2 ⟨e,he,hp⟩)
     exact a8.block p this.1 this.2
  nodup:=by
   rw [eB]
   exact List.nodup_append.2 ⟨fV,mN,fun k J j ad e=>by subst e; exact(au k J).2.2 (List.mem_append.2 (.inl ad))⟩
  lt:=fun k hm=>by
   rw [eB] at hm
   rcases List.mem_append.1 hm with hm | hm
   ·exact(au k hm).1
   ·exact Nat.lt_of_lt_of_le (xI k hm).1 a8.size
  fD:=fun k hm bG=>by
   rw [eB] at hm
   have cb:k < W.heap.size:=Nat.lt_of_lt_of_le bG s.dw.size
   rcases List.mem_append.1 hm with hm | hm
   ·exact s.fD k (by rw [eB]; exact List.mem_append.2 (.inl ((au k hm).2.1 cb))) bG
   ·exact s.fD k (by rw [eB]; exact List.mem_append.2 (.inr hm)) bG
  eF:=fun k hm=>by
   obtain⟨J,ad⟩:=s.eF k hm
   refine⟨Nat.lt_of_lt_of_le J a8.size,fun h=> ?_⟩
   rw [eB] at h ad
   rcases List.mem_append.1 h with h | h
   ·exact(au k h).2.2 (List.mem_append.2 (.inr hm))
   ·exact ad (List.mem_append.2 (.inr h)) }
theorem ha.MP {xs:List Operand} {τs:List I} (h:ha c E L xs τs) {a:Act} {W:World} (s:bw c E L a W):gb (aL L ++ c.bX) W τs (xs.map a.eval):=h.holds a W s
theorem zm {a:Act} {W:World} {f:FuncId} {xs:List Operand} {ats:Array TypeId} {τs:List I} {Lin Lr:List aJ} {δ:Type} {ρ:δ→I} {Lo:δ→List aJ} (eg:bM c.P f) (h:bO c.P f τs Lin ρ Lo)
 (s:bw c E (Lin ++ Lr) a W) (al:gb (aL (Lin ++ Lr) ++ c.bX) W τs (xs.map a.eval)):
 gj c.P ⟨d,.call ⟨.value (.func f),xs.toArray,ats⟩,ty,pos,af,g⟩ a W fun v W'=> ∃ bb,bw c E (Lo bb ++ Lr) a W'∧ (ρ bb).holds (aL (Lo bb ++ Lr) ++ c.bX) W' v:=by
 have lH:=s.nodup
 rw [eB] at lH
 obtain⟨lS,mN,pF⟩:=List.nodup_append.1 lH
 have kq:Ext (aL (Lin ++ Lr) ++ c.bX) W (aL Lin ++ (aL Lr ++ c.bX)) W:= .drop fun k hm=>by
  rw [eB]
  simp only [List.mem_append] at hm ⊢
  rcases hm with hm | hm | hm
  ·exact .inl (.inl hm)
  ·exact .inl (.inr hm)
  ·exact .inr hm
 have gv:∀ k∈aL Lr ++ c.bX,k < W.heap.size∧k ∉ aL Lin:=fun k hm=>by
  rcases List.mem_append.1 hm with hm | hm
  ·exact⟨s.lt k (by rw [eB]; exact List.mem_append.2 (.inr hm)),fun h=>pF k h k hm rfl⟩
  ·obtain⟨J,ad⟩:=s.eF k hm
   exact⟨J,fun h=>ad (by rw [eB]; exact List.mem_append.2 (.inl h))⟩
 have cb:∀ k∈aL Lin,k < W.heap.size:=fun k hm=>s.lt k (by rw [eB]; exact List.mem_append.2 (.inl hm))
 refine .uf (f:=f) (args:=(xs.map a.eval).toArray) (W':=W) (by simp [execOp,resolve,Deferred.ofValue,Act.eval,invoke,eg.run]) ?_
 refine(h (aL Lr ++ c.bX) W (xs.map a.eval) gv lS cb (fun e he=>aJ.sB (s.own e (List.mem_append.2 (.inl he))) kq fun _ _=>rfl) (al.mono kq)).mono fun e W' ⟨v,bb,he,a8,J,ad,ay,aU⟩=> ?_
 refine⟨v,he,bb,s.after a8 J ad ay,(ρ bb).mono (.drop fun k hm=> ?_) aU⟩
 rw [eB] at hm
 simp only [List.mem_append] at hm ⊢
 rcases hm with(hm | hm) | hm
 ·exact .inl hm
 ·exact .inr (.inl hm)
 ·exact .inr (.inr hm)
theorem ah.l2 {rest:List Oper} {bb:Nat} {f:FuncId} {xs:List Operand} {ats:Array TypeId} {τs:List I} {Lin Lr:List aJ} {δ:Type} {ρ:δ→I} {Lo:δ→List aJ} (eg:bM c.P f) (h:bO c.P f τs Lin ρ Lo)
 (al:ha c E (Lin ++ Lr) xs τs) (aP:Nat.blt bb c.n=true) (k:∀ q,ah c ops Q rest ((bb,ρ q) :: E) (Lo q ++ Lr)):
 ah c ops Q (⟨some bb,.call ⟨.value (.func f),xs.toArray,ats⟩,ty,pos,af,none⟩ :: rest) E (Lin ++ Lr):=fun a W s=>
 g9 rfl (zm eg h s (al.holds a W s)) fun v W' ⟨q,b9,a6⟩=>k q _ _ (b9.put (by simpa using aP) a6)
end
def ea {α:Type} (xs:List α) (k:Nat) (v:α):List α:=xs.set k v
section
variable {c:c5} {E:List (Nat × I)} {L:List aJ} {ops:Array Oper} {Q:Exit→Act→World→Prop}
variable {d:Option Tmp} {ty:TypeId} {pos:String} {af:Array Edge} {g:Option (Nat × Bool)} {x y:Operand} {t t2:TypeId}
theorem bw.rowAt {a:Act} {W:World} (s:bw c E L a W) {i:Nat} {key:Option Nat} {T cap:Nat} {α:Type} [ag α] {xs:List α} (an:L[i]? =some ⟨key,.row T xs cap⟩) (al:0 < xs.length):
 ∃ p cs,key=some p∧W.heap[p]? =some (.cells cs T (0,0))∧cs.size=cap * ag.size α∧xs.length≤cap∧cap≤maxLen∧gi (aL L ++ c.bX) W (cs.toList.take (xs.length * ag.size α)) xs:=by
 have a9:=s.own _ (List.mem_of_getElem? an)
 cases key with
 | none=>have:xs= []:=a9.1; subst this; simp at al
 | some p=>
   obtain⟨o,er,cs,rfl,J,ad,ay,aU⟩:=a9
   exact⟨p,cs,rfl,er,J,ad,ay,aU⟩
theorem lB {e i k T cap:Nat} {key:Option Nat} {α:Type} [ag α] {xs:List α} {z:Int} (hu:c.P.underlying t=some (.slice e)) (ew:bt c.P e α) (al:a7 c E L x (.eq (ba key xs.length cap))) (a5:a7 c E L y (.of z))
 (an:L[i]? =some ⟨key,.row T xs cap⟩) (au:k < xs.length∧z=k):b4 c E L ⟨d,.indexAddr t x y,ty,pos,af,g⟩ (.eq (.pointer (some ⟨key.getD 0,k * ag.size α,none⟩))):= .pure fun a W s=>by
 obtain⟨bl,rfl⟩:=au
 obtain⟨p,cs,rfl,_⟩:=s.rowAt an (by omega)
 have J:a.eval x=_:=al a W s
 have a0:=of_int.1 (a5 a W s)
 obtain⟨fN,eb,dW⟩:=ew.info
 exact⟨_,by simp [execOp,Instr.indexAt,asIntOf,run_underlying hu,J,a0,bl,Go.sizeOf,typeInfo,eb,dW,iC,ba]; rfl,by simp [I.eq]⟩
theorem xb {k n s:Nat} (h:k < n):k * s + s≤n * s:=by rw [← Nat.succ_mul]; exact Nat.mul_le_mul_right _ h
theorem p6 {i k T cap o:Nat} {key:Option Nat} {α γ:Type} [ag α] [Inhabited α] [ag γ] {xs:List α} (l:aQ α γ) {r:γ} (ev:bt c.P t γ) (al:a7 c E L x (.eq (.pointer (some ⟨key.getD 0,o,none⟩))))
 (an:L[i]? =some ⟨key,.row T xs cap⟩) (au:k < xs.length) (a9:o=k * ag.size α + l.off) (aS:l.get (aI xs k)=r):b4 c E L ⟨d,.load t x,ty,pos,af,g⟩ (.of r):= .pure fun a W s=>by
 subst a9; subst aS
 obtain⟨p,cs,rfl,er,J,ad,ay,aU⟩:=s.rowAt an (by omega)
 have ef:=xb (s:=ag.size α) au
 have ao:=l.fW
 have hle:xs.length * ag.size α≤cap * ag.size α:=Nat.mul_le_mul_right _ ad
 have fE:=l.hX (aU.2 k au)
 rw [tQ _ _ _ _ _ l.fW,List.drop_take,List.take_take,Nat.min_eq_left (by omega)] at fE
 rw [eV xs au]
 obtain⟨v,a0,bl⟩:=tO (A:=aL L ++ c.bX) ev er (off:=k * ag.size α + l.off) (by omega) fE
 have cP:a.eval x=_:=al a W s
 simp only [Option.getD_some] at cP
 exact⟨v,by simp [execOp,Instr.loadAt,Instr.sureAddr,cP,a0],bl⟩
theorem ah.ux {rest:List Oper} {i k T cap o:Nat} {key:Option Nat} {α γ:Type} [ag α] [Inhabited α] [ag γ] {xs r:List α} {v:γ} (l:aQ α γ) (ev:bt c.P t γ) (al:a7 c E L x (.eq (.pointer (some ⟨key.getD 0,o,none⟩)))) (a5:a7 c E L y (.of v))
 (an:L[i]? =some ⟨key,.row T xs cap⟩) (au:k < xs.length) (a9:o=k * ag.size α + l.off) (aS:ea xs k (l.set (aI xs k) v)=r)
 (k':ah c ops Q rest E (L.set i ⟨key,.row T r cap⟩)):ah c ops Q (⟨none,.store t x y,ty,pos,af,none⟩ :: rest) E L:=fun a W s=>by
 subst a9; subst aS
 obtain⟨p,cs,rfl,er,J,ad,ay,aU⟩:=s.rowAt an (by omega)
 have ef:=xb (s:=ag.size α) au
 have ao:=l.fW
 have hle:xs.length * ag.size α≤cap * ag.size α:=Nat.mul_le_mul_right _ ad
 have a6:=a5 a W s
 have tq:(a.eval y).cells.toList.length=ag.size γ:=ag.len a6.2
 have a0:=y7 (A:=aL L ++ c.bX) ev er (off:=k * ag.size α + l.off) (by omega) a6
 have cP:a.eval x=_:=al a W s
 simp only [Option.getD_some] at cP
 refine g9 rfl (R:=fun v W'=>W'=W.setRow p (fH cs.toList (k * ag.size α + l.off) (a.eval y).cells.toList).toArray) (.wY ?_ rfl) fun u W' hw=> ?_
 ·simp [execOp,Instr.storeAt,Instr.sureAddr,cP,a0]
 ·subst hw
  refine k' _ _ (s.store an er ?_)
  have kW:cs.toList.length=cap * ag.size α:=by simpa using J
  have lO:(fH cs.toList (k * ag.size α + l.off) (a.eval y).cells.toList).length=cs.toList.length:=by
   simp only [fH,List.length_append,List.length_take,List.length_drop,tq]; omega
  refine⟨_,rfl,by simpa [kW] using lO,by simpa [ea] using ad,ay,?_⟩
  have av:=aU.2 k au
  have bm:=l.kI av a6.2
  have bS:=GJ aU au bm
  have qv:(cs.toList.take (xs.length * ag.size α)).length=xs.length * ag.size α:=by rw [List.length_take]; omega
  rw [K7 _ _ _ _ _ _ l.fW (by omega)] at bS
  have hlen:(ea xs k (l.set (aI xs k) v)).length=xs.length:=by simp [ea]
  rw [hlen,List.toList_toArray]
  have e:(fH cs.toList (k * ag.size α + l.off) (a.eval y).cells.toList).take (xs.length * ag.size α)=
   (cs.toList.take (xs.length * ag.size α)).take (k * ag.size α + l.off) ++ (a.eval y).cells.toList ++ (cs.toList.take (xs.length * ag.size α)).drop (k * ag.size α + l.off + ag.size γ):=by
   have aF:(cs.toList.take (k * ag.size α + l.off)).length=k * ag.size α + l.off:=by rw [List.length_take]; omega
   have aR:(cs.toList.take (k * ag.size α + l.off) ++ (a.eval y).cells.toList).length=k * ag.size α + l.off + ag.size γ:=by rw [List.length_append,aF,tq]
   rw [fH,tq,List.take_append,aR,List.take_of_length_le (by omega),List.take_take,Nat.min_eq_left (by omega),List.drop_take]
  rw [e,show ea xs k (l.set (aI xs k) v)=xs.set k (l.set xs[k] v) by rw [ea,eV xs au]]
  exact bS
def hi (key:Option Nat) (lo n cap size:Nat):Value:=match key with
 | some p=> .slice (some (if cap=lo then⟨p,0,none⟩ else⟨p,lo * size,none⟩)) n (cap - lo)
 | none=> .slice none 0 0
theorem zn {key:Option Nat} {n cap size:Nat} :hi key 0 n cap size=ba key n cap:=by
 cases key <;> simp [hi,ba]
theorem Di {i T cap:Nat} {key:Option Nat} {α:Type} [ag α] {xs:List α} {e:TypeId} {lo ar:Option Operand} {m n:Nat} {B7 B8:Int} (hu:c.P.underlying t=some (.slice e)) (ew:bt c.P e α) (al:a7 c E L x (.eq (ba key xs.length cap)))
 (an:L[i]? =some ⟨key,.row T xs cap⟩) (fR:tu c E L lo B7 0) (dm:tu c E L ar B8 xs.length) (hm:B7=m) (aP:B8=n) (h:m≤n∧n≤xs.length):
 b4 c E L ⟨d,.slice t x lo ar none,ty,pos,af,g⟩ (.eq (hi key m (n - m) cap (ag.size α))):= .pure fun a W s=>by
 subst hm; subst aP
 obtain⟨rP,ky⟩:=h
 obtain⟨fN,eb,dW⟩:=ew.info
 have J:a.eval x=_:=al a W s
 have a9:=s.own _ (List.mem_of_getElem? an)
 cases key with
 | none=>
   have g4:xs= []:=a9.1
   subst g4
   have qt:n=0:=by simpa using ky
   have gO:m=0:=by omega
   subst qt
   subst gO
   refine⟨.slice none 0 0,?_,rfl⟩
   have an:(match lo.map a.eval with | some v=>Instr.sliceBound v 0 .sliceB | none=>pure 0:Sem Nat).run c.P W= .ok 0 W:=by
    cases fR with
    | none=>rfl
    | some ao=>exact om (Nat.le_refl _) (of_int.1 (ao a W s))
   have jc:(match ar.map a.eval,(none:Option Value) with | some v,some _=>Instr.sliceBound v 0 .slice3B | some v,none=>Instr.sliceBound v 0 .sliceAcap | none,none=>pure 0 | none,some _=>stuck "Slice: max without high" :Sem Nat).run c.P W= .ok 0 W:=by
    cases dm with
    | none=>rfl
    | some ao=>exact om (Nat.le_refl _) (of_int.1 (ao a W s))
   cases fR <;> cases dm
   all_goals
    simp only [ba,execOp,Instr.sliceAt,Instr.slice,Instr.sliceBounds,J,Sem.run_bind,run_underlying hu,Result.andThen_ok,Option.map_none,Option.map_some,Option.isSome_none,Bool.false_eq_true,if_false,if_true,Sem.run_pure] at an jc ⊢
    try simp only [an,jc,Result.andThen_ok,Go.sizeOf,typeInfo,Sem.run_bind,run_program,eb,Sem.run_pure]
    try simp [eb]
 | some p=>
   obtain⟨o,er,cs,rfl,av,bm,bS,dq⟩:=a9
   refine⟨_,?_,rfl⟩
   simp only [hi]
   have an:∀ v,v=Value.int .i64 m→ (Instr.sliceBound v n .sliceB).run c.P W= .ok m W:=fun v a6=>om rP a6
   have jc:∀ v,v=Value.int .i64 n→ (Instr.sliceBound v cap .sliceAcap).run c.P W= .ok n W:=fun v a6=>om (by omega) a6
   generalize ef:(n:Int)=PH at dm
   generalize Bx:(m:Int)=PI at fR
   generalize By:(xs.length:Int)=PJ at dm
   generalize Pb:(0:Int)=PK at fR
   cases fR with
   | none=>
     have gO:m=0:=by omega
     cases dm with
     | none=>
       have ky:n=xs.length:=by omega
       subst ky
       subst gO
       simp [execOp,Instr.sliceAt,Instr.slice,Instr.sliceBounds,J,ba,run_underlying hu,Go.sizeOf,typeInfo,eb,dW,iC]
     | some ck=>
       subst ef
       subst gO
       simp [execOp,Instr.sliceAt,Instr.slice,Instr.sliceBounds,J,ba,run_underlying hu,Go.sizeOf,typeInfo,eb,dW,iC,jc _ (of_int.1 (ck a W s))]
   | some ao=>
     subst Bx
     cases dm with
     | none=>
       have ky:n=xs.length:=by omega
       subst ky
       simp [execOp,Instr.sliceAt,Instr.slice,Instr.sliceBounds,J,ba,run_underlying hu,Go.sizeOf,typeInfo,eb,dW,iC,an _ (of_int.1 (ao a W s))]
       split <;> rfl
     | some ck=>
       subst ef
       simp [execOp,Instr.sliceAt,Instr.slice,Instr.sliceBounds,J,ba,run_underlying hu,Go.sizeOf,typeInfo,eb,dW,iC,an _ (of_int.1 (ao a W s)),jc _ (of_int.1 (ck a W s))]
       split <;> rfl
theorem bw.again {a:Act} {W:World} (s:bw c E L a W) {i:Nat} {key:Option Nat} {cp cp':dr} (an:L[i]? =some ⟨key,cp⟩) (h:∀ A W o,cp.holds A W o→cp'.holds A W o) (aP:cp.l4→cp'.l4):bw c E (L.set i ⟨key,cp'⟩) a W:=by
 have gN:aL (L.set i ⟨key,cp'⟩)=aL L:=xa (e:=⟨key,cp⟩) (cp:=cp') an
 exact
 {defers:=s.defers
  size:=s.size
  env:=fun t τ ao=>by rw [gN]; exact s.env t τ ao
  dw:=s.dw
  own:=fun e he=>by
   rw [gN]
   obtain⟨j,aG⟩:=List.mem_iff_getElem?.1 he
   rw [List.getElem?_set] at aG
   split at aG
   ·split at aG
    ·simp only [Option.some.injEq] at aG
     subst aG
     have a9:=s.own _ (List.mem_of_getElem? an)
     cases key with
     | none=>exact aP a9
     | some p=>obtain⟨o,J,ad⟩:=a9; exact⟨o,J,h _ _ _ ad⟩
    ·cases aG
   ·exact s.own e (List.mem_of_getElem? aG)
  nodup:=by rw [gN]; exact s.nodup
  lt:=by rw [gN]; exact s.lt
  fD:=by rw [gN]; exact s.fD
  eF:=by rw [gN]; exact s.eF }
theorem GF {T cap n:Nat} {α:Type} [ag α] {xs:List α} (aP:n≤xs.length) {A W o} (h:(dr.row T xs cap).holds A W o):(dr.row T (xs.take n) cap).holds A W o:=by
 obtain⟨cs,rfl,J,ad,ay,aU⟩:=h
 have ao:(xs.take n).length=n:=by rw [List.length_take]; omega
 have hle:n * ag.size α≤xs.length * ag.size α:=Nat.mul_le_mul_right _ aP
 have EC:xs.length * ag.size α≤cap * ag.size α:=Nat.mul_le_mul_right _ ad
 refine⟨cs,rfl,J,by omega,ay,?_⟩
 rw [ao]
 have kW:cs.toList.length=cap * ag.size α:=by simpa using J
 refine⟨by rw [List.length_take,ao]; omega,fun i ar=> ?_⟩
 have gp:i < n:=by omega
 have ef:=xb (s:=ag.size α) gp
 have:=aU.2 i (by omega)
 rw [List.drop_take,List.take_take,Nat.min_eq_left (by omega)] at this ⊢
 rw [List.getElem_take]
 exact this
end
def qa {α:Type} [Inhabited α] (xs:List α) (lo n:Nat):List α:=xs.take lo ++ List.replicate n default ++ xs.drop (lo + n)
theorem Lb {α:Type} [ag α] {A W} {cs ds:List Value} {xs ys:List α} {lo:Nat} (h:gi A W cs xs) (cX:gi A W ds ys) (au:lo + ys.length≤xs.length):
 gi A W (cs.take (lo * ag.size α) ++ ds ++ cs.drop (lo * ag.size α + ds.length)) (xs.take lo ++ ys ++ xs.drop (lo + ys.length)):=by
 have ao:=h.1
 have hle:lo * ag.size α≤xs.length * ag.size α:=Nat.mul_le_mul_right _ (by omega)
 have t1:gi A W (cs.take (lo * ag.size α)) (xs.take lo):=by
  have e:(xs.take lo).length=lo:=by rw [List.length_take]; omega
  refine⟨by rw [List.length_take,e]; omega,fun i ar=> ?_⟩
  have gp:i < lo:=by omega
  have:=h.2 i (by omega)
  have ef:=xb (s:=ag.size α) gp
  rw [List.drop_take,List.take_take,Nat.min_eq_left (by omega),List.getElem_take]
  exact this
 have t3:gi A W (cs.drop (lo * ag.size α + ds.length)) (xs.drop (lo + ys.length)):=by
  have e:lo * ag.size α + ds.length=(lo + ys.length) * ag.size α:=by rw [cX.1,Nat.add_mul]
  rw [e]
  refine⟨by rw [List.length_drop,List.length_drop,ao,← Nat.sub_mul],fun i ar=> ?_⟩
  rw [List.length_drop] at ar
  have:=h.2 (lo + ys.length + i) (by omega)
  rw [List.drop_drop,← Nat.add_mul,List.getElem_drop]
  exact this
 exact sr (sr t1 cX) t3
section
variable {c:c5} {E:List (Nat × I)} {L:List aJ} {ops:Array Oper} {Q:Exit→Act→World→Prop}
variable {d:Option Tmp} {ty:TypeId} {pos:String} {af:Array Edge} {g:Option (Nat × Bool)} {x y:Operand} {t t2:TypeId}
theorem ah.clear {rest:List Oper} {i e T cap lo n:Nat} {key:Option Nat} {α:Type} [ag α] [Inhabited α] {xs r:List α} (hu:c.P.underlying t=some (.slice e)) (ew:bt c.P e α) (gl:cn c.P e (default:α)) (dW:Nat.beq (ag.size α) 0=false)
 (al:a7 c E L x (.eq (hi key lo n cap (ag.size α)))) (an:L[i]? =some ⟨key,.row T xs cap⟩) (aP:lo + n≤xs.length) (aS:qa xs lo n=r)
 (k:ah c ops Q rest E (L.set i ⟨key,.row T r cap⟩)):ah c ops Q (⟨none,.call ⟨.builtin .clear,#[x],#[t]⟩,ty,pos,af,none⟩ :: rest) E L:=fun a W s=>by
 subst aS
 have J:a.eval x=_:=al a W s
 have a9:=s.own _ (List.mem_of_getElem? an)
 have kq:∀ cp,L.set i ⟨key,cp⟩=L.set i ⟨key,cp⟩:=fun _=>rfl
 by_cases bG:n=0∨key=none
 ·have g4:qa xs lo n=xs:=by
   rcases bG with bG | bG
   ·subst bG; simp [qa]
   ·subst bG
    have:xs= []:=a9.1
    subst this
    have:n=0:=by simp at aP; omega
    subst this; simp [qa]
  have hB:(execOp a.eval ⟨none,.call ⟨.builtin .clear,#[x],#[t]⟩,ty,pos,af,none⟩).run c.P W= .ok (.value (.tuple #[])) W:=by
   rcases bG with bG | bG
   ·subst bG
    cases key <;> simp [execOp,resolve,invoke,builtin,Builtin.clear_,J,hi,run_underlying hu]
   ·subst bG
    simp [execOp,resolve,invoke,builtin,Builtin.clear_,J,hi,run_underlying hu]
  refine g9 rfl (R:=fun v W'=>W'=W) (.kj hB rfl) fun v W' hw=> ?_
  subst hw
  rw [g4] at k
  have:L.set i ⟨key,.row T xs cap⟩=L:=by
   apply List.ext_getElem?
   intro j
   rw [List.getElem?_set]
   split
   ·rename_i fk; subst fk
    have:=(List.getElem?_eq_some_iff.1 an).1
    rw [if_pos this,an]
   ·rfl
  rw [this] at k
  exact k _ _ s
 ·have qt:0 < n:=by
   rcases Nat.eq_zero_or_pos n with h | h
   ·exact absurd (.inl h) bG
   ·exact h
  obtain⟨p,cs,rfl,er,av,bm,bS,dq⟩:=s.rowAt an (by omega)
  obtain⟨fN,dY,eb,df,IX⟩:=gl.zero
  have EY:=IX (aL L ++ c.bX) W
  have Pf:dY.cells.toList.length=ag.size α:=ag.len EY.2
  have j9:ag.size α≠0:=fun h=>by rw [h] at dW; cases dW
  have BD:=zp EY n j9
  have vB:dY.cells.size=ag.size α:=by simpa using Pf
  have IY:Builtin.zeroCells dY.cells n=(Array.range (n * ag.size α)).map (dY.cells[· % dY.cells.size]!):=by rw [Builtin.zeroCells,vB]
  rw [← IY] at BD
  generalize kA:(Builtin.zeroCells dY.cells n).toList=D at BD
  have abe:D.length=n * ag.size α:=by rw [BD.1]; simp
  have fR:cap≠lo:=by omega
  have hle:(lo + n) * ag.size α≤cap * ag.size α:=Nat.mul_le_mul_right _ (by omega)
  rw [Nat.add_mul] at hle
  have fK:=run_storeCells_at (P:=c.P) p (lo * ag.size α) _ D 0 cs W er (by omega) BD.one
  have hB:(execOp a.eval ⟨none,.call ⟨.builtin .clear,#[x],#[t]⟩,ty,pos,af,none⟩).run c.P W= .ok (.value (.tuple #[])) (W.setRow p (fH cs.toList (lo * ag.size α) D).toArray):=by
   obtain⟨m,rfl⟩:∃ m,n=m + 1:=⟨n - 1,by omega⟩
   simp only [Nat.add_zero] at fK
   simp [execOp,resolve,invoke,builtin,Builtin.clear_,J,hi,run_underlying hu,fR,zeroValue,typeInfo,run_program,eb,df,kA,fK,fH]
  refine g9 rfl (R:=fun v W'=>W'=W.setRow p (fH cs.toList (lo * ag.size α) D).toArray) (.kj hB rfl) fun v W' hw=> ?_
  subst hw
  refine k _ _ (s.store an er ?_)
  have kW:cs.toList.length=cap * ag.size α:=by simpa using av
  have hlen:(qa xs lo n).length=xs.length:=by simp [qa]; omega
  have qv:(cs.toList.take (xs.length * ag.size α)).length=xs.length * ag.size α:=by
   rw [List.length_take]
   have:xs.length * ag.size α≤cap * ag.size α:=Nat.mul_le_mul_right _ bm
   omega
  have YR:(lo + n) * ag.size α≤xs.length * ag.size α:=Nat.mul_le_mul_right _ aP
  rw [Nat.add_mul] at YR
  have aa1:xs.length * ag.size α≤cap * ag.size α:=Nat.mul_le_mul_right _ bm
  refine⟨_,rfl,?_,by rw [hlen]; exact bm,bS,?_⟩
  ·simp only [List.size_toArray,fH,List.length_append,List.length_take,List.length_drop]; omega
  ·rw [hlen,List.toList_toArray]
   have oV:=Lb (lo:=lo) dq BD (by simpa using aP)
   have e:(fH cs.toList (lo * ag.size α) D).take (xs.length * ag.size α)=(cs.toList.take (xs.length * ag.size α)).take (lo * ag.size α) ++ D ++ (cs.toList.take (xs.length * ag.size α)).drop (lo * ag.size α + D.length):=by
    have aF:(cs.toList.take (lo * ag.size α)).length=lo * ag.size α:=by rw [List.length_take]; omega
    have aR:(cs.toList.take (lo * ag.size α) ++ D).length=lo * ag.size α + D.length:=by rw [List.length_append,aF]
    rw [fH,List.take_append,aR,List.take_of_length_le (by omega),List.take_take,Nat.min_eq_left (by omega),List.drop_take]
   rw [e]
   simpa [qa] using oV
theorem bw.share {a:Act} {W:World} (s:bw c E L a W) {i e5 p:Nat} {α:Type} [ag α] {z:α} (ao:look E e5=some (.eq (.pointer (some ⟨p,0,none⟩)))) (an:L[i]? =some ⟨some p,.var z⟩):bw c ((e5,.ptr z) :: E) (L.set i ⟨none,.dead⟩) a W:=by
 have au:=s.kill i
 refine { au with env:=fun t τ eJ=> ?_ }
 simp only [look] at eJ
 by_cases e:Nat.beq e5 t=true
 ·rw [e] at eJ
  simp only [cond_true,Option.some.injEq] at eJ
  subst eJ
  have:=ej.1 e
  subst this
  obtain⟨v,J,ad⟩:=s.env e5 _ ao
  have ld:v=_:=ad
  subst ld
  obtain⟨o,er,cs,T,rfl,aS⟩:=s.own _ (List.mem_of_getElem? an)
  have hlen:cs.toList.length=ag.size α:=ag.len aS
  refine⟨_,J,p,0,cs,T,(0,0),rfl,s.zz an,er,by simp at hlen; omega,?_⟩
  rw [List.drop_zero,← hlen,List.take_length]
  have kp:=wB (L:=L) (i:=i) (cp:= .dead)
  exact ag.mono (.drop fun k hm=>by
   rcases List.mem_append.1 hm with hm | hm
   ·exact List.mem_append.2 (.inl (kp.subset hm))
   ·exact List.mem_append.2 (.inr hm)) aS
 ·simp only [Bool.not_eq_true] at e
  rw [e] at eJ
  exact au.env t τ eJ
theorem ah.share {l:List Oper} {p:Nat} {α:Type} [ag α] {z:α} (i e5:Nat) (ao:look E e5=some (.eq (.pointer (some ⟨p,0,none⟩)))) (an:L[i]? =some ⟨some p,.var z⟩) (k:ah c ops Q l ((e5,.ptr z) :: E) (L.set i ⟨none,.dead⟩)):ah c ops Q l E L:=
 fun a W s=>k a W (s.share ao an)
theorem ai.share {code:Code} {p:Nat} {α:Type} [ag α] {z:α} (i e5:Nat) (ao:look E e5=some (.eq (.pointer (some ⟨p,0,none⟩)))) (an:L[i]? =some ⟨some p,.var z⟩) (k:ai c Q code ((e5,.ptr z) :: E) (L.set i ⟨none,.dead⟩)):ai c Q code E L:=
 fun a W s=>k a W (s.share ao an)
theorem Hl {α β:Type} [ag α] [ag β] {F:α→Option β} {f:FuncId} {xs:List Operand} {τs:List I} (eg:bM c.P f) (al:ha c E L xs τs) (h:∀ x r,F x=some r→bW c.P f (.of x :: τs) (.of r)):
 b4 c E L ⟨d,.makeFunc (.func f) #[] xs.toArray,ty,pos,af,g⟩ (.vj c.P F):= .pure fun a W s=>by
 have ck:=al.holds a W s
 refine⟨.func (.func f) #[] (xs.map a.eval).toArray,by simp [execOp,Instr.makeFunc],f,_,_,rfl,eg,fun c0 W' e gv x r oa ob a6=> ?_⟩
 simpa using h x r ob c0 W' (oa :: xs.map a.eval) gv (.cons a6 (ck.mono e))
def I.Flat (τ:I):Prop:= ∀ A W c0 W' v,τ.holds A W v→τ.holds c0 W' v
theorem Db {b:Bool} :(I.of b).Flat:=fun _ _ _ _ _ h=>h
theorem Dj {b:Int} :(I.of b).Flat:=fun _ _ _ _ _ h=>h
theorem b4.Ya {o:Oper} {τ:I} {T cap:Nat} {key:Option Nat} {α:Type} [ag α] {xs:List α} (i s:Nat) (ao:look E s=some (.eq (ba key xs.length cap))) (an:L[i]? =some ⟨key,.row T xs cap⟩) (a8:τ.Flat)
 (h:b4 c ((s,.of xs) :: E) (L.set i ⟨none,.dead⟩) o τ):b4 c E L o τ:=fun a W st=>by
 have:=h a W (st.freeze ao an)
 unfold gj at this ⊢
 exact Oper.wp_mono (fun fY W' ⟨v,J,ad,ay⟩=>⟨v,J,ad,a8 _ _ _ _ _ ay⟩) this
def I.OC {α:Type} (xs:List α):I where
 holds _ _ v:= ∃ b:Bool,v= .bool b∧ (b=true→xs= [])
 mono _ h:=h
theorem KS {P:Program} {e:TypeId} (W:World) (d:Nat) {t:TypeId} (a:Option Addr) (l cp:Nat) (h:P.underlying t=some (.slice e)):(Op.equalIn (d + 1) t (.slice a l cp) (.slice none 0 0)).run P W= .ok a.isNone W:=by
 cases a <;> simp [Op.equalIn,run_underlying h]
theorem Nc {α:Type} [ag α] {xs:List α} {e:TypeId} (hu:c.P.underlying t=some (.slice e)) (al:a7 c E L x (.of xs)):b4 c E L ⟨d,.binOp .eql t x (.const (.slice none 0 0)) t2,ty,pos,af,g⟩ (.OC xs):= .pure fun a W s=>by
 have aP:a.eval (.const (.slice none 0 0))= .slice none 0 0:=rfl
 rcases mu.1 (al a W s) with⟨J,rfl⟩ | ⟨b,off,cap,cur,T,hK,J,ad⟩
 ·exact⟨.bool true,by
   simp only [execOp,eqGuard,binOp,J,aP,Op.equal,Op.maxDepth]
   simp [KS W 9999 none 0 0 hu],true,rfl,fun _=>rfl⟩
 ·exact⟨.bool false,by
   simp only [execOp,eqGuard,binOp,J,aP,Op.equal,Op.maxDepth]
   simp [KS W 9999 (some ⟨b,off,none⟩) xs.length cap hu],false,rfl,fun h=>by cases h⟩
theorem ai.Nd {α:Type} {y z:Code} {xs:List α} (ao:a7 c E L x (.OC xs)) (bJ:xs= []→ai c Q y E L) (a8:ai c Q z E L):ai c Q (.cond x y z) E L:=fun a W s=>by
 obtain⟨b,J,ad⟩:=ao a W s
 exact wpIn_cond_split J (fun h=>bJ (ad h) a W s) (fun _=>a8 a W s)
end
def bx (c:c5) (ops:Array Oper) (Q:Exit→Act→World→Prop) (f:Nat) (a3:Array Bool) (E:List (Nat × I)) (L:List aJ):Prop:=
 ∀ a W,bw c E L a W→wpAnyIn c.F 9 c.P .any ops Q f a3 a W
def pT (K:Act→World→Prop) (Q:Exit→Act→World→Prop):Exit→Act→World→Prop
 | .normal,a,W=>K a W
 | x,a,W=>Q x a W
section
variable {c:c5} {E:List (Nat × I)} {L:List aJ} {ops:Array Oper} {Q:Exit→Act→World→Prop}
theorem pT.out {K:Act→World→Prop} (h:LetsOut (pT K Q)):LetsOut Q:=h
theorem Oper.S1 {F:Fence} {n:Nat} {P:Program} {o:Oper} {a:Act} {K:Act→World→Prop} {r:Result Next} (h:o.uponIn F n P a K (pT K Q) r):o.uponIn F n P a K Q r:=by
 cases r with
 | ok m pR=>
   cases m <;> simp only [Oper.uponIn] at h ⊢ <;>
    first
     | exact h
     | exact⟨h.1,CallsIn.mono h.2 (fun e tj he=>by cases e <;> exact he)⟩
     | exact⟨h.1,RoundIn.mono h.2 (fun e tj he=>by cases e <;> exact he)⟩
 | halt x pR=>cases x <;> simp only [Oper.uponIn] at h ⊢ <;> exact h
theorem zg {i:Nat} {o:Oper} {K:Act→World→Prop} {a:Act} {W:World} (ar:ops[i]? =some o) (h:c.qq ops (pT K Q) [o] a W):wpOpIn c.F 9 c.P ops Q i K a W:=by
 unfold wpOpIn
 simp only [ar]
 simp only [c5.qq,wpListIn] at h
 split
 ·rename_i hw
  rw [if_pos hw] at h
  exact⟨h.1,Oper.S1 h.2⟩
 ·rename_i hw
  rw [if_neg hw] at h
  exact h
def Az (c:c5) (ops:Array Oper) (Q:Exit→Act→World→Prop) (f:Nat) (a3:Array Bool) (E:List (Nat × I)) (L:List aJ):List Nat→Prop
 | []=>True
 | i :: r=>(∃ o,ops[i]? =some o∧ah c ops (pT (wpAnyIn c.F 9 c.P .any ops Q f (a3.setIfInBounds i true)) Q) [o] E L)∧Az c ops Q f a3 E L r
theorem Az.get {f:Nat} {a3:Array Bool} :∀ {x8:List Nat},Az c ops Q f a3 E L x8→ ∀ i∈x8,∃ o,ops[i]? =some o∧ah c ops (pT (wpAnyIn c.F 9 c.P .any ops Q f (a3.setIfInBounds i true)) Q) [o] E L
 | _ :: _,h,i,ar=>by
   rcases List.mem_cons.1 ar with rfl | ar
   ·exact h.1
   ·exact Az.get h.2 i ar
theorem bx.step {f:Nat} {a3:Array Bool} (x8:List Nat) (aS:Region.ready .any ops a3=x8) (cH:x8.isEmpty=false) (h:Az c ops Q f a3 E L x8):bx c ops Q (f + 1) a3 E L:=fun a W s=>
 ⟨fun bG=>(by rw [← aS,bG] at cH; exact absurd cH (by simp)),fun i ar=>(by
  rw [aS] at ar
  obtain⟨o,J,ad⟩:=h.get i ar
  exact zg J (ad a W s))⟩
theorem bx.le {f:Nat} {a3:Array Bool} {E':List (Nat × I)} (h:g6 E E') (k:bx c ops Q f a3 E' L):bx c ops Q f a3 E L:=fun a W s=>k a W (s.less h.look)
theorem ae.any {f:Nat} {a3 zJ:Array Bool} (ao:a3=zJ) (k:bx c ops Q f zJ E L):ae c (pT (wpAnyIn c.F 9 c.P .any ops Q f a3) Q) .normal E L:=fun a W s=>by
 subst ao
 exact k a W s
theorem bx.cut {γ:Type} (x9:Nat) (zJ:Array Bool) (E':γ→List (Nat × I)) (L':γ→List aJ) {f:Nat} {a3:Array Bool} (J:∀ g,bx c ops Q x9 zJ (E' g) (L' g))
 (ad:(∀ g,bx c ops Q x9 zJ (E' g) (L' g))→bx c ops Q f a3 E L):bx c ops Q f a3 E L:=ad J
theorem ai.NG {n5:Nat} {l:List Oper} (hm:c.P.follows .mixedOrders=true) (n:Nat) (ls:Array Bool) (aP:l.length=n) (BE:Array.replicate n false=ls) (h:bx c l.toArray Q n ls E L):ai c Q (.region n5 l.toArray true) E L:=fun a W s=>by
 subst aP BE
 refine wpIn_region_any hm ?_
 have:=h a W.drew (s.world (Fr.drew W))
 simpa using this
theorem ae.perm {x:Exit} {L':List aJ} (h:L.Perm L') (k:ae c Q x E L'):ae c Q x E L:=fun a W s=>k a W (s.perm h)
end
section
variable {c:c5} {E:List (Nat × I)} {L:List aJ} {ops:Array Oper} {Q:Exit→Act→World→Prop}
variable {d:Option Tmp} {ty:TypeId} {pos:String} {af:Array Edge} {g:Option (Nat × Bool)} {x y:Operand} {t t2:TypeId}
theorem ah.qi {α:Type} [ag α] {rest:List Oper} {bb e n:Nat} {z:α} {r:List α} {br:List (Nat × Operand)} (hu:c.P.underlying t=some (.slice e)) (ew:bt c.P e α) (gl:cn c.P e z) (hs:Nat.beq (ag.size α) 0=false) (aP:Nat.ble (n * ag.size α) 16777216=true)
 (a8:m7 c E L (List.replicate n z) br r) (jA:Nat.blt bb c.n=true) (k:∀ p,ah c ops Q rest ((bb,.eq (ba p r.length n)) :: E) (⟨p,.row e r n⟩ :: L)):
 ah c ops Q (⟨some bb,.buildSlice t n br.toArray,ty,pos,af,none⟩ :: rest) E L:=fun a W s=>by
 obtain⟨fN,dY,eb,df,qu⟩:=gl.zero
 have mF:fN.size=ag.size α:=by
  obtain⟨i2,J,ad⟩:=ew.info
  rw [eb] at J; cases J; exact ad
 have eI:ag.size α≠0:=fun h=>by rw [h] at hs; cases hs
 have pE:=zp (qu (aL L ++ c.bX) W) n eI
 obtain⟨dN,ay,aU,a0⟩:=a8.run a W s _ pE
 have hlen:r.length=n:=by rw [a0]; simp
 have hm:(br.toArray.map fun(x:Nat × Operand)=>(x.1,a.eval x.2)).toList=br.map fun(i,x)=>(i,a.eval x):=by simp
 have YM:=Nat.le_of_ble_eq_true aP
 refine g9 rfl (R:=fun v W'=>v= .slice (some ⟨W.heap.size,0,none⟩) n n∧W'=W.alloc (.cells dN e)) (.kj (v:= .slice (some ⟨W.heap.size,0,none⟩) n n) (W':=W.alloc (.cells dN e)) ?_ ⟨rfl,rfl⟩) fun v W' ⟨J,ad⟩=> ?_
 ·simp only [execOp,Instr.buildSlice,Sem.run_bind,run_underlying hu,Result.andThen_ok,Go.sizeOf,typeInfo,run_program,eb,Sem.run_pure,mF]
  rw [if_neg (by omega)]
  try simp only [Sem.run_pure,Result.andThen_ok,Sem.run_bind]
  by_cases bG:n * ag.size α=0
  ·have qt:n=0:=by
    rcases Nat.mul_eq_zero.1 bG with h | h
    ·exact h
    ·exact absurd h eI
   subst qt
   simp only [Nat.zero_mul,if_true,Sem.run_pure,Result.andThen_ok]
   try simp only [Nat.zero_mul] at ay
   have jU:((Array.range 0).map (fun x=>(#[]:Array Value)[x % (#[]:Array Value).size]!))=((Array.range 0).map (dY.cells[· % dY.cells.size]!)):=by simp
   simp only [pure_bind]
   rw [jU,hm,ay]
   simp [newRow]
  ·simp only [bG,if_false,Sem.run_bind,zeroValue,typeInfo,run_program,Result.andThen_ok,eb,df,Sem.run_pure]
   rw [hm,ay]
   simp [newRow]
 ·subst J ad
  have s3:n≤maxLen:=by
   have:n * 1≤n * ag.size α:=Nat.mul_le_mul_left _ (by omega)
   have:maxLen=9223372036854775807:=rfl
   omega
  have dW:dN.size=n * ag.size α:=by have:=aU.1; rw [hlen] at this; simpa using this
  have b9:=s.alloc (o:= .cells dN e) (cp:= .row e r n) ⟨dN,rfl,dW,by omega,s3,by
   have bl:=aU.1
   rw [← bl,List.take_length]
   exact aU⟩
  refine k (some W.heap.size) _ _ (b9.put (τ:= .eq (ba (some W.heap.size) r.length n)) (by simpa using jA) ?_)
  show _=_
  rw [hlen]; rfl
theorem ah.hM {l:List Oper} {key:Option Nat} {n m cap:Nat} (e5:Nat) (ao:look E e5=some (.eq (ba key n cap))) (aP:n=m) (k:ah c ops Q l ((e5,.eq (ba key m cap)) :: E) L):ah c ops Q l E L:=fun a W s=>by
 subst aP
 refine k a W (s.less fun t τ h=> ?_)
 simp only [look] at h
 by_cases e:Nat.beq e5 t=true
 ·rw [e] at h
  simp only [cond_true] at h
  have:=ej.1 e
  subst this
  exact⟨τ,by rw [ao,h],fun _ _ _ h=>h⟩
 ·simp only [Bool.not_eq_true] at e
  rw [e] at h
  exact⟨τ,h,fun _ _ _ h=>h⟩
end
theorem jC {α:Type} {xs r:List α} {k:Nat} {v:α} (h:ea xs k v=r):xs.length=r.length:=by rw [← h]; simp [ea]
theorem K3 {α:Type} {b:Nat} {r:List α} (h:((hQ b [] ([]:List α)).bind fun y=>some y)=some r):r= []:=by
 obtain⟨y,J,ad⟩:=bind_some h
 obtain⟨_,_,ay⟩:=K8 J
 rw [ay] at ad
 exact(aK ad).symm
end Gv
