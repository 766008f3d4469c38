/-
  The library of the decompiler, as far as it is needed here. Conditions: none.
-/
import Derived.WalkKit
import Derived.StillTail
import Derived.OwnWalkIn
import Derived.RangeFuncNested
import Derived.RangeFuncLeaves
import Derived.RangeFuncCalls
import Derived.ChangeSame
import Derived.OpenShut
import Derived.Carry
import Derived.DataReads
set_option linter.unusedVariables false
set_option linter.unusedSimpArgs false
namespace Gv
open Go
theorem AX (w:World) (o:Obj) (i:Nat) (h:i < w.heap.size):(w.alloc o).heap[i]? =w.heap[i]? :=by
 show(w.heap.push o)[i]? =w.heap[i]?
 rw [Array.getElem?_push,if_neg (Nat.ne_of_lt h)]
theorem H0 (w:World) (o:Obj):(w.alloc o).heap[w.heap.size]? =some o:=by
 show(w.heap.push o)[w.heap.size]? =some o
 simp
structure Fr (X:List Nat) (W W':World):Prop where
 os:W'.os=W.os
 tape:W'.tape=W.tape
 output:W'.output=W.output
 size:W.heap.size≤W'.heap.size
 block:∀ k,k < W.heap.size→k ∉ X→W'.heap[k]? =W.heap[k]?
theorem Fr.refl (X:List Nat) (W:World):Fr X W W:=⟨rfl,rfl,rfl,Nat.le_refl _,fun _ _ _=>rfl⟩
theorem Fr.trans {X:List Nat} {A B C:World} (h:Fr X A B) (k:Fr X B C):Fr X A C:=
 ⟨k.os.trans h.os,k.tape.trans h.tape,k.output.trans h.output,Nat.le_trans h.size k.size,
   fun i au an=>(k.block i (Nat.lt_of_lt_of_le au h.size) an).trans (h.block i au an)⟩
theorem Fr.weaken {X Y:List Nat} {A B:World} (h:Fr X A B) (s:∀ k∈X,k∈Y):Fr Y A B:=
 ⟨h.os,h.tape,h.output,h.size,fun i au an=>h.block i au fun hm=>an (s _ hm)⟩
theorem Fr.nil {X:List Nat} {A B:World} (h:Fr [] A B):Fr X A B:=h.weaken (by simp)
theorem Fr.only {X Y:List Nat} {A B:World} (h:Fr X A B) (s:∀ k∈X,k < A.heap.size→k∈Y):Fr Y A B:=
 ⟨h.os,h.tape,h.output,h.size,fun i au an=>h.block i au fun hm=>an (s _ hm au)⟩
theorem Fr.alloc {X:List Nat} (W:World) (o:Obj):Fr X W (W.alloc o):=
 ⟨rfl,rfl,rfl,by simp,fun k ay _=>AX W o k ay⟩
theorem Fr.drew {X:List Nat} (W:World):Fr X W W.drew:=⟨rfl,rfl,rfl,Nat.le_refl _,fun _ _ _=>rfl⟩
theorem Fr.setRow {X:List Nat} (W:World) (g:Nat) (cs:Array Value) (h:g∈X):Fr X W (W.setRow g cs):=
 ⟨rfl,rfl,rfl,by simp,fun k _ an=>setRow_other W g k cs (fun e=>an (e ▸ h))⟩
structure Ext (A:List Nat) (W:World) (c5:List Nat) (W':World):Prop where
 size:W.heap.size≤W'.heap.size
 block:∀ k,k < W.heap.size→k ∉ A→W'.heap[k]? =W.heap[k]?
 new:∀ k∈c5,k < W.heap.size→k∈A
theorem Ext.refl (A:List Nat) (W:World):Ext A W A W:=⟨Nat.le_refl _,fun _ _ _=>rfl,fun _ h _=>h⟩
theorem Ext.trans {A B C:List Nat} {U V W:World} (h:Ext A U B V) (k:Ext B V C W):Ext A U C W:=
 ⟨Nat.le_trans h.size k.size,
  fun i au bj=>(k.block i (Nat.lt_of_lt_of_le au h.size) (fun hb=>bj (h.new i hb au))).trans (h.block i au bj),
  fun i ak au=>h.new i (k.new i ak (Nat.lt_of_lt_of_le au h.size)) au⟩
theorem Ext.Yd {A X:List Nat} {W W':World} (h:Fr X W W') (s:∀ k∈X,k∈A):Ext A W A W':=
 ⟨h.size,fun k ay bj=>h.block k ay fun an=>bj (s k an),fun _ h _=>h⟩
theorem Ext.dG {A:List Nat} {W W':World} (h:Fr [] W W'):Ext A W A W':= .Yd h (by simp)
theorem Ext.drop {A c5:List Nat} {W:World} (s:∀ k∈c5,k∈A):Ext A W c5 W:=⟨Nat.le_refl _,fun _ _ _=>rfl,fun k h _=>s k h⟩
structure I where
 holds:List Nat→World→Value→Prop
 mono:∀ {A W c5 W' v},Ext A W c5 W'→holds A W v→holds c5 W' v
class ai (α:Type) where
 size:Nat
 agg:Bool
 rep:List Nat→World→List Value→α→Prop
 len:∀ {A W cs x},rep A W cs x→cs.length=size
 one:∀ {A W cs x},rep A W cs x→ ∀ v∈cs,v.oneCell'=true
 flat:agg=false→size=1
 mono:∀ {A W c5 W' cs x},Ext A W c5 W'→rep A W cs x→rep c5 W' cs x
def shaped (b:Bool) (v:Value):Prop:=if b=true then ∃ cs,v= .agg cs else v.oneCell'=true
theorem ot {v:Value} (h:v.oneCell'=true):v.cells= #[v]:=by cases v <;> first | rfl | simp [Value.oneCell'] at h
def I.of {α:Type} [ai α] (x:α):I where
 holds A W v:=shaped (ai.agg α) v∧ai.rep A W v.cells.toList x
 mono e h:=⟨h.1,ai.mono e h.2⟩
def I.eq (u:Value):I where
 holds _ _ v:=v=u
 mono _ h:=h
def I.cond (c:Prop) (τ:I):I where
 holds A W v:=(c→τ.holds A W v)∧ (¬ c→v=undef)
 mono e h:=⟨fun ak=>τ.mono e (h.1 ak),h.2⟩
def I.any:I where
 holds _ _ _:=True
 mono _ h:=h
inductive gB (A:List Nat) (W:World):List I→List Value→Prop
 | nil:gB A W [] []
 | cons {τ v τs vs} :τ.holds A W v→gB A W τs vs→gB A W (τ :: τs) (v :: vs)
theorem gB.mono {A W c5 W'} (e:Ext A W c5 W'):∀ {τs vs},gB A W τs vs→gB c5 W' τs vs
 | _,_,.nil=> .nil
 | _,_,.cons h r=> .cons (I.mono _ e h) (r.mono e)
theorem gB.length {A W} :∀ {τs vs},gB A W τs vs→vs.length=τs.length
 | _,_,.nil=>rfl
 | _,_,.cons _ r=>by simp [r.length]
def I.ed (τs:List I):I where
 holds A W v:= ∃ vs:Array Value,v= .tuple vs∧gB A W τs vs.toList
 mono e h:=let⟨vs,a0,b3⟩:=h; ⟨vs,a0,b3.mono e⟩
def I.ptr {α:Type} [ai α] (x:α):I where
 holds A W v:= ∃ b off cur T gX,v= .pointer (some ⟨b,off,none⟩)∧b ∉ A∧W.heap[b]? =some (.cells cur T gX)∧off + ai.size α≤cur.size∧ai.rep A W ((cur.toList.drop off).take (ai.size α)) x
 mono e h:=by
  obtain⟨b,off,cur,T,gX,rfl,hb,b3,hs,aR⟩:=h
  have b5:b < _:=(Array.getElem?_eq_some_iff.1 b3).1
  exact⟨b,off,cur,T,gX,rfl,fun hm=>hb (e.new b hm b5),by rw [e.block b b5 hb]; exact b3,hs,ai.mono e aR⟩
structure dB where
 holds:List Nat→World→Obj→Prop
 mJ:Prop
 mono:∀ {A W c5 W' o},Ext A W c5 W'→holds A W o→holds c5 W' o
def dB.var {α:Type} [ai α] (x:α):dB where
 holds A W o:= ∃ cs T,o= .cells cs T (0,0)∧ai.rep A W cs.toList x
 mJ:=False
 mono e h:=let⟨cs,T,bb,aR⟩:=h; ⟨cs,T,bb,ai.mono e aR⟩
def gC {α:Type} [ai α] (A:List Nat) (W:World) (cs:List Value) (xs:List α):Prop:=
 cs.length=xs.length * ai.size α∧ ∀ i (h:i < xs.length),ai.rep A W ((cs.drop (i * ai.size α)).take (ai.size α)) xs[i]
theorem gC.mono {α:Type} [ai α] {A W c5 W'} {cs:List Value} {xs:List α} (e:Ext A W c5 W') (h:gC A W cs xs):gC c5 W' cs xs:=
 ⟨h.1,fun i au=>ai.mono e (h.2 i au)⟩
def dB.row {α:Type} [ai α] (T:TypeId) (xs:List α) (cap:Nat):dB where
 holds A W o:= ∃ cs,o= .cells cs T (0,0)∧cs.size=cap * ai.size α∧xs.length≤cap∧cap≤maxLen∧gC A W (cs.toList.take (xs.length * ai.size α)) xs
 mJ:=xs= []∧cap=0
 mono e h:=let⟨cs,J,ad,aC,aU,a1⟩:=h; ⟨cs,J,ad,aC,aU,a1.mono e⟩
def dB.dead:dB where
 holds _ _ _:=True
 mJ:=True
 mono _ h:=h
structure aM where
 key:Option Nat
 cp:dB
def aM.ok (A:List Nat) (W:World) (e:aM):Prop:=
 match e.key with
 | some p=> ∃ o,W.heap[p]? =some o∧e.cp.holds A W o
 | none=>e.cp.mJ
def aQ:List aM→List Nat
 | []=> []
 | e :: r=>match e.key with
   | some p=>p :: aQ r
   | none=>aQ r
theorem ln {L:List aM} {k:Nat} :k∈aQ L↔ ∃ e∈L,e.key=some k:=by
 induction L with
 | nil=>simp [aQ]
 | cons e r bJ=>
   cases ay:e.key with
   | none=>simp [aQ,ay,bJ]
   | some p=>simp [aQ,ay,bJ,eq_comm]
structure dd where
 P:Program
 n:Nat
 iN:World
 X:List Nat
 bT:List Nat
 rd:Option Nat
 ds:List Nat
def E0 (D:Nat):Deferred:= { target:= .collected D,args:= #[] }
abbrev dd.F (c:dd):Fence:= { fn:=fun _=>True,depth:=none,alive:=false,round:=c.rd }
abbrev dd.wp (c:dd) (y:Code) (Q:Exit→Act→World→Prop):Act→World→Prop:=y.wpIn c.F 9 c.P Q
abbrev dd.pq (c:dd) (ops:Array Oper) (Q:Exit→Act→World→Prop):List Oper→Act→World→Prop:=wpListIn c.F 9 c.P ops Q
def look:List (Nat × I)→Nat→Option I
 | [],_=>none
 | (s,τ) :: r,t=>bif Nat.beq s t then some τ else look r t
structure bx (c:dd) (E:List (Nat × I)) (L:List aM) (a:Act) (W:World):Prop where
 defers:a.defers=c.ds.map E0
 size:a.tmps.size=c.n
 env:∀ t τ,look E t=some τ→ ∃ v,a.tmps[t]? =some v∧τ.holds (aQ L ++ c.bT) W v
 dG:Fr c.X c.iN W
 own:∀ e∈L,e.ok (aQ L ++ c.bT) W
 nodup:(aQ L).Nodup
 lt:∀ k∈aQ L,k < W.heap.size
 fR:∀ k∈aQ L,k < c.iN.heap.size→k∈c.X
 eW:∀ k∈c.bT,k < W.heap.size∧k ∉ aQ L
theorem eh {s t:Nat} :Nat.beq s t=true↔s=t:=by
 constructor
 ·exact Nat.eq_of_beq_eq_true
 ·rintro rfl; exact Nat.beq_refl s
theorem bx.Ep {c E L a W} (h:bx c E L a W):∀ k∈aQ L ++ c.bT,k < W.heap.size:=by
 intro k ay
 rcases List.mem_append.1 ay with ay | ay
 ·exact h.lt k ay
 ·exact(h.eW k ay).1
theorem bx.world {c E L a W W'} (h:bx c E L a W) (f:Fr [] W W'):bx c E L a W' where
 defers:=h.defers
 size:=h.size
 env t τ ao:=let⟨v,J,ad⟩:=h.env t τ ao; ⟨v,J,τ.mono (.dG f) ad⟩
 dG:=h.dG.trans f.nil
 own e he:=by
  have J:=h.own e he
  unfold aM.ok at *
  split at J
  ·rename_i p hp
   obtain⟨o,bb,b3⟩:=J
   have b5:=h.lt p (ln.2 ⟨e,he,hp⟩)
   exact⟨o,by rw [f.block p b5 (by simp)]; exact bb,dB.mono _ (.dG f) b3⟩
  ·exact J
 nodup:=h.nodup
 lt k ay:=Nat.lt_of_lt_of_le (h.lt k ay) f.size
 fR:=h.fR
 eW k ay:=⟨Nat.lt_of_lt_of_le (h.eW k ay).1 f.size,(h.eW k ay).2⟩
theorem bx.put {c E L a W} (h:bx c E L a W) {d:Nat} (hd:d < c.n) {v:Value} {τ:I} (a0:τ.holds (aQ L ++ c.bT) W v):
 bx c ((d,τ) :: E) L (a.put (some d) v) W where
 defers:=h.defers
 size:=by simp [Act.put,h.size]
 env t mU ao:=by
  simp only [look] at ao
  simp only [Act.put]
  by_cases e:Nat.beq d t=true
  ·rw [e] at ao
   simp only [cond_true,Option.some.injEq] at ao
   subst ao
   have:=eh.1 e
   subst this
   exact⟨v,by simp [h.size,hd],a0⟩
  ·simp only [Bool.not_eq_true] at e
   rw [e] at ao
   simp only [cond_false] at ao
   obtain⟨u,J,ad⟩:=h.env t mU ao
   have c6:d≠t:=fun h=>by rw [eh.2 h] at e; cases e
   exact⟨u,by rw [Array.getElem?_setIfInBounds_ne c6]; exact J,ad⟩
 dG:=h.dG
 own:=h.own
 nodup:=h.nodup
 lt:=h.lt
 fR:=h.fR
 eW:=h.eW
theorem bx.u3 {c E L a W} (s:bx c E L a W) (h:c.ds= []):a.defers= []:=by rw [s.defers,h]; rfl
theorem bx.less {c E E' L a W} (h:bx c E L a W) (aB:∀ t τ,look E' t=some τ→ ∃ σ,look E t=some σ∧ ∀ A W v,σ.holds A W v→τ.holds A W v):bx c E' L a W:=
 {h with env:=fun t τ ao=>let⟨_,J,ad⟩:=aB t τ ao; let⟨v,aC,aU⟩:=h.env t _ J; ⟨v,aC,ad _ _ _ aU⟩ }
theorem bx.alloc {c E L a W} (h:bx c E L a W) {o:Obj} {cp:dB} (ak:cp.holds (aQ L ++ c.bT) W o):
 bx c E (⟨some W.heap.size,cp⟩ :: L) a (W.alloc o):=by
 have v7:W.heap.size ∉ aQ L:=fun hm=>Nat.lt_irrefl _ (h.lt _ hm)
 have hg:Ext (aQ L ++ c.bT) W (aQ (⟨some W.heap.size,cp⟩ :: L) ++ c.bT) (W.alloc o):=
  ⟨by simp,fun k ay _=>AX W o k ay,fun k ay b5=>by
   simp only [aQ,List.cons_append,List.mem_cons] at ay
   rcases ay with rfl | ay
   ·exact absurd b5 (Nat.lt_irrefl _)
   ·exact ay⟩
 exact
 {defers:=h.defers
  size:=h.size
  env:=fun t τ ao=>let⟨v,J,ad⟩:=h.env t τ ao; ⟨v,J,τ.mono hg ad⟩
  dG:=h.dG.trans (Fr.alloc W o)
  own:=fun e he=>by
   rcases List.mem_cons.1 he with rfl | he
   ·exact⟨o,H0 W o,cp.mono hg ak⟩
   ·have J:=h.own e he
    unfold aM.ok at *
    split at J
    ·rename_i p hp
     obtain⟨o',bb,b3⟩:=J
     exact⟨o',by rw [AX W o p (h.lt p (ln.2 ⟨e,he,hp⟩))]; exact bb,dB.mono _ hg b3⟩
    ·exact J
  nodup:=by simp only [aQ]; exact List.nodup_cons.2 ⟨v7,h.nodup⟩
  lt:=fun k ay=>by
   simp only [aQ,List.mem_cons] at ay
   rw [World.size_alloc]
   rcases ay with rfl | ay
   ·omega
   ·have:=h.lt k ay; omega
  fR:=fun k ay b5=>by
   simp only [aQ,List.mem_cons] at ay
   rcases ay with rfl | ay
   ·have:=h.dG.size; omega
   ·exact h.fR k ay b5
  eW:=fun k ay=>by
   obtain⟨J,ad⟩:=h.eW k ay
   refine⟨by rw [World.size_alloc]; omega,fun hm=> ?_⟩
   simp only [aQ,List.mem_cons] at hm
   rcases hm with rfl | hm
   ·omega
   ·exact ad hm }
theorem bx.sub {c E L L' a W} (h:bx c E L a W) (al:∀ e∈L',e∈L) (aO:(aQ L').Nodup):bx c E L' a W:=by
 have ay:∀ k∈aQ L',k∈aQ L:=fun k ay=>by
  obtain⟨e,he,ad⟩:=ln.1 ay
  exact ln.2 ⟨e,al e he,ad⟩
 have hg:Ext (aQ L ++ c.bT) W (aQ L' ++ c.bT) W:= .drop fun k hm=>by
  rcases List.mem_append.1 hm with hm | hm
  ·exact List.mem_append.2 (.inl (ay k hm))
  ·exact List.mem_append.2 (.inr hm)
 exact
 {defers:=h.defers
  size:=h.size
  env:=fun t τ ao=>let⟨v,J,ad⟩:=h.env t τ ao; ⟨v,J,τ.mono hg ad⟩
  dG:=h.dG
  own:=fun e he=>by
   have J:=h.own e (al e he)
   unfold aM.ok at *
   split at J
   ·obtain⟨o',bb,b3⟩:=J
    exact⟨o',bb,dB.mono _ hg b3⟩
   ·exact J
  nodup:=aO
  lt:=fun k hm=>h.lt k (ay k hm)
  fR:=fun k hm=>h.fR k (ay k hm)
  eW:=fun k hm=>⟨(h.eW k hm).1,fun ad=>(h.eW k hm).2 (ay k ad)⟩ }
theorem eS (L R:List aM):aQ (L ++ R)=aQ L ++ aQ R:=by
 induction L with
 | nil=>rfl
 | cons e r bJ=>cases ay:e.key <;> simp [aQ,ay,bJ]
theorem x2 {L:List aM} {i:Nat} {e:aM} {cp:dB} (au:L[i]? =some e):aQ (L.set i ⟨e.key,cp⟩)=aQ L:=by
 induction L generalizing i with
 | nil=>simp at au
 | cons x r bJ=>
   cases i with
   | zero=>simp only [List.getElem?_cons_zero,Option.some.injEq] at au; subst au; simp [aQ]
   | succ i=>simp only [List.getElem?_cons_succ] at au; simp [aQ,bJ au]
theorem H2 {L:List aM} (aO:(aQ L).Nodup) {i j:Nat} {e f:aM} {p:Nat} (au:L[i]? =some e) (aH:L[j]? =some f) (he:e.key=some p) (ba:f.key=some p):i=j:=by
 induction L generalizing i j with
 | nil=>simp at au
 | cons x r bJ=>
   have aR:(aQ r).Nodup:=by
    cases an:x.key with
    | none=>simpa [aQ,an] using aO
    | some q=>simp only [aQ,an] at aO; exact(List.nodup_cons.1 aO).2
   have pV:∀ q,x.key=some q→q ∉ aQ r:=fun q an=>by simp only [aQ,an] at aO; exact(List.nodup_cons.1 aO).1
   cases i with
   | zero=>
     simp only [List.getElem?_cons_zero,Option.some.injEq] at au
     subst au
     cases j with
     | zero=>rfl
     | succ j=>
       simp only [List.getElem?_cons_succ] at aH
       exact absurd (ln.2 ⟨f,List.mem_of_getElem? aH,ba⟩) (pV p he)
   | succ i=>
     simp only [List.getElem?_cons_succ] at au
     cases j with
     | zero=>
       simp only [List.getElem?_cons_zero,Option.some.injEq] at aH
       subst aH
       exact absurd (ln.2 ⟨e,List.mem_of_getElem? au,he⟩) (pV p ba)
     | succ j=>
       simp only [List.getElem?_cons_succ] at aH
       rw [bJ aR au aH]
theorem bx.store {c E L a W} (h:bx c E L a W) {i p:Nat} {cp cp':dB} (au:L[i]? =some ⟨some p,cp⟩) {cs dS:Array Value} {T:TypeId}
 (bb:W.heap[p]? =some (.cells cs T (0,0))) (ak:cp'.holds (aQ L ++ c.bT) W (.cells dS T (0,0))):
 bx c E (L.set i ⟨some p,cp'⟩) a (W.setRow p dS):=by
 have hh:aQ (L.set i ⟨some p,cp'⟩)=aQ L:=x2 (cp:=cp') au
 have hp:p∈aQ L:=ln.2 ⟨_,List.mem_of_getElem? au,rfl⟩
 have hg:Ext (aQ L ++ c.bT) W (aQ L ++ c.bT) (W.setRow p dS):=
  ⟨by simp,fun k _ bj=>setRow_other W p k dS (fun e=>bj (e ▸ List.mem_append.2 (.inl hp))),fun _ h _=>h⟩
 exact
 {defers:=h.defers
  size:=h.size
  env:=fun t τ ao=>by rw [hh]; exact let⟨v,J,ad⟩:=h.env t τ ao; ⟨v,J,τ.mono hg ad⟩
  dG:=⟨h.dG.os,h.dG.tape,h.dG.output,by simpa using h.dG.size,fun k ay an=>by
   rw [setRow_other W p k dS (fun e=>an (e ▸ h.fR p hp (e ▸ ay)))]
   exact h.dG.block k ay an⟩
  own:=fun e he=>by
   rw [hh]
   obtain⟨j,aH⟩:=List.mem_iff_getElem?.1 he
   rw [List.getElem?_set] at aH
   split at aH
   ·rename_i ft
    subst ft
    split at aH
    ·simp only [Option.some.injEq] at aH
     subst aH
     exact⟨_,setRow_heap W p cs dS T (0,0) bb,cp'.mono hg ak⟩
    ·cases aH
   ·rename_i ft
    have J:=h.own e (List.mem_of_getElem? aH)
    unfold aM.ok at *
    split at J
    ·rename_i q hq
     obtain⟨o',p8,b3⟩:=J
     have c6:q≠p:=fun e'=>ft (H2 h.nodup au aH rfl (e' ▸ hq))
     exact⟨o',by rw [setRow_other W p q dS c6]; exact p8,dB.mono _ hg b3⟩
    ·exact J
  nodup:=by rw [hh]; exact h.nodup
  lt:=by rw [hh]; simpa using h.lt
  fR:=by rw [hh]; exact h.fR
  eW:=by rw [hh]; simpa using h.eW }
abbrev ai.scalar {α:Type} (val:α→Value) (h:∀ x,(val x).oneCell'=true):ai α where
 size:=1
 agg:=false
 rep _ _ cs x:=cs= [val x]
 len h:=by rw [h]; rfl
 one aR:=by subst aR; intro v a0; rw [List.mem_singleton.1 a0]; exact h _
 flat _:=rfl
 mono _ h:=h
instance:ai Bool:= .scalar Value.bool fun _=>rfl
instance:ai Int:= .scalar (Value.int .i64) fun _=>rfl
instance:ai (BitVec 64):= .scalar (fun x=>Value.int .u64 (x.toNat:Int)) fun _=>rfl
instance:ai (BitVec 32):= .scalar (fun x=>Value.int .u32 (x.toNat:Int)) fun _=>rfl
instance:ai (BitVec 16):= .scalar (fun x=>Value.int .u16 (x.toNat:Int)) fun _=>rfl
instance:ai (BitVec 8):= .scalar (fun x=>Value.int .u8 (x.toNat:Int)) fun _=>rfl
instance:ai ByteArray:= .scalar Value.string fun _=>rfl
theorem oq {v u:Value} (h:v.oneCell'=true) (e:v.cells.toList= [u]):v=u:=by
 rw [ot h] at e
 simpa using e
theorem of_bool {A W v} {b:Bool} :(I.of b).holds A W v↔v= .bool b:=
 ⟨fun h=>oq h.1 h.2,fun h=>by subst h; exact⟨rfl,rfl⟩⟩
theorem of_int {A W v} {x:Int} :(I.of x).holds A W v↔v= .int .i64 x:=
 ⟨fun h=>oq h.1 h.2,fun h=>by subst h; exact⟨rfl,rfl⟩⟩
theorem gd {A W v} {x:BitVec 64} :(I.of x).holds A W v↔v= .int .u64 (x.toNat:Int):=
 ⟨fun h=>oq h.1 h.2,fun h=>by subst h; exact⟨rfl,rfl⟩⟩
theorem EN {A W v} {x:BitVec 8} :(I.of x).holds A W v↔v= .int .u8 (x.toNat:Int):=
 ⟨fun h=>oq h.1 h.2,fun h=>by subst h; exact⟨rfl,rfl⟩⟩
theorem NO {A W v} {x:ByteArray} :(I.of x).holds A W v↔v= .string x:=
 ⟨fun h=>oq h.1 h.2,fun h=>by subst h; exact⟨rfl,rfl⟩⟩
def a9 (c:dd) (E:List (Nat × I)) (L:List aM) (x:Operand) (τ:I):Prop:= ∀ a W,bx c E L a W→τ.holds (aQ L ++ c.bT) W (a.eval x)
section
variable {c:dd} {E:List (Nat × I)} {L:List aM}
theorem ab {t:Nat} {τ:I} (h:look E t=some τ):a9 c E L (.tmp t) τ:=fun a W s=>by
 obtain⟨v,J,ad⟩:=s.env t τ h
 have:a.eval (.tmp t)=v:=by simp [Act.eval,J]
 rw [this]; exact ad
theorem cb {t:Nat} {τ:I} {p:Prop} (h:look E t=some (.cond p τ)) (hp:p):a9 c E L (.tmp t) τ:=fun a W s=>(ab h a W s).1 hp
theorem HR (v:Value):a9 c E L (.const v) (.eq v):=fun _ _ _=>rfl
theorem bP (k:Int):a9 c E L (.const (.int .i64 k)) (.of k):=fun _ _ _=>of_int.2 rfl
theorem fO (b:Bool):a9 c E L (.const (.bool b)) (.of b):=fun _ _ _=>of_bool.2 rfl
theorem fK (x:BitVec 64) {k:Int} (h:(x.toNat:Int)=k):a9 c E L (.const (.int .u64 k)) (.of x):=fun _ _ _=>gd.2 (by rw [h]; rfl)
theorem dL (s:ByteArray):a9 c E L (.const (.string s)) (.of s):=fun _ _ _=>NO.2 rfl
def gD (P:Program) (o:Oper) (a:Act) (W:World) (R:Value→World→Prop):Prop:=
 o.wp P a W (fun gw W'=> ∃ v,gw=a.put o.dst v∧R v W') (fun _ _ _=>False)
theorem CallsIn.HB {rd:Option Nat} {n:Nat} {P:Program} {f:FuncId} {args:Array Value} {w:World} {R:Ending→World→Prop}
 (h:Calls P f args w R):CallsIn { fn:=fun _=>True,depth:=none,alive:=false,round:=rd } n P f args w R:=
 (callsIn_wide (n:=n)).2 h
theorem RowsIn.Wj {rd:Option Nat} {n:Nat} {P:Program} {row:String} {args:Array Value} {w:World} {R:Value→World→Prop}
 (h:Rows P row args w R):RowsIn { fn:=fun _=>True,depth:=none,alive:=false,round:=rd } n P row args w R:=
 fun c cs _=>let⟨v,qs,r,s⟩:=h c cs; ⟨v,qs,r,stepsIn_wide.2 s⟩
theorem gD.wp {P:Program} {o:Oper} {a:Act} {W:World} {R:Value→World→Prop} {next:Act→World→Prop} {Q:Exit→Act→World→Prop}
 (h:gD P o a W R) (ay:∀ v W',R v W'→next (a.put o.dst v) W'):o.wp P a W next Q:=by
 unfold gD Oper.wp at *
 generalize (execOp a.eval o).run P W=r at *
 cases r with
 | ok n W'=>
   cases n <;> simp only [Oper.upon] at h ⊢
   case value v=>obtain⟨u,J,ad⟩:=h; rw [J]; exact ay _ _ ad
   case skip=>obtain⟨u,J,ad⟩:=h; rw [J]; exact ay _ _ ad
   case defer d=>obtain⟨u,J,ad⟩:=h; rw [J]; exact ay _ _ ad
   case enter f args=>
    refine h.mono fun e ub he=> ?_
    cases e with
    | returned v=>obtain⟨u,J,ad⟩:=he; simp only at J ⊢; rw [J]; exact ay _ _ ad
    | panicked Kr=>exact he.elim
    | outgrown=>obtain⟨_,_,J⟩:=he; exact J.elim
   case row row args=>exact h.mono fun v ub ⟨u,J,ad⟩=>by rw [J]; exact ay _ _ ad
 | halt x W'=>cases x <;> simp only [Oper.upon] at h
theorem gD.UJ {P:Program} {o:Oper} {a:Act} {W:World} {R:Value→World→Prop} (h:gD P o a W R):∀ c,o.op≠ .defer c:=by
 intro c bb
 unfold gD Oper.wp execOp at h
 rw [bb] at h
 simp only [Sem.run_bind] at h
 generalize (resolve a.eval c o.type).run P W=r at h
 cases r with
 | ok d W'=>
   simp only [Result.andThen,Sem.run_pure,Oper.upon] at h
   obtain⟨v,J,_⟩:=h
   have:=congrArg Act.defers J
   cases hd:o.dst <;> simp [Act.put,hd] at this
 | halt x W'=>cases x <;> simp only [Result.andThen,Oper.upon] at h
theorem gD.wpIn {c:dd} {n:Nat} {o:Oper} {a:Act} {W:World} {R:Value→World→Prop} {next:Act→World→Prop} {Q:Exit→Act→World→Prop}
 (h:gD c.P o a W R) (ay:∀ v W',R v W'→next (a.put o.dst v) W'):o.wpIn c.F n c.P a W next Q:=by
 refine⟨fun _ _=>trivial,?_⟩
 rw [Oper.semAt_eq _ _ _ h.UJ]
 unfold gD Oper.wp at h
 generalize (execOp a.eval o).run c.P W=r at *
 cases r with
 | ok m W'=>
   cases m <;> simp only [Oper.upon,Oper.uponIn] at h ⊢
   case value v=>obtain⟨u,J,ad⟩:=h; rw [J]; exact ay _ _ ad
   case skip=>obtain⟨u,J,ad⟩:=h; rw [J]; exact ay _ _ ad
   case defer d=>obtain⟨u,J,ad⟩:=h; rw [J]; exact ay _ _ ad
   case enter f args=>
    refine⟨fun h=>by simp at h,CallsIn.HB ?_⟩
    refine h.mono fun e ub he=> ?_
    cases e with
    | returned v=>obtain⟨u,J,ad⟩:=he; simp only at J ⊢; rw [J]; exact ay _ _ ad
    | panicked Kr=>exact he.elim
    | outgrown=>obtain⟨_,_,J⟩:=he; exact J.elim
   case row row args=>
    refine⟨fun h=>by simp at h,RowsIn.Wj ?_⟩
    exact h.mono fun v ub ⟨u,J,ad⟩=>by rw [J]; exact ay _ _ ad
 | halt x W'=>cases x <;> simp only [Oper.upon] at h
theorem SK {c:dd} {n:Nat} {o:Oper} {a:Act} {W W':World} {v:Value} {next:Act→World→Prop} {Q:Exit→Act→World→Prop}
 (h:(execOp a.eval o).run c.P W= .ok (.value v) W') (ay:next (a.put o.dst v) W'):o.wpIn c.F n c.P a W next Q:=
 gD.wpIn (R:=fun u U=>u=v∧U=W') (by unfold gD Oper.wp; rw [h]; exact⟨v,rfl,rfl,rfl⟩) fun u U ⟨J,ad⟩=>by subst J; subst ad; exact ay
theorem Lw {c:dd} {n:Nat} {o:Oper} {a:Act} {W W':World} {next:Act→World→Prop} {Q:Exit→Act→World→Prop}
 (h:(execOp a.eval o).run c.P W= .ok .skip W') (ay:next (a.put o.dst undef) W'):o.wpIn c.F n c.P a W next Q:=
 gD.wpIn (R:=fun u U=>u=undef∧U=W') (by unfold gD Oper.wp; rw [h]; exact⟨undef,rfl,rfl,rfl⟩) fun u U ⟨J,ad⟩=>by subst J; subst ad; exact ay
theorem z9 {F:Fence} {n:Nat} {P:Program} {md:Region.Mode} {ops:Array Oper} {sL:Exit→Act→World→Prop} :∀ (l:List Oper) (k:Nat) (a4:Array Bool) (a:Act) (w:World),(∀ j,l[j]? =ops[k + j]?)→
 Region.seqB md ops l.length k a4=true→wpListIn F n P ops sL l a w→wpAnyIn F n P md ops sL l.length a4 a w
 | [],_,_,_,_,_,hr,h=>⟨by simpa [Region.seqB] using hr,h⟩
 | o :: l,k,a4,a,w,ao,hr,h=>by
   have bI:ops[k]? =some o:=by simpa using (ao 0).symm
   simp only [List.length_cons,Region.seqB,Bool.and_eq_true,decide_eq_true_eq] at hr
   refine⟨fun J=>(by rw [hr.1] at J; cases J),fun i au=> ?_⟩
   rw [hr.1] at au
   have lC:i=k:=by simpa using au
   subst lC
   have hw:wpOpIn F n P ops sL i (wpListIn F n P ops sL l) a w:=by unfold wpOpIn; simp only [bI]; exact h
   exact wpOpIn_mono (fun gw qs c0=>z9 l (i + 1) _ gw qs (fun j=>by have:=ao (j + 1); simpa [Nat.add_assoc,Nat.add_comm 1 j] using this) hr.2 c0) hw
theorem gD.kx {P:Program} {o:Oper} {a:Act} {W W':World} {R:Value→World→Prop} {v:Value}
 (h:(execOp a.eval o).run P W= .ok (.value v) W') (aR:R v W'):gD P o a W R:=by
 unfold gD Oper.wp
 rw [h]
 exact⟨v,rfl,aR⟩
theorem gD.xT {P:Program} {o:Oper} {a:Act} {W W':World} {R:Value→World→Prop}
 (h:(execOp a.eval o).run P W= .ok .skip W') (aR:R undef W'):gD P o a W R:=by
 unfold gD Oper.wp
 rw [h]
 exact⟨undef,rfl,aR⟩
theorem gD.u4 {P:Program} {o:Oper} {a:Act} {W W':World} {R:Value→World→Prop} {f:FuncId} {args:Array Value}
 (h:(execOp a.eval o).run P W= .ok (.enter f args) W') (aR:Calls P f args W' fun e ub=> ∃ v,e= .returned v∧R v ub):gD P o a W R:=by
 unfold gD Oper.wp
 rw [h]
 exact aR.mono fun e ub ⟨v,he,ad⟩=>by subst he; exact⟨v,rfl,ad⟩
def bS (c:dd) (E:List (Nat × I)) (L:List aM) (o:Oper) (τ:I):Prop:=
 ∀ a W,bx c E L a W→gD c.P o a W fun v W'=>Fr [] W W'∧τ.holds (aQ L ++ c.bT) W' v
theorem bS.pure {o:Oper} {τ:I} (h:∀ a W,bx c E L a W→ ∃ v,(execOp a.eval o).run c.P W= .ok (.value v) W∧τ.holds (aQ L ++ c.bT) W v):bS c E L o τ:=
 fun a W s=>let⟨_,J,ad⟩:=h a W s; .kx J ⟨.refl _ _,ad⟩
variable {ops:Array Oper} {Q:Exit→Act→World→Prop}
def ah (c:dd) (ops:Array Oper) (Q:Exit→Act→World→Prop) (l:List Oper) (E:List (Nat × I)) (L:List aM):Prop:=
 ∀ a W,bx c E L a W→c.pq ops Q l a W
def ae (c:dd) (Q:Exit→Act→World→Prop) (x:Exit) (E:List (Nat × I)) (L:List aM):Prop:= ∀ a W,bx c E L a W→Q x a W
theorem ah.nil (h:ae c Q .normal E L):ah c ops Q [] E L:=fun a W s=>wpListIn_nil (h a W s)
theorem hy {c:dd} {o:Oper} {rest:List Oper} {a:Act} {W:World} (bs:o.guard=none) {R:Value→World→Prop} (h:gD c.P o a W R)
 (ay:∀ v W',R v W'→c.pq ops Q rest (a.put o.dst v) W'):c.pq ops Q (o :: rest) a W:=
 wpListIn_plain bs fun _ wW=>h.wpIn fun v W' aR=>wW _ _ (ay v W' aR)
theorem ah.v {o:Oper} {rest:List Oper} {d:Nat} {τ:I} (h:bS c E L o τ) (bs:o.guard=none) (hd:o.dst=some d) (aO:Nat.blt d c.n=true)
 (k:ah c ops Q rest ((d,τ) :: E) L):ah c ops Q (o :: rest) E L:=fun a W s=>
 hy bs (h a W s) fun v W' ⟨f,a0⟩=>by
  rw [hd]
  exact k _ _ ((s.world f).put (by simpa using aO) a0)
theorem ah.x {o:Oper} {rest:List Oper} {τ:I} (h:bS c E L o τ) (bs:o.guard=none) (hd:o.dst=none)
 (k:ah c ops Q rest E L):ah c ops Q (o :: rest) E L:=fun a W s=>
 hy bs (h a W s) fun v W' ⟨f,_⟩=>by
  rw [hd]
  exact k _ _ (s.world f)
theorem xL {j g:Nat} {b:Bool} (aH:(ops[j]?).bind (·.dst)=some g) (ao:look E g=some (.of b)) {a:Act} {W:World} (s:bx c E L a W):
 yielded ops a.tmps j=some b:=by
 obtain⟨v,J,ad⟩:=s.env g _ ao
 unfold yielded
 rw [aH]
 simp only [Option.bind_some,J,of_bool.1 ad]
theorem ah.g {o:Oper} {rest:List Oper} {d j g:Nat} {b want:Bool} {τ:I} (h:b=want→bS c E L o τ) (bs:o.guard=some (j,want)) (aH:(ops[j]?).bind (·.dst)=some g)
 (ao:look E g=some (.of b)) (hd:o.dst=some d) (aO:Nat.blt d c.n=true)
 (k:ah c ops Q rest ((d,.cond (b=want) τ) :: E) L):ah c ops Q (o :: rest) E L:=fun a W s=>by
 have a5:=xL aH ao s
 unfold dd.pq wpListIn
 by_cases hb:b=want
 ·rw [if_pos (by simp [Region.wanted,bs,a5,hb])]
  refine((h hb a W s).wpIn fun v W' ⟨f,a0⟩=> ?_)
  rw [hd]
  exact k _ _ ((s.world f).put (by simpa using aO) ⟨fun _=>a0,fun h=>absurd hb h⟩)
 ·rw [if_neg (by simp [Region.wanted,bs,a5,hb])]
  rw [hd]
  exact⟨fun _ _=>trivial,k _ _ (s.put (by simpa using aO) ⟨fun h=>absurd h hb,fun _=>rfl⟩)⟩
theorem Ly {j g:Nat} {p:Prop} {b:Bool} (aH:(ops[j]?).bind (·.dst)=some g) (ao:look E g=some (.cond p (.of b))) {a:Act} {W:World} (s:bx c E L a W):
 (p→yielded ops a.tmps j=some b)∧ (¬ p→yielded ops a.tmps j=none):=by
 obtain⟨v,J,ad,aC⟩:=s.env g _ ao
 unfold yielded
 rw [aH]
 simp only [Option.bind_some,J]
 exact⟨fun hp=>by simp only [of_bool.1 (ad hp)],fun hp=>by simp only [aC hp]; rfl⟩
theorem ah.gg {o:Oper} {rest:List Oper} {d j g:Nat} {p:Prop} {b want:Bool} {τ:I} (h:p∧b=want→bS c E L o τ) (bs:o.guard=some (j,want)) (aH:(ops[j]?).bind (·.dst)=some g)
 (ao:look E g=some (.cond p (.of b))) (hd:o.dst=some d) (aO:Nat.blt d c.n=true)
 (k:ah c ops Q rest ((d,.cond (p∧b=want) τ) :: E) L):ah c ops Q (o :: rest) E L:=fun a W s=>by
 have a5:=Ly aH ao s
 unfold dd.pq wpListIn
 by_cases hb:p∧b=want
 ·rw [if_pos (by simp [Region.wanted,bs,a5.1 hb.1,hb.2])]
  refine((h hb a W s).wpIn fun v W' ⟨f,a0⟩=> ?_)
  rw [hd]
  exact k _ _ ((s.world f).put (by simpa using aO) ⟨fun _=>a0,fun h=>absurd hb h⟩)
 ·have hw:Region.wanted o (yielded ops a.tmps)=false:=by
   by_cases hp:p
   ·have: ¬ (b=want):=fun h=>hb ⟨hp,h⟩
    simp [Region.wanted,bs,a5.1 hp,this]
   ·simp [Region.wanted,bs,a5.2 hp]
  rw [if_neg (by simp [hw])]
  refine⟨fun _ _=>trivial,?_⟩
  rw [hd]
  exact k _ _ (s.put (by simpa using aO) ⟨fun h=>absurd h hb,fun _=>rfl⟩)
def sub:List (Nat × I)→List Nat→List (Nat × I)
 | _,[]=> []
 | E,t :: r=>match look E t with
   | some τ=>(t,τ) :: sub E r
   | none=>sub E r
inductive hG (E:List (Nat × I)):List (Nat × I)→Prop
 | nil:hG E []
 | cons {t τ σ r} :look E t=some σ→ (∀ A W v,σ.holds A W v→τ.holds A W v)→hG E r→hG E ((t,τ) :: r)
theorem hG.same {t:Nat} {τ:I} {r:List (Nat × I)} (h:look E t=some τ) (k:hG E r):hG E ((t,τ) :: r):= .cons h (fun _ _ _ h=>h) k
theorem hG.look:∀ {E':List (Nat × I)},hG E E'→ ∀ t τ,Gv.look E' t=some τ→ ∃ σ,Gv.look E t=some σ∧ ∀ A W v,σ.holds A W v→τ.holds A W v
 | _,.nil,t,τ,h=>by simp [Gv.look] at h
 | _,.cons (t:=s) (σ:=σ) J ad r,t,τ,h=>by
   simp only [Gv.look] at h
   by_cases e:Nat.beq s t=true
   ·rw [e] at h
    simp only [cond_true,Option.some.injEq] at h
    subst h
    rw [eh.1 e] at J
    exact⟨σ,J,ad⟩
   ·simp only [Bool.not_eq_true] at e
    rw [e] at h
    exact r.look t τ h
theorem ae.le {x:Exit} {E':List (Nat × I)} (h:hG E E') (k:ae c Q x E' L):ae c Q x E L:=fun a W s=>k a W (s.less h.look)
theorem ah.le {l:List Oper} {E':List (Nat × I)} (h:hG E E') (k:ah c ops Q l E' L):ah c ops Q l E L:=fun a W s=>k a W (s.less h.look)
def ag (c:dd) (Q:Exit→Act→World→Prop) (code:Code) (E:List (Nat × I)) (L:List aM):Prop:= ∀ a W,bx c E L a W→c.wp code Q a W
theorem ag.le {code:Code} {E':List (Nat × I)} (h:hG E E') (k:ag c Q code E' L):ag c Q code E L:=fun a W s=>k a W (s.less h.look)
theorem ag.cz {id:Nat} {l:List Oper} (h:ah c l.toArray Q l E L):ag c Q (.region id l.toArray false) E L:=fun a W s=>wpIn_region_lit (h a W s)
theorem ag.seq {x y:Code} (h:ag c (Exit.then (c.wp y Q) Q) x E L):ag c Q (.seq x y) E L:=fun a W s=>wpIn_seq (h a W s)
theorem ae.next {y:Code} (h:ag c Q y E L):ae c (Exit.then (c.wp y Q) Q) .normal E L:=fun a W s=>h a W s
theorem ae.exit {y:Act→World→Prop} {id:Nat} (h:ae c Q (.exit id) E L):ae c (Exit.then y Q) (.exit id) E L:=fun a W s=>h a W s
theorem ae.ret {y:Act→World→Prop} (h:ae c Q .ret E L):ae c (Exit.then y Q) .ret E L:=fun a W s=>h a W s
theorem ag.block {id:Nat} {x:Code} (h:ag c (Exit.inBlock id Q) x E L):ag c Q (.block id x) E L:=fun a W s=>wpIn_block (h a W s)
theorem ae.ea {id:Nat} (h:ae c Q .normal E L):ae c (Exit.inBlock id Q) .normal E L:=fun a W s=>h a W s
theorem ae.fM {id:Nat} (h:ae c Q .normal E L):ae c (Exit.inBlock id Q) (.exit id) E L:=fun a W s=>by
 show(if id=id then Q .normal a W else Q (.exit id) a W)
 rw [if_pos rfl]; exact h a W s
theorem ae.V9 {id BZ:Nat} (c6:Nat.beq BZ id=false) (h:ae c Q (.exit BZ) E L):ae c (Exit.inBlock id Q) (.exit BZ) E L:=fun a W s=>by
 show(if BZ=id then Q .normal a W else Q (.exit BZ) a W)
 rw [if_neg (fun e=>by rw [e,Nat.beq_refl] at c6; cases c6)]; exact h a W s
theorem ae.dn {id:Nat} (h:ae c Q .ret E L):ae c (Exit.inBlock id Q) .ret E L:=fun a W s=>h a W s
theorem ag.skip (h:ae c Q .normal E L):ag c Q .skip E L:=fun a W s=>wpIn_skip (h a W s)
theorem ag.exit {id:Nat} (h:ae c Q (.exit id) E L):ag c Q (.exit id) E L:=fun a W s=>wpIn_exit (h a W s)
theorem ag.ret (h:ae c Q .ret E L):ag c Q .ret E L:=fun a W s=>wpIn_ret (h a W s)
theorem ag.cond {x:Operand} {b:Bool} {y z:Code} (ao:a9 c E L x (.of b)) (bL:b=true→ag c Q y E L) (ba:b=false→ag c Q z E L):ag c Q (.cond x y z) E L:=
 fun a W s=>wpIn_cond_split (of_bool.1 (ao a W s)) (fun h=>bL h a W s) (fun h=>ba h a W s)
def e5 {σ ε:Type} :Nat→ (σ→Option (σ ⊕ ε))→σ→Option ε
 | 0,_,_=>none
 | n + 1,b,s=>match b s with
   | none=>none
   | some (.inl b6)=>e5 n b b6
   | some (.inr e)=>some e
def QK {σ ε:Type} (c:dd) (E:σ→List (Nat × I)) (L:σ→List aM) (xs:ε→Exit) (fN:ε→List (Nat × I)) (Lx:ε→List aM):σ ⊕ ε→Exit→Act→World→Prop
 | .inl s,x,a,W=>x= .normal∧bx c (E s) (L s) a W
 | .inr e,x,a,W=>x≠ .normal∧x=xs e∧bx c (fN e) (Lx e) a W
theorem ae.round {σ ε:Type} {E':σ→List (Nat × I)} {L':σ→List aM} {xs:ε→Exit} {fN:ε→List (Nat × I)} {Lx:ε→List aM} {s:σ}
 (h:∀ a W,bx c E L a W→bx c (E' s) (L' s) a W):ae c (QK c E' L' xs fN Lx (.inl s)) .normal E L:=fun a W st=>⟨rfl,h a W st⟩
theorem L4 {F:Fence} {n:Nat} {P:Program} {body:Code} {σ ε:Type} (b:σ→Option (σ ⊕ ε)) (fD:σ→Act→World→Prop) (X:ε→Exit→Act→World→Prop)
 (pb:∀ s r,b s=some r→ ∀ a W,fD s a W→body.wpIn F n P (fun x a W=>match r with | .inl b6=>x= .normal∧fD b6 a W | .inr e=>x≠ .normal∧X e x a W) a W)
 (Q:Exit→Act→World→Prop) (e:ε) (oB:∀ x a W,X e x a W→Q x a W) {cc:σ} {N:Nat} (ao:e5 N b cc=some e) {ib:Act} {iN:World} (bI:fD cc ib iN):
 (Code.loop body).wpIn F n P Q ib iN:=by
 intro dG k cs yG hb aR
 have key:∀ N s,e5 N b s=some e→ ∀ a W,fD s a W→
  ∃ x gw W',Q x gw W'∧ArrivesIn (Machine.fenced P F) P (lone (dG.atR a (.code body :: .inLoop body :: k)) cs W) dG k cs x gw W':=by
  intro N
  induction N with
  | zero=>intro s h; simp [e5] at h
  | succ N bJ=>
    intro s h a W la
    simp only [e5] at h
    split at h
    ·cases h
    ·rename_i b6 hs
     obtain⟨x,yt,yu,hq,q4⟩:=pb s _ hs a W la dG (.inLoop body :: k) cs yG hb aR
     obtain⟨an,Jt⟩:=hq
     subst an
     obtain⟨I6,I7,I8,IF,HC⟩:=bJ b6 h yt yu Jt
     exact⟨I6,I7,I8,IF,.of_steps (StepsIn.trans q4 (.one (fenced_calm hb aR rfl) stepR_inLoop)) HC⟩
    ·rename_i e' hs
     simp only [Option.some.injEq] at h
     subst h
     obtain⟨x,yt,yu,hq,q4⟩:=pb s _ hs a W la dG (.inLoop body :: k) cs yG hb aR
     obtain⟨an,Ks⟩:=hq
     exact⟨x,yt,yu,oB _ _ _ Ks,.pass (x:= .inLoop body) rfl (fun _ _=> .inl an) q4⟩
 obtain⟨x,gw,W',hq,q4⟩:=key N cc ao ib iN bI
 exact⟨x,gw,W',hq,.of_steps (.one (fenced_calm hb aR rfl) stepR_loop) q4⟩
theorem ag.loop {σ ε:Type} {body:Code} {N:Nat} {b:σ→Option (σ ⊕ ε)} {cc:σ} {e:ε} (ao:e5 N b cc=some e)
 (E:σ→List (Nat × I)) (L:σ→List aM) (xs:ε→Exit) (fN:ε→List (Nat × I)) (Lx:ε→List aM)
 (r4:∀ s r,b s=some r→ag c (QK c E L xs fN Lx r) body (E s) (L s))
 (oB:ae c Q (xs e) (fN e) (Lx e)):ag c Q (.loop body) (E cc) (L cc):=fun a W st=>
 L4 b (fun s a W=>bx c (E s) (L s) a W) (fun e x a W=>x=xs e∧bx c (fN e) (Lx e) a W)
  (fun s r hs a W la=>wpIn_mono (r4 s r hs a W la) (fun x a W h=>by
   cases r with
   | inl b6=>exact h
   | inr e'=>exact⟨h.1,h.2⟩)) Q e (fun x a W ⟨an,hs⟩=>by subst an; exact oB a W hs) ao st
def bK (P:Program) (f:FuncId) (τs:List I) (ρ:I):Prop:=
 ∀ (A:List Nat) (W:World) (vs:List Value),(∀ k∈A,k < W.heap.size)→gB A W τs vs→
   Calls P f vs.toArray W fun e W'=> ∃ v,e= .returned v∧Fr [] W W'∧ρ.holds A W' v
def params:Nat→List I→List (Nat × I)
 | _,[]=> []
 | k,τ :: r=>(k,τ) :: params (k + 1) r
theorem uS {A:List Nat} {W:World} {τs:List I} {vs:List Value} (h:gB A W τs vs):∀ (k t:Nat) (τ:I),look (params k τs) t=some τ→k≤t∧ ∃ v,vs[t - k]? =some v∧τ.holds A W v:=by
 induction h with
 | nil=>intro k t τ h; simp [params,look] at h
 | cons J r bJ=>
   intro k t τ ao
   simp only [params,look] at ao
   by_cases e:Nat.beq k t=true
   ·rw [e] at ao
    simp only [cond_true,Option.some.injEq] at ao
    subst ao
    rw [eh.1 e]
    exact⟨Nat.le_refl _,_,by simp,J⟩
   ·simp only [Bool.not_eq_true] at e
    rw [e] at ao
    have c6:k≠t:=fun h=>by rw [eh.2 h] at e; cases e
    obtain⟨ad,v,aC,aU⟩:=bJ (k + 1) t τ ao
    refine⟨by omega,v,?_,aU⟩
    rw [show t - k=(t - (k + 1)) + 1 by omega,List.getElem?_cons_succ]
    exact aC
theorem bK.enter {P:Program} {f:FuncId} {fn:Func} {code:Code} {n:Nat} {τs:List I} {ρ:I} (ba:P.funcs[f]? =some fn) (hb:fn.body=some code) (aO:fn.ntmps=n) (hlen:Nat.ble τs.length n=true)
 (h:∀ W A,ag ⟨P,n,W,[],A,none,[]⟩ (bodyPost P fn fun e W'=> ∃ v,e= .returned v∧Fr [] W W'∧ρ.holds A W' v) code (params 0 τs) []):bK P f τs ρ:=by
 intro A W vs fY a0
 refine calls_of_wp ba hb (wpIn_wide.1 (h W A _ _ ?_))
 have ao:=a0.length
 have hle:τs.length≤n:=Nat.le_of_ble_eq_true hlen
 exact
 {defers:=rfl
  size:=by simp [aO,ao]; omega
  env:=fun t τ kh=>by
   obtain⟨_,v,ad,aC⟩:=uS a0 0 t τ kh
   refine⟨v,?_,aC⟩
   have b5:t < vs.length:=(List.getElem?_eq_some_iff.1 ad).1
   rw [Array.getElem?_append_left (by simpa using b5)]
   simpa using ad
  dG:= .refl _ _
  own:=by simp
  nodup:=by simp [aQ]
  lt:=by simp [aQ]
  fR:=by simp [aQ]
  eW:=fun k ay=>⟨fY k ay,by simp [aQ]⟩ }
theorem LM {ρ:I} {A B:List Nat} {W:World} {v:Value} (h:ρ.holds (B ++ A) W v):ρ.holds A W v:=ρ.mono (.drop fun _ h=>List.mem_append.2 (.inr h)) h
end
section
variable {c:dd} {E:List (Nat × I)} {L:List aM} {ops:Array Oper} {Q:Exit→Act→World→Prop}
def kK (c:dd) (ops:Array Oper) (E:List (Nat × I)) (L:List aM) (o:Oper) (τ:I):Prop:=
 ∀ a W,bx c E L a W→
   (Region.wanted o (yielded ops a.tmps)=true→gD c.P o a W fun v W'=>Fr [] W W'∧τ.holds (aQ L ++ c.bT) W' v)∧
   (Region.wanted o (yielded ops a.tmps)=false→τ.holds (aQ L ++ c.bT) W undef)
theorem kK.v {o:Oper} {τ:I} (h:bS c E L o τ) (bs:o.guard=none):kK c ops E L o τ:=fun a W s=>
 ⟨fun _=>h a W s,fun hw=>by simp [Region.wanted,bs] at hw⟩
theorem kK.g {o:Oper} {j g:Nat} {b want:Bool} {τ:I} (h:b=want→bS c E L o τ) (bs:o.guard=some (j,want)) (aH:(ops[j]?).bind (·.dst)=some g) (ao:look E g=some (.of b)):
 kK c ops E L o (.cond (b=want) τ):=fun a W s=>by
 have a5:=xL aH ao s
 constructor
 ·intro hw
  have hb:b=want:=by simpa [Region.wanted,bs,a5] using hw
  refine gD.wp (h hb a W s) fun v W' ⟨f,a0⟩=>⟨v,rfl,f,fun _=>a0,fun h=>absurd hb h⟩
 ·intro hw
  exact⟨fun hb=>by simp [Region.wanted,bs,a5,hb] at hw,fun _=>rfl⟩
theorem kK.gg {o:Oper} {j g:Nat} {p:Prop} {b want:Bool} {τ:I} (h:p∧b=want→bS c E L o τ) (bs:o.guard=some (j,want)) (aH:(ops[j]?).bind (·.dst)=some g) (ao:look E g=some (.cond p (.of b))):
 kK c ops E L o (.cond (p∧b=want) τ):=fun a W s=>by
 have a5:=Ly aH ao s
 have yH:Region.wanted o (yielded ops a.tmps)=true→p∧b=want:=by
  intro hw
  by_cases hp:p
  ·exact⟨hp,by simpa [Region.wanted,bs,a5.1 hp] using hw⟩
  ·simp [Region.wanted,bs,a5.2 hp] at hw
 constructor
 ·intro hw
  refine gD.wp (h (yH hw) a W s) fun v W' ⟨f,a0⟩=>⟨v,rfl,f,fun _=>a0,fun h=>absurd (yH hw) h⟩
 ·intro hw
  exact⟨fun hb=>by simp [Region.wanted,bs,a5.1 hb.1,hb.2] at hw,fun _=>rfl⟩
inductive fg
 | val (τ:I)
 | new (cp:dB)
 | k0 (i:Nat) (cp:dB)
 | mS (j:Nat) (cp:dB)
def fg.nW:fg→Bool
 | .k0 _ _ | .mS _ _=>true
 | _=>false
def fg.rn (p:Nat):fg→Option I
 | .val τ=>some τ
 | .new _=>some (.eq (.pointer (some ⟨p,0,none⟩)))
 | _=>none
def he (br:Nat→Nat) (et:List (Option Nat)) (hs:List fg) (E:List (Nat × I)):List Nat→List (Nat × I)
 | []=>E
 | j :: r=>match et[j]?,hs[j]? with
   | some (some s),some h=>match h.rn (br j) with
     | some τ=>(s,τ) :: he br et hs E r
     | none=>he br et hs E r
   | _,_=>he br et hs E r
def yi:List aM→Nat→dB→List aM
 | [],_,_=> []
 | e :: r,0,cp=>⟨e.key,cp⟩ :: r
 | e :: r,i + 1,cp=>e :: yi r i cp
theorem T6 {L:List aM} {i:Nat} {e:aM} {cp:dB} (h:L[i]? =some e):yi L i cp=L.set i ⟨e.key,cp⟩:=by
 induction L generalizing i with
 | nil=>simp at h
 | cons x r bJ=>
   cases i with
   | zero=>simp only [List.getElem?_cons_zero,Option.some.injEq] at h; subst h; rfl
   | succ i=>simp only [List.getElem?_cons_succ] at h; simp [yi,bJ h]
def ec (L:List aM):List fg→List aM
 | []=>L
 | .k0 i cp :: r=>ec (yi L i cp) r
 | _ :: r=>ec L r
def iy (j:Nat) (cp:dB):List fg→dB
 | []=>cp
 | .mS i cp' :: r=>iy j (bif Nat.beq i j then cp' else cp) r
 | _ :: r=>iy j cp r
theorem LN (L:List aM) (r:List fg) (h:fg):ec L (r ++ [h])=ec (ec L r) [h]:=by
 induction r generalizing L with
 | nil=>rfl
 | cons x r bJ=>cases x <;> simp only [List.cons_append,ec] <;> exact bJ _
theorem GR (j:Nat) (cp:dB) (r:List fg) (h:fg):iy j cp (r ++ [h])=iy j (iy j cp r) [h]:=by
 induction r generalizing cp with
 | nil=>rfl
 | cons x r bJ=>cases x <;> simp only [List.cons_append,iy] <;> exact bJ _
theorem DP {L:List aM} :∀ {r:List fg},(∀ h∈r,h.nW=false)→ec L r=L
 | [],_=>rfl
 | h :: r,b3=>by
   have:=b3 h (by simp)
   have bJ:=DP (L:=L) (r:=r) (fun x an=>b3 x (by simp [an]))
   cases h <;> first | exact bJ | cases this
theorem DJ {j:Nat} {cp:dB} :∀ {r:List fg},(∀ h∈r,h.nW=false)→iy j cp r=cp
 | [],_=>rfl
 | h :: r,b3=>by
   have:=b3 h (by simp)
   have bJ:=DJ (j:=j) (cp:=cp) (r:=r) (fun x an=>b3 x (by simp [an]))
   cases h <;> first | exact bJ | cases this
def pe (w:Nat→Bool) (i:Nat):Nat→List fg→Bool
 | _,[]=>true
 | k,.k0 j _ :: r=>(!(Nat.beq j i) || w k) && pe w i (k + 1) r
 | k,.val _ :: r=>pe w i (k + 1) r
 | k,.new _ :: r=>pe w i (k + 1) r
 | k,.mS _ _ :: r=>pe w i (k + 1) r
theorem S8 {L:List aM} {i j:Nat} {cp:dB} (h:i≠j):(yi L i cp)[j]? =L[j]? :=by
 induction L generalizing i j with
 | nil=>rfl
 | cons e r bJ=>
   cases i with
   | zero=>cases j with
     | zero=>exact absurd rfl h
     | succ j=>rfl
   | succ i=>cases j with
     | zero=>rfl
     | succ j=>simp only [yi,List.getElem?_cons_succ]; exact bJ (by omega)
theorem Aq {L:List aM} {i:Nat} {w:Nat→Bool} :∀ {r:List fg} (b k:Nat),pe w i k r=true→ (∀ q,q < b→ (∃ j cp,r[q]? =some (.k0 j cp))→w (k + q)=false)→ (ec L (r.take b))[i]? =L[i]?
 | [],b,_,_,_=>by simp [ec]
 | h :: r,0,_,_,_=>by simp [ec]
 | .k0 j cp :: r,b + 1,k,h,hw=>by
   simp only [pe,Bool.and_eq_true,Bool.or_eq_true,Bool.not_eq_true'] at h
   have aaB:w k=false:=by simpa using hw 0 (by omega) ⟨j,cp,by simp⟩
   have c6:j≠i:=fun e=>by
    rw [e,Nat.beq_refl,aaB] at h
    rcases h.1 with h | h <;> cases h
   rw [List.take_succ_cons,ec,Aq b (k + 1) h.2 (fun q hq an=>by have:=hw (q + 1) (by omega) (by simpa using an); rw [← this]; congr 1; omega),S8 c6]
 | .val _ :: r,b + 1,k,h,hw=>by rw [List.take_succ_cons]; exact Aq (r:=r) b (k + 1) h (fun q hq an=>by have:=hw (q + 1) (by omega) (by simpa using an); rw [← this]; congr 1; omega)
 | .new _ :: r,b + 1,k,h,hw=>by rw [List.take_succ_cons]; exact Aq (r:=r) b (k + 1) h (fun q hq an=>by have:=hw (q + 1) (by omega) (by simpa using an); rw [← this]; congr 1; omega)
 | .mS _ _ :: r,b + 1,k,h,hw=>by rw [List.take_succ_cons]; exact Aq (r:=r) b (k + 1) h (fun q hq an=>by have:=hw (q + 1) (by omega) (by simpa using an); rw [← this]; congr 1; omega)
def Kt (P:Program) (o:Oper) (cp:dB):Prop:=
 o.guard=none∧ ∃ j0,(∀ A W,cp.holds A W j0)∧ ∀ (a:Act) W,(execOp a.eval o).run P W= .ok (.value (.pointer (some ⟨W.heap.size,0,none⟩))) (W.alloc j0)
def CG (c:dd) (E:List (Nat × I)) (L:List aM) (o:Oper) (p:Nat) (cp:dB):Prop:=
 o.guard=none∧o.dst=none∧ ∀ a W,bx c E L a W→ ∃ cs dS T,W.heap[p]? =some (.cells cs T (0,0))∧ (execOp a.eval o).run c.P W= .ok .skip (W.setRow p dS)∧cp.holds (aQ L ++ c.bT) W (.cells dS T (0,0))
def qY (c:dd) (ops:Array Oper) (br:Nat→Nat) (et:List (Option Nat)) (all:List fg) (E:List (Nat × I)) (L:List aM):Nat→List Oper→List fg→List (List Nat)→Prop
 | _,_,[],_=>True
 | i,o :: os,.val τ :: hs,d :: ds=>(∀ L':List aM,(∀ (j:Nat) (e:aM),L[j]? =some e→pe (fun k=>Region.waitsFor .any ops k i) j 0 all=true→L'[j]? =some e)→kK c ops (he br et all E d) L' o τ)∧qY c ops br et all E L (i + 1) os hs ds
 | i,o :: os,.new cp :: hs,_ :: ds=>Kt c.P o cp∧qY c ops br et all E L (i + 1) os hs ds
 | i,o :: os,.k0 k cp :: hs,d :: ds=>(∃ (p:Nat) (nt:dB),(ec L (all.take i))[k]? =some ⟨some p,nt⟩∧ ∀ L':List aM,(∀ (j:Nat) (e:aM),(ec L (all.take i))[j]? =some e→L'[j]? =some e)→CG c (he br et all E d) L' o p cp)∧qY c ops br et all E L (i + 1) os hs ds
 | i,o :: os,.mS k cp :: hs,d :: ds=>(d.contains k=true∧ ∃ nt:dB,all[k]? =some (.new nt)∧ ∀ (L':List aM) (q:Nat),L'[q]? =some ⟨some (br k),iy k nt (all.take i)⟩→CG c (he br et all E d) L' o (br k) cp)∧qY c ops br et all E L (i + 1) os hs ds
 | _,_,_,_=>False
def EO (ops:Array Oper) (n:Nat) (et:List (Option Nat)) (se:List (List Nat)) (B0:List Bool) (y2:Nat):Bool:=
 decide (et.length=n) && decide (n≤ops.size) && (et.filterMap id).all (Nat.blt · y2) && decide (et.filterMap id).Nodup &&
 ((List.range n).all fun i=>((ops[i]?).map fun o=>(some o.dst ==et[i]?) && (o.after.all fun e=> !Region.binds .any e || decide (e.on < i))).getD false) &&
 ((List.range n).all fun i=>(se.getD i []).all fun j=>decide (j < n) && Region.waitsFor .any ops i j) &&
 ((List.range n).all fun i=> !(B0.getD i false) || ((List.range i).all fun j=> !(B0.getD j false) || Region.waitsFor .any ops i j)) &&
 (decide (n=ops.size) || (Region.sinkB .any ops n && Region.chainB .any ops n)) &&
 Region.seqB .any ops (ops.size - n) n ((List.range n).foldl (fun l i=>l.setIfInBounds i true) (Array.replicate ops.size false))
def BC (E:List (Nat × I)) (et:List Nat):Bool:=match E with
 | []=>true
 | e :: r=> !(et.contains e.1) && BC r et
theorem G4 {et:List Nat} :∀ {E:List (Nat × I)},BC E et=true→ ∀ t τ,look E t=some τ→t ∉ et
 | [],_,t,τ,h=>by simp [look] at h
 | (s,σ) :: r,hd,t,τ,h=>by
   simp only [BC,Bool.and_eq_true,Bool.not_eq_true'] at hd
   simp only [look] at h
   by_cases e:Nat.beq s t=true
   ·have:=eh.1 e
    subst this
    simpa using hd.1
   ·simp only [Bool.not_eq_true] at e
    rw [e] at h
    exact G4 hd.2 t τ h
theorem Er (f g:Nat→Bool) (i:Nat) (ba:f i=true) (bs:g i=false) (h:∀ j,g j=true→f j=true):∀ n,i < n→ ((List.range n).filter g).length < ((List.range n).filter f).length:=by
 have le:∀ n,((List.range n).filter g).length≤ ((List.range n).filter f).length:=by
  intro n
  induction n with
  | zero=>simp
  | succ n bJ=>
    rw [List.range_succ,List.filter_append,List.filter_append,List.length_append,List.length_append]
    have:([n].filter g).length≤ ([n].filter f).length:=by
     cases wv:g n with
     | false=>simp [wv]
     | true=>simp [wv,h n wv]
    omega
 intro n
 induction n with
 | zero=>omega
 | succ n bJ=>
   intro b5
   rw [List.range_succ,List.filter_append,List.filter_append,List.length_append,List.length_append]
   by_cases e:i=n
   ·subst e
    have:=le i
    simp [ba,bs]
    omega
   ·have J:=bJ (by omega)
    have:([n].filter g).length≤ ([n].filter f).length:=by
     cases wv:g n with
     | false=>simp [wv]
     | true=>simp [wv,h n wv]
    omega
theorem G5 {br:Nat→Nat} {et:List (Option Nat)} {all:List fg} :∀ {k:Nat} {os:List Oper} {hs:List fg} {ds:List (List Nat)},qY c ops br et all E L k os hs ds→
 ∀ (i:Nat) h,hs[i]? =some h→ ∃ o,os[i]? =some o∧ (match h with
   | .val τ=> ∀ L':List aM,(∀ (j:Nat) (e:aM),L[j]? =some e→pe (fun q=>Region.waitsFor .any ops q (k + i)) j 0 all=true→L'[j]? =some e)→kK c ops (he br et all E (ds.getD i [])) L' o τ
   | .new cp=>Kt c.P o cp
   | .k0 q cp=> ∃ (p:Nat) (nt:dB),(ec L (all.take (k + i)))[q]? =some ⟨some p,nt⟩∧ ∀ L':List aM,(∀ (j:Nat) (e:aM),(ec L (all.take (k + i)))[j]? =some e→L'[j]? =some e)→CG c (he br et all E (ds.getD i [])) L' o p cp
   | .mS q cp=>(ds.getD i []).contains q=true∧ ∃ nt:dB,all[q]? =some (.new nt)∧ ∀ (L':List aM) (r:Nat),L'[r]? =some ⟨some (br q),iy q nt (all.take (k + i))⟩→CG c (he br et all E (ds.getD i [])) L' o (br q) cp)
 | k,os,[],ds,_,i,h,au=>by simp at au
 | k,[],h :: hs,ds,b3,_,_,_=>by cases h <;> simp [qY] at b3
 | k,o :: os,h :: hs,[],b3,_,_,_=>by cases h <;> simp [qY] at b3
 | k,o :: os,bI :: hs,d :: ds,b3,i,h,au=>by
   have hd:qY c ops br et all E L (k + 1) os hs ds:=by cases bI <;> exact b3.2
   cases i with
   | zero=>
     simp only [List.getElem?_cons_zero,Option.some.injEq] at au
     subst au
     refine⟨o,by simp,?_⟩
     cases bI <;> exact b3.1
   | succ i=>
     simp only [List.getElem?_cons_succ] at au
     obtain⟨o',J,ad⟩:=G5 hd i h au
     refine⟨o',by simpa using J,?_⟩
     rw [show k + (i + 1)=k + 1 + i by omega]
     cases h <;> exact ad
theorem M6 {br:Nat→Nat} {et:List (Option Nat)} {hs:List fg} {t:Nat} {τ:I} :∀ {ds:List Nat},look (he br et hs E ds) t=some τ→ (∃ j∈ds,et[j]? =some (some t)∧ ∃ h,hs[j]? =some h∧h.rn (br j)=some τ)∨look E t=some τ
 | [],h=> .inr h
 | j :: r,h=>by
   have rest:look (he br et hs E r) t=some τ→ (∃ k∈j :: r,et[k]? =some (some t)∧ ∃ h,hs[k]? =some h∧h.rn (br k)=some τ)∨look E t=some τ:=fun h=>by
    rcases M6 h with⟨k,ay,J⟩ | J
    ·exact .inl ⟨k,List.mem_cons_of_mem _ ay,J⟩
    ·exact .inr J
   simp only [he] at h
   split at h
   ·rename_i s ay B1 oL
    split at h
    ·rename_i σ lY
     simp only [look] at h
     by_cases e:Nat.beq s t=true
     ·rw [e] at h
      simp only [cond_true,Option.some.injEq] at h
      subst h
      exact .inl ⟨j,by simp,by rw [B1,eh.1 e],ay,oL,lY⟩
     ·simp only [Bool.not_eq_true] at e
      rw [e] at h
      exact rest h
    ·exact rest h
   ·exact rest h
def tO (br:Nat→Nat) (E:List (Nat × I)):Nat→List (Option Nat)→List fg→List (Nat × I)
 | i,some s :: gK,.val τ :: hs=>(s,τ) :: tO br E (i + 1) gK hs
 | i,some s :: gK,.new _ :: hs=>(s,.eq (.pointer (some ⟨br i,0,none⟩))) :: tO br E (i + 1) gK hs
 | i,_ :: gK,_ :: hs=>tO br E (i + 1) gK hs
 | _,_,_=>E
def mf (br:Nat→Nat) (all:List fg) (L:List aM):Nat→List fg→List aM
 | i,.new cp :: hs=>⟨some (br i),iy i cp all⟩ :: mf br all L (i + 1) hs
 | i,_ :: hs=>mf br all L (i + 1) hs
 | _,[]=>L
theorem L5 {br:Nat→Nat} {t:Nat} {τ:I} :∀ {et:List (Option Nat)} {hs:List fg} (k:Nat),look (tO br E k et hs) t=some τ→
 (∃ j:Nat,et[j]? =some (some t)∧ ∃ h,hs[j]? =some h∧h.rn (br (k + j))=some τ)∨look E t=some τ
 | [],hs,k,h=> .inr (by cases hs <;> exact h)
 | s :: gK,[],k,h=> .inr (by cases s <;> exact h)
 | s :: gK,x :: hs,k,h=>by
   have rest:look (tO br E (k + 1) gK hs) t=some τ→ (∃ j:Nat,(s :: gK)[j]? =some (some t)∧ ∃ h,(x :: hs)[j]? =some h∧h.rn (br (k + j))=some τ)∨look E t=some τ:=fun h=>by
    rcases L5 (k + 1) h with⟨j,J,ad⟩ | J
    ·refine .inl ⟨j + 1,by simpa using J,?_⟩
     rw [show k + (j + 1)=k + 1 + j by omega]
     simpa using ad
    ·exact .inr J
   have one:∀ (b6:Nat) (σ:I),s=some b6→x.rn (br k)=some σ→look ((b6,σ) :: tO br E (k + 1) gK hs) t=some τ→ (∃ j:Nat,(s :: gK)[j]? =some (some t)∧ ∃ h,(x :: hs)[j]? =some h∧h.rn (br (k + j))=some τ)∨look E t=some τ:=fun b6 σ e0 lY h=>by
    simp only [look] at h
    by_cases e:Nat.beq b6 t=true
    ·rw [e] at h
     simp only [cond_true,Option.some.injEq] at h
     subst h
     exact .inl ⟨0,by simp [e0,eh.1 e],x,by simp,by simpa using lY⟩
    ·simp only [Bool.not_eq_true] at e
     rw [e] at h
     exact rest h
   cases s with
   | none=>cases x <;> exact rest h
   | some b6=>
     cases x with
     | val σ=>exact one b6 σ rfl rfl h
     | new cp=>exact one b6 _ rfl rfl h
     | k0 i cp=>exact rest h
     | mS i cp=>exact rest h
theorem GX {n:Nat} {a4:Array Bool} (inv:HeadInv .any ops n a4) (aO:n≤ops.size) (kA:∀ i,i < n→a4.getD i true=true):
 a4=(List.range n).foldl (fun l i=>l.setIfInBounds i true) (Array.replicate ops.size false):=by
 have key:∀ m,m≤ops.size→ ((List.range m).foldl (fun l i=>l.setIfInBounds i true) (Array.replicate ops.size false)).size=ops.size∧
  ∀ j (d:Bool),j < ops.size→ ((List.range m).foldl (fun l i=>l.setIfInBounds i true) (Array.replicate ops.size false)).getD j d=decide (j < m):=by
  intro m
  induction m with
  | zero=>intro _; exact⟨by simp,fun j d aH=>by simp [aH]⟩
  | succ m bJ=>
    intro hm
    obtain⟨J,ad⟩:=bJ (by omega)
    rw [List.range_succ,List.foldl_append]
    simp only [List.foldl_cons,List.foldl_nil]
    refine⟨by simpa using J,fun j d aH=> ?_⟩
    by_cases e:m=j
    ·subst e
     simp [J,aH]
    ·rw [getD_set_ne d e,ad j d aH]
     by_cases aC:j < m
     ·simp [aC]; omega
     ·simp [aC]; omega
 obtain⟨J,ad⟩:=key n aO
 apply Array.ext
 ·rw [inv.size,J]
 ·intro i Qb yI
  have au:i < ops.size:=by rw [← inv.size]; exact Qb
  have aC:=ad i true au
  have av:a4.getD i true=a4[i]:=by simp [Qb]
  have aX:((List.range n).foldl (fun l i=>l.setIfInBounds i true) (Array.replicate ops.size false)).getD i true=((List.range n).foldl (fun l i=>l.setIfInBounds i true) (Array.replicate ops.size false))[i]:=by
   simp [yI]
  rw [← aX,aC,← av]
  by_cases aU:i < n
  ·rw [kA i aU]; simp [aU]
  ·rw [inv.tail i (by omega) au]; simp [aU]
theorem xK (br:Nat→Nat) (all:List fg) (L:List aM):∀ (hs:List fg) (i:Nat),mf br all L i hs=mf br all [] i hs ++ L
 | [],_=>rfl
 | .new cp :: hs,i=>by simp only [mf]; rw [xK br all L hs (i + 1)]; rfl
 | .val _ :: hs,i=>xK br all L hs (i + 1)
 | .k0 _ _ :: hs,i=>xK br all L hs (i + 1)
 | .mS _ _ :: hs,i=>xK br all L hs (i + 1)
theorem G6 {br:Nat→Nat} {all:List fg} {e:aM} :∀ {hs:List fg} {i:Nat},e∈mf br all [] i hs→ ∃ (j:Nat) (cp:dB),hs[j]? =some (.new cp)∧e=⟨some (br (i + j)),iy (i + j) cp all⟩
 | [],_,h=>by simp [mf] at h
 | x :: hs,i,h=>by
   have rest:e∈mf br all [] (i + 1) hs→ ∃ (j:Nat) (cp:dB),(x :: hs)[j]? =some (.new cp)∧e=⟨some (br (i + j)),iy (i + j) cp all⟩:=fun h=>by
    obtain⟨j,cp,J,ad⟩:=G6 (hs:=hs) (i:=i + 1) h
    refine⟨j + 1,cp,by simpa using J,?_⟩
    rw [show i + (j + 1)=i + 1 + j by omega]; exact ad
   cases x with
   | new cp=>
     rcases List.mem_cons.1 h with h | h
     ·exact⟨0,cp,by simp,by simpa using h⟩
     ·exact rest h
   | val _=>exact rest h
   | k0 _ _=>exact rest h
   | mS _ _=>exact rest h
theorem Lj {br:Nat→Nat} {all:List fg} :∀ (hs:List fg) (i:Nat),(∀ (j k:Nat) (u v:dB),hs[j]? =some (.new u)→hs[k]? =some (.new v)→br (i + j)=br (i + k)→j=k)→ (aQ (mf br all [] i hs)).Nodup
 | [],_,_=>by simp [mf,aQ]
 | x :: hs,i,h=>by
   have aR:(aQ (mf br all [] (i + 1) hs)).Nodup:=Lj hs (i + 1) fun j k u v J ad aC=>by
    have:=h (j + 1) (k + 1) u v (by simpa using J) (by simpa using ad) (by rw [show i + (j + 1)=i + 1 + j by omega,show i + (k + 1)=i + 1 + k by omega]; exact aC)
    omega
   cases x with
   | val _=>exact aR
   | k0 _ _=>exact aR
   | mS _ _=>exact aR
   | new cp=>
     simp only [mf,aQ]
     refine List.nodup_cons.2 ⟨fun hm=> ?_,aR⟩
     obtain⟨e,he,ay⟩:=ln.1 hm
     obtain⟨j,u,J,ad⟩:=G6 he
     rw [ad] at ay
     simp only [Option.some.injEq] at ay
     have:=h 0 (j + 1) cp u (by simp) (by simpa using J) (by rw [show i + (j + 1)=i + 1 + j by omega]; simpa using ay.symm)
     omega
def fj (br:Nat→Nat) (all:List fg) (b:Nat) (dw:List Nat):List aM:=dw.map fun j=>⟨some (br j),match all[j]? with | some (.new cp)=>iy j cp (all.take b) | _=> .dead⟩
theorem AL (br:Nat→Nat) (all:List fg) (b:Nat):∀ (dw:List Nat),aQ (fj br all b dw)=dw.map br
 | []=>rfl
 | j :: dw=>by
   have:=AL br all b dw
   simp only [fj,List.map_cons,aQ] at this ⊢
   rw [this]
structure yJ (c:dd) (n:Nat) (et:List (Option Nat)) (hs:List fg) (E:List (Nat × I)) (L:List aM) (a4:Array Bool) (br:Nat→Nat) (dw:List Nat) (b:Nat) (a:Act) (W:World):Prop where
 st:bx c E (ec L (hs.take b) ++ fj br hs b dw) a W
 done:∀ (j:Nat) s h τ,j < n→a4.getD j false=true→et[j]? =some (some s)→hs[j]? =some h→h.rn (br j)=some τ→ ∃ v,a.tmps[s]? =some v∧τ.holds (aQ (ec L (hs.take b) ++ fj br hs b dw) ++ c.bT) W v
 news:∀ (j:Nat),j∈dw↔ (j < n∧a4.getD j false=true∧ ∃ cp,hs[j]? =some (.new cp))
 stored:∀ (j:Nat) h,hs[j]? =some h→h.nW=true→ (a4.getD j false=true↔j < b)
 ble:b≤n
theorem UK {hs:List fg} {b i:Nat} {h:fg} (hb:b≤i) (au:hs[i]? =some h) (aO:∀ (j:Nat) x,b≤j→j < i→hs[j]? =some x→x.nW=false):
 ∃ r,hs.take i=hs.take b ++ r∧ ∀ x∈r,x.nW=false:=by
 refine⟨(hs.drop b).take (i - b),?_,fun x an=> ?_⟩
 ·rw [← List.take_add]; congr 1; omega
 ·obtain⟨j,aH⟩:=List.mem_iff_getElem?.1 an
  rw [List.getElem?_take] at aH
  split at aH
  ·rw [List.getElem?_drop] at aH
   exact aO (b + j) x (by omega) (by omega) aH
  ·cases aH
theorem HD (L:List aM) (r s:List fg):ec L (r ++ s)=ec (ec L r) s:=by
 induction r generalizing L with
 | nil=>rfl
 | cons x r bJ=>cases x <;> simp only [List.cons_append,ec] <;> exact bJ _
theorem Hf (j:Nat) (cp:dB) (r s:List fg):iy j cp (r ++ s)=iy j (iy j cp r) s:=by
 induction r generalizing cp with
 | nil=>rfl
 | cons x r bJ=>cases x <;> simp only [List.cons_append,iy] <;> exact bJ _
theorem vc {L R:List aM} (h:L.Perm R):(aQ L).Perm (aQ R):=by
 induction h with
 | nil=>exact .nil
 | cons x _ bJ=>cases ay:x.key <;> simp only [aQ,ay] <;> first | exact bJ | exact bJ.cons _
 | swap x y l=>
   cases an:x.key <;> cases a5:y.key <;> simp only [aQ,an,a5]
   all_goals first | exact .refl _ | exact .swap _ _ _
 | trans _ _ J ad=>exact J.trans ad
theorem bx.perm {E L L' a W} (h:bx c E L a W) (p:L.Perm L'):bx c E L' a W:=
 h.sub (fun e he=>p.mem_iff.2 he) ((vc p).nodup_iff.1 h.nodup)
theorem Ak {j:Nat} {cp:dB} :∀ {r:List fg},(∀ q x,fg.mS q x∈r→q≠j)→iy j cp r=cp
 | [],_=>rfl
 | .mS q x :: r,h=>by
   have J:=h q x (by simp)
   have e:Nat.beq q j=false:=by
    cases hb:Nat.beq q j with
    | false=>rfl
    | true=>exact absurd (eh.1 hb) J
   simp only [iy,e,cond_false]
   exact Ak fun q x hm=>h q x (by simp [hm])
 | .val _ :: r,h=>Ak (r:=r) fun q x hm=>h q x (by simp [hm])
 | .new _ :: r,h=>Ak (r:=r) fun q x hm=>h q x (by simp [hm])
 | .k0 _ _ :: r,h=>Ak (r:=r) fun q x hm=>h q x (by simp [hm])
theorem Lz (f:Nat→Nat):∀ (l:List Nat),(l.map f).Nodup→l.Nodup
 | [],_=>by simp
 | x :: r,h=>by
   simp only [List.map_cons] at h
   obtain⟨J,ad⟩:=List.nodup_cons.1 h
   exact List.nodup_cons.2 ⟨fun hm=>J (List.mem_map.2 ⟨x,hm,rfl⟩),Lz f r ad⟩
theorem Vq {br nu:Nat→Nat} {all:List fg} {b:Nat} {dw:List Nat} (h:∀ j∈dw,nu j=br j):fj nu all b dw=fj br all b dw:=by
 unfold fj
 exact List.map_congr_left fun j aH=>by rw [h j aH]
theorem T7 {n:Nat} {et:List (Option Nat)} {hs:List fg} {se:List (List Nat)} (hr:EO ops n et se (hs.map fg.nW) c.n=true) (aB:BC E (et.filterMap id)=true) (hlen:hs.length=n)
 (b3:∀ br,qY c ops br et hs E L 0 ops.toList hs se) (bL:∀ br,ah c ops Q (ops.toList.drop n) (tO br E 0 et hs) (mf br hs (ec L hs) 0 hs)):
 ∀ m (a4:Array Bool) (br:Nat→Nat) (dw:List Nat) (b:Nat) (a:Act) (W:World),((List.range n).filter fun i=> !a4.getD i true).length≤m→HeadInv .any ops n a4→yJ c n et hs E L a4 br dw b a W→
   wpAnyIn c.F 9 c.P .any ops Q (m + (ops.size - n)) a4 a W:=by
 simp only [EO,Bool.and_eq_true,decide_eq_true_eq,Bool.or_eq_true] at hr
 obtain⟨⟨⟨⟨⟨⟨⟨⟨mr,aO⟩,b5⟩,gu⟩,ZO⟩,O0⟩,ZP⟩,vJ⟩,pW⟩:=hr
 have su:∀ i,i < n→ ∃ o,ops[i]? =some o∧et[i]? =some o.dst∧ ∀ e∈o.after,Region.binds .any e=true→e.on < i:=by
  intro i au
  have J:=List.all_eq_true.1 ZO i (List.mem_range.2 au)
  cases bb:ops[i]? with
  | none=>simp [bb] at J
  | some o=>
    simp only [bb,Option.map_some,Option.getD_some,Bool.and_eq_true,beq_iff_eq] at J
    refine⟨o,rfl,J.1.symm,fun e he hb=> ?_⟩
    have:=Array.all_eq_true_iff_forall_mem.1 J.2 e he
    simp [hb] at this
    exact this
 have E1:∀ (i s:Nat),et[i]? =some (some s)→s < c.n:=fun i s h=>by
  have:s∈et.filterMap id:=List.mem_filterMap.2 ⟨some s,List.mem_of_getElem? h,rfl⟩
  have:=List.all_eq_true.1 b5 s this
  simpa using this
 have PL:∀ (i j s:Nat),et[i]? =some (some s)→et[j]? =some (some s)→i=j:=by
  have key:∀ (l:List (Option Nat)),(l.filterMap id).Nodup→ ∀ (i j s:Nat),l[i]? =some (some s)→l[j]? =some (some s)→i=j:=by
   intro l
   induction l with
   | nil=>intro _ i j s h; simp at h
   | cons x r bJ=>
     intro gu i j s au aH
     have aR:(r.filterMap id).Nodup:=by
      cases x with
      | none=>simpa using gu
      | some y=>simp only [List.filterMap_cons_some (f:=id) (a:=some y) (b:=y) rfl] at gu; exact(List.nodup_cons.1 gu).2
     have pV:x=some s→s ∉ r.filterMap id:=fun e=>by
      subst e
      simp only [List.filterMap_cons_some (f:=id) (a:=some s) (b:=s) rfl] at gu
      exact(List.nodup_cons.1 gu).1
     cases i with
     | zero=>
       simp only [List.getElem?_cons_zero,Option.some.injEq] at au
       cases j with
       | zero=>rfl
       | succ j=>
         simp only [List.getElem?_cons_succ] at aH
         exact absurd (List.mem_filterMap.2 ⟨some s,List.mem_of_getElem? aH,rfl⟩:s∈r.filterMap id) (pV au)
     | succ i=>
       simp only [List.getElem?_cons_succ] at au
       cases j with
       | zero=>
         simp only [List.getElem?_cons_zero,Option.some.injEq] at aH
         exact absurd (List.mem_filterMap.2 ⟨some s,List.mem_of_getElem? au,rfl⟩:s∈r.filterMap id) (pV aH)
       | succ j=>
         simp only [List.getElem?_cons_succ] at aH
         rw [bJ aR i j s au aH]
  exact key et gu
 intro m
 induction m with
 | zero=>
   intro a4 br dw b a W hm inv mid
   have kA:∀ i,i < n→a4.getD i true=true:=by
    intro i au
    cases h:a4.getD i true with
    | true=>rfl
    | false=>
      have:i∈ (List.range n).filter fun i=> !a4.getD i true:=List.mem_filter.2 ⟨List.mem_range.2 au,by rw [h]; rfl⟩
      rw [List.length_eq_zero_iff.1 (Nat.le_zero.1 hm)] at this
      cases this
   have ao:=GX inv aO kA
   rw [← ao] at pW
   have vK:(ops.toList.drop n).length=ops.size - n:=by simp
   rw [Nat.zero_add,← vK]
   rw [← vK] at pW
   refine z9 (ops.toList.drop n) n a4 a W (fun j=>by simp) pW (bL br a W ?_)
   have nO:∀ j,j < n→a4.getD j false=true:=fun j p9=>by
    have aC:=kA j p9
    have aU:j < a4.size:=by rw [inv.size]; omega
    simpa [aU] using aC
   have p9:∀ (j:Nat) (h:fg),hs[j]? =some h→j < n:=fun j h aH=>by have:=(List.getElem?_eq_some_iff.1 aH).1; omega
   have NP:∀ x∈hs.drop b,x.nW=false:=fun x an=>by
    obtain⟨j,aH⟩:=List.mem_iff_getElem?.1 an
    rw [List.getElem?_drop] at aH
    cases hE:x.nW with
    | false=>rfl
    | true=>
      have:=(mid.stored (b + j) x aH hE).1 (nO _ (p9 _ _ aH))
      omega
   have PM:ec L hs=ec L (hs.take b):=by
    conv=>lhs; rw [← List.take_append_drop b hs]
    rw [HD,DP NP]
   have Ju:∀ (j:Nat) cp,iy j cp hs=iy j cp (hs.take b):=fun j cp=>by
    conv=>lhs; rw [← List.take_append_drop b hs]
    rw [Hf,DJ NP]
   have IG:(dw.map br).Nodup:=by
    have:=mid.st.nodup
    rw [eS,AL] at this
    exact(List.nodup_append.1 this).2.1
   have ZQ:∀ (j k:Nat),j∈dw→k∈dw→br j=br k→j=k:=by
    have key:∀ (l:List Nat),(l.map br).Nodup→ ∀ j k:Nat,j∈l→k∈l→br j=br k→j=k:=by
     intro l
     induction l with
     | nil=>intro _ j k h; cases h
     | cons x r aaC=>
       intro aO j k aH ay e
       simp only [List.map_cons] at aO
       obtain⟨J,ad⟩:=List.nodup_cons.1 aO
       rcases List.mem_cons.1 aH with aC | aH
       ·rcases List.mem_cons.1 ay with aU | ay
        ·rw [aC,aU]
        ·exact absurd (List.mem_map.2 ⟨k,ay,by rw [← e,aC]⟩) J
       ·rcases List.mem_cons.1 ay with aU | ay
        ·exact absurd (List.mem_map.2 ⟨j,aH,by rw [e,aU]⟩) J
        ·exact aaC ad j k aH ay e
    exact key dw IG
   have Jv:∀ (j:Nat) cp,hs[j]? =some (.new cp)→j∈dw:=fun j cp aH=>(mid.news j).2 ⟨p9 j _ aH,nO j (p9 j _ aH),cp,aH⟩
   have IH:∀ e∈mf br hs [] 0 hs,e∈fj br hs b dw:=fun e he=>by
    obtain⟨j,cp,J,ad⟩:=G6 he
    rw [Nat.zero_add] at ad
    refine List.mem_map.2 ⟨j,Jv j cp J,?_⟩
    simp only [J]
    rw [ad,Ju]
   have Qc:bx c E (mf br hs (ec L hs) 0 hs) a W:=by
    rw [xK,PM]
    refine mid.st.sub (fun e he=> ?_) ?_
    ·rcases List.mem_append.1 he with he | he
     ·exact List.mem_append.2 (.inr (IH e he))
     ·exact List.mem_append.2 (.inl he)
    ·rw [eS]
     have e8:=mid.st.nodup
     rw [eS,AL] at e8
     obtain⟨J,ad,aC⟩:=List.nodup_append.1 e8
     refine List.nodup_append.2 ⟨Lj hs 0 fun j k u v av aX c4=> ?_,J,fun x an y a5 e=> ?_⟩
     ·simp only [Nat.zero_add] at c4
      exact ZQ j k (Jv j u av) (Jv k v aX) c4
     ·subst e
      obtain⟨e,he,uc⟩:=ln.1 an
      have:x∈aQ (fj br hs b dw):=ln.2 ⟨e,IH e he,uc⟩
      rw [AL] at this
      exact aC x a5 x this rfl
   have kZ:∀ k∈aQ (mf br hs (ec L hs) 0 hs) ++ c.bT,k∈aQ (ec L (hs.take b) ++ fj br hs b dw) ++ c.bT:=fun k ay=>by
    rw [xK,eS,PM] at ay
    rw [eS]
    simp only [List.mem_append] at ay ⊢
    rcases ay with(ay | ay) | ay
    ·obtain⟨e,he,uc⟩:=ln.1 ay
     exact .inl (.inr (ln.2 ⟨e,IH e he,uc⟩))
    ·exact .inl (.inl ay)
    ·exact .inr ay
   refine { Qc with env:=fun t τ e1=> ?_ }
   rcases L5 0 e1 with⟨j,J,h,ad,aC⟩ | J
   ·rw [Nat.zero_add] at aC
    obtain⟨v,aU,a1⟩:=mid.done j t h τ (p9 j h ad) (nO j (p9 j h ad)) J ad aC
    exact⟨v,aU,τ.mono (.drop kZ) a1⟩
   ·exact Qc.env t τ J
 | succ m bJ=>
   intro a4 br dw b a W hm inv mid
   by_cases kA:∀ i,i < n→a4.getD i true=true
   ·have bI:((List.range n).filter fun i=> !a4.getD i true).length≤m:=by
     have:((List.range n).filter fun i=> !a4.getD i true)= []:=List.filter_eq_nil_iff.2 fun i au=>by simp [kA i (List.mem_range.1 au)]
     rw [this]; simp
    have J:=bJ a4 br dw b a W bI inv mid
    have more:∀ f (a4:Array Bool) a W,wpAnyIn c.F 9 c.P .any ops Q f a4 a W→wpAnyIn c.F 9 c.P .any ops Q (f + 1) a4 a W:=by
     intro f
     induction f with
     | zero=>intro a4 a W h; exact⟨fun _=>h.2,fun i au=>by rw [h.1] at au; cases au⟩
     | succ f B2=>intro a4 a W h; exact⟨h.1,fun i au=>wpOpIn_mono (fun gw qs c0=>B2 _ gw qs c0) (h.2 i au)⟩
    rw [show m + 1 + (ops.size - n)=(m + (ops.size - n)) + 1 by omega]
    exact more _ _ _ _ J
   ·rw [show m + 1 + (ops.size - n)=(m + (ops.size - n)) + 1 by omega]
    have hex:∃ i,i < n∧a4.getD i true=false:=by
     have J: ¬ ∀ i,i < n→a4.getD i true=true:=kA
     false_or_by_contra
     rename_i ad
     exact J fun i au=>by
      cases h:a4.getD i true with
      | true=>rfl
      | false=>exact absurd ⟨i,au,h⟩ ad
    have AY:∀ t∈Region.ready .any ops a4,t < n:=by
     intro t qa
     rcases Nat.lt_or_ge t n with h | h
     ·exact h
     ·obtain⟨i,au,ir⟩:=hex
      rcases vJ with J | J
      ·obtain⟨_,o,bb,_⟩:=mem_ready.1 qa
       have:=(Array.getElem?_eq_some_iff.1 bb).1
       omega
      ·have PN:n < ops.size:=by
        obtain⟨_,o,bb,_⟩:=mem_ready.1 qa
        have:=(Array.getElem?_eq_some_iff.1 bb).1
        omega
       exact absurd qa (tail_waits J.1 J.2 PN inv _ i rfl au ir t h)
    refine⟨fun bI=> ?_,fun i au=> ?_⟩
    ·exfalso
     have Wk:∀ k,∀ i,i≤k→i < n→a4.getD i true=false→ ∃ i,i < n∧a4.getD i true=false∧ ∀ j,j < i→a4.getD j true=true:=by
      intro k
      induction k with
      | zero=>intro i lC au hu; exact⟨i,au,hu,fun j aH=>by omega⟩
      | succ k B3=>
        intro i lC au hu
        by_cases hq:∀ j,j < i→a4.getD j true=true
        ·exact⟨i,au,hu,hq⟩
        ·have:∃ j,j < i∧a4.getD j true=false:=by
          false_or_by_contra
          rename_i ad
          exact hq fun j aH=>by
           cases h:a4.getD j true with
           | true=>rfl
           | false=>exact absurd ⟨j,aH,h⟩ ad
         obtain⟨j,aH,aaD⟩:=this
         exact B3 j (by omega) (by omega) aaD
     obtain⟨i0,wx,aaE⟩:=hex
     obtain⟨i,au,hu,I9⟩:=Wk i0 i0 (Nat.le_refl _) wx aaE
     obtain⟨o,bb,_,AZ⟩:=su i au
     have:i∈Region.ready .any ops a4:=mem_ready.2 ⟨hu,o,bb,fun e he hb=>by
      have J:=I9 e.on (AZ e he hb)
      have ad:e.on < a4.size:=by rw [inv.size]; have:=AZ e he hb; omega
      simpa [ad] using J⟩
     rw [bI] at this
     cases this
    ·have eu:=AY i au
     obtain⟨o,bb,mK,AZ⟩:=su i eu
     obtain⟨ir,o',p8,nO⟩:=mem_ready.1 au
     have aaF:o'=o:=Option.some.inj (p8.symm.trans bb)
     subst aaF
     obtain⟨h,dr⟩:∃ h,hs[i]? =some h:=⟨hs[i]'(by omega),by simp⟩
     obtain⟨b2,eZ,jI⟩:=G5 (b3 br) i h dr
     have ZR:b2=o':=by
      rw [Array.getElem?_toList] at eZ
      exact Option.some.inj (eZ.symm.trans bb)
     subst ZR
     have pX:((List.range n).filter fun j=> !(a4.setIfInBounds i true).getD j true).length≤m:=by
      have:((List.range n).filter fun j=> !(a4.setIfInBounds i true).getD j true).length < ((List.range n).filter fun j=> !a4.getD j true).length:=by
       refine Er (fun j=> !a4.getD j true) (fun j=> !(a4.setIfInBounds i true).getD j true) i (by simp only [ir]; rfl) ?_ (fun j aH=> ?_) n eu
       ·have:i < a4.size:=by rw [inv.size]; omega
        simp [this]
       ·by_cases e:i=j
        ·subst e; simp only [ir]; rfl
        ·rw [getD_set_ne true e] at aH; exact aH
      omega
     have sf:=inv.set au eu
     have pY:i < a4.size:=by rw [inv.size]; omega
     have yj:(a4.setIfInBounds i true).getD i false=true:=by simp [pY]
     have jR:a4.getD i false=false:=getD_both ir
     have ZS:i ∉ dw:=fun hm=>by have:=((mid.news i).1 hm).2.1; rw [jR] at this; cases this
     have E2:∀ j∈se.getD i [],j < n∧a4.getD j false=true:=fun j aH=>by
      have aC:=List.all_eq_true.1 (List.all_eq_true.1 O0 i (List.mem_range.2 eu)) j aH
      simp only [Bool.and_eq_true,decide_eq_true_eq] at aC
      obtain⟨kL,hZ,e,he,hb,lD⟩:=Region.waitsFor_spec aC.2
      have:kL=b2:=Option.some.inj (hZ.symm.trans bb)
      subst this
      have aU:=nO e he hb
      rw [lD] at aU
      exact⟨aC.1,aU⟩
     have ki:bx c (he br et hs E (se.getD i [])) (ec L (hs.take b) ++ fj br hs b dw) a W:=by
      refine { mid.st with env:=fun t σ e1=> ?_ }
      rcases M6 e1 with⟨j,aH,J,x,ad,aC⟩ | J
      ·exact mid.done j t x σ (E2 j aH).1 (E2 j aH).2 J ad aC
      ·exact mid.st.env t σ J
     have M7:h.nW=true→b≤i∧ ∃ r,hs.take i=hs.take b ++ r∧ ∀ x∈r,x.nW=false:=fun PO=>by
      have Fu:b≤i:=by
       rcases Nat.lt_or_ge i b with J | J
       ·have:=(mid.stored i h dr PO).2 J
        rw [jR] at this; cases this
       ·exact J
      refine⟨Fu,UK Fu dr fun j x yD n8 an=> ?_⟩
      cases hE:x.nW with
      | false=>rfl
      | true=>
        have aC:=List.all_eq_true.1 ZP i (List.mem_range.2 eu)
        have av:(hs.map fg.nW).getD i false=true:=by simp [dr,PO]
        simp only [av,Bool.not_true,Bool.false_or] at aC
        have aU:=List.all_eq_true.1 aC j (List.mem_range.2 n8)
        have aX:(hs.map fg.nW).getD j false=true:=by simp [an,hE]
        simp only [aX,Bool.not_true,Bool.false_or] at aU
        obtain⟨kL,hZ,e,he,hb,lD⟩:=Region.waitsFor_spec aU
        have:kL=b2:=Option.some.inj (hZ.symm.trans bb)
        subst this
        have a1:=nO e he hb
        rw [lD] at a1
        have:=(mid.stored j x an hE).1 a1
        omega
     unfold wpOpIn
     simp only [bb]
     cases h with
     | val τ=>
       simp only at jI
       have aaG:=jI (ec L (hs.take b) ++ fj br hs b dw) (fun j e aH hu=>by
        have J:(ec L (hs.take b))[j]? =some e:=by
         rw [Aq b 0 hu (fun q hq ⟨QL,cp',an⟩=>by
          have Fv:=(mid.stored q _ an rfl).2 hq
          cases hw:Region.waitsFor .any ops (0 + q) (0 + i) with
          | false=>rfl
          | true=>
            obtain⟨Jw,E3,e',Fw,wy,PQ⟩:=Region.waitsFor_spec hw
            rw [Nat.zero_add] at E3 PQ
            have:=inv.closed q Jw E3 Fv e' Fw wy
            rw [PQ,jR] at this
            cases this)]
         exact aH
        rw [List.getElem?_append_left (List.getElem?_eq_some_iff.1 J).1]; exact J)
       obtain⟨J,ad⟩:=aaG a W ki
       have O1:∀ v W',Fr [] W W'→τ.holds (aQ (ec L (hs.take b) ++ fj br hs b dw) ++ c.bT) W' v→yJ c n et hs E L (a4.setIfInBounds i true) br dw b (a.put b2.dst v) W':=by
        intro v W' f a0
        have kF:=mid.st.world f
        refine⟨?_,fun j b6 x σ aH ao e0 an lY=> ?_,fun j=> ?_,fun j x an hE=> ?_,mid.ble⟩
        ·cases hd:b2.dst with
         | none=>exact kF
         | some s=>
           rw [hd] at mK
           refine { (kF.put (d:=s) (E1 i s mK) a0) with env:=fun t σ e1=> ?_ }
           have c6:s≠t:=fun e=>G4 aB t σ e1 (by rw [← e]; exact List.mem_filterMap.2 ⟨some s,List.mem_of_getElem? mK,rfl⟩)
           obtain⟨u,a1,bk⟩:=kF.env t σ e1
           exact⟨u,by simp only [Act.put]; rw [Array.getElem?_setIfInBounds_ne c6]; exact a1,bk⟩
        ·by_cases e:i=j
         ·subst e
          rw [mK] at e0
          rw [dr] at an
          cases an
          simp only [fg.rn,Option.some.injEq] at lY
          subst lY
          simp only [Option.some.injEq] at e0
          rw [e0]
          exact⟨v,by rw [e0] at mK; simp [Act.put,kF.size,E1 i b6 mK],a0⟩
         ·rw [getD_set_ne false e] at ao
          obtain⟨u,a1,bk⟩:=mid.done j b6 x σ aH ao e0 an lY
          refine⟨u,?_,σ.mono (.dG f) bk⟩
          cases hd:b2.dst with
          | none=>exact a1
          | some s=>
            rw [hd] at mK
            have c6:s≠b6:=fun aX=>e (PL i j s mK (by rw [aX]; exact e0))
            simp only [Act.put]; rw [Array.getElem?_setIfInBounds_ne c6]; exact a1
        ·rw [mid.news j]
         by_cases e:i=j
         ·subst e
          constructor
          ·rintro ⟨_,a1,_⟩; rw [jR] at a1; cases a1
          ·rintro ⟨_,_,cp,a1⟩; rw [dr] at a1; cases a1
         ·rw [getD_set_ne false e]
        ·have e:i≠j:=fun e=>by subst e; rw [dr] at an; cases an; cases hE
         rw [getD_set_ne false e]
         exact mid.stored j x an hE
       split
       ·rename_i hw
        exact(J hw).wpIn fun v W' ⟨f,a0⟩=>bJ _ br dw b _ _ pX sf (O1 v W' f a0)
       ·rename_i hw
        have Fx:Region.wanted b2 (yielded ops a.tmps)=false:=by simpa using hw
        exact⟨fun _ _=>trivial,bJ _ br dw b _ _ pX sf (O1 undef W (.refl _ _) (ad Fx))⟩
     | new cp=>
       simp only at jI
       obtain⟨B4,j0,eG,h5⟩:=jI
       have Ye:∀ q x,fg.mS q x∈hs.take b→q≠i:=fun q x hm e=>by
        subst e
        obtain⟨j,aH⟩:=List.mem_iff_getElem?.1 hm
        rw [List.getElem?_take] at aH
        split at aH
        ·rename_i aaH
         have B5:=(mid.stored j _ aH rfl).2 aaH
         have p9:j < n:=by have:=(List.getElem?_eq_some_iff.1 aH).1; omega
         obtain⟨kL,hZ,Qd⟩:=G5 (b3 br) j _ aH
         simp only at Qd
         have aC:=List.all_eq_true.1 (List.all_eq_true.1 O0 j (List.mem_range.2 p9)) q (by simpa using Qd.1)
         simp only [Bool.and_eq_true,decide_eq_true_eq] at aC
         obtain⟨Jw,E3,e,he,hb,lD⟩:=Region.waitsFor_spec aC.2
         have:=inv.closed j Jw E3 B5 e he hb
         rw [lD,jR] at this
         cases this
        ·cases aH
       have E4:iy i cp (hs.take b)=cp:=Ak Ye
       let nu:Nat→Nat:=fun j=>if j=i then W.heap.size else br j
       have aaI:∀ j,j∈dw→nu j=br j:=fun j aH=>if_neg (fun e=>ZS (by rw [← e]; exact aH))
       have Jx:nu i=W.heap.size:=if_pos rfl
       have q9:ec L (hs.take b) ++ fj nu hs b (i :: dw)=ec L (hs.take b) ++ (⟨some W.heap.size,cp⟩ :: fj br hs b dw):=by
        have:fj nu hs b (i :: dw)=⟨some W.heap.size,cp⟩ :: fj nu hs b dw:=by simp only [fj,List.map_cons,dr,Jx,E4]
        rw [this,Vq aaI]
       have BD:yJ c n et hs E L (a4.setIfInBounds i true) nu (i :: dw) b (a.put b2.dst (.pointer (some ⟨W.heap.size,0,none⟩))) (W.alloc j0):=by
        have kF:bx c E (ec L (hs.take b) ++ fj nu hs b (i :: dw)) a (W.alloc j0):=by
         rw [q9]
         exact(mid.st.alloc (eG _ _)).perm List.perm_middle.symm
        have hg:Ext (aQ (ec L (hs.take b) ++ fj br hs b dw) ++ c.bT) W (aQ (ec L (hs.take b) ++ fj nu hs b (i :: dw)) ++ c.bT) (W.alloc j0):=by
         refine⟨by simp,fun k ay _=>AX W j0 k ay,fun k ay b5=> ?_⟩
         rw [q9] at ay
         simp only [eS,aQ,List.mem_append,List.mem_cons] at ay ⊢
         rcases ay with(h | h | h) | h
         ·exact .inl (.inl h)
         ·omega
         ·exact .inl (.inr h)
         ·exact .inr h
        refine⟨?_,fun j b6 x σ aH ao e0 an lY=> ?_,fun j=> ?_,fun j x an hE=> ?_,mid.ble⟩
        ·cases hd:b2.dst with
         | none=>exact kF
         | some s=>
           rw [hd] at mK
           refine { (kF.put (d:=s) (τ:= .any) (E1 i s mK) trivial) with env:=fun t σ e1=> ?_ }
           have c6:s≠t:=fun e=>G4 aB t σ e1 (by rw [← e]; exact List.mem_filterMap.2 ⟨some s,List.mem_of_getElem? mK,rfl⟩)
           obtain⟨u,a1,bk⟩:=kF.env t σ e1
           exact⟨u,by simp only [Act.put]; rw [Array.getElem?_setIfInBounds_ne c6]; exact a1,bk⟩
        ·by_cases e:i=j
         ·subst e
          rw [mK] at e0
          rw [dr] at an
          cases an
          simp only [fg.rn,Option.some.injEq] at lY
          subst lY
          simp only [Option.some.injEq] at e0
          rw [e0]
          exact⟨.pointer (some ⟨W.heap.size,0,none⟩),by rw [e0] at mK; simp [Act.put,kF.size,E1 i b6 mK],by rw [Jx]; rfl⟩
         ·rw [getD_set_ne false e] at ao
          have aaJ:nu j=br j:=if_neg (fun e'=>e e'.symm)
          rw [aaJ] at lY
          obtain⟨u,a1,bk⟩:=mid.done j b6 x σ aH ao e0 an lY
          refine⟨u,?_,σ.mono hg bk⟩
          cases hd:b2.dst with
          | none=>exact a1
          | some s=>
            rw [hd] at mK
            have c6:s≠b6:=fun aX=>e (PL i j s mK (by rw [aX]; exact e0))
            simp only [Act.put]; rw [Array.getElem?_setIfInBounds_ne c6]; exact a1
        ·rw [List.mem_cons,mid.news j]
         by_cases e:i=j
         ·subst e
          exact⟨fun _=>⟨eu,yj,cp,dr⟩,fun _=> .inl rfl⟩
         ·rw [getD_set_ne false e]
          exact⟨fun h=>h.resolve_left (fun e'=>e e'.symm),.inr⟩
        ·have e:i≠j:=fun e=>by subst e; rw [dr] at an; cases an; cases hE
         rw [getD_set_ne false e]
         exact mid.stored j x an hE
       rw [if_pos (by simp [Region.wanted,B4])]
       refine SK (h5 a W) ?_
       exact bJ _ nu (i :: dw) b _ _ pX sf BD
     | k0 q cp=>
       simp only at jI
       obtain⟨Fu,r,wz,oM⟩:=M7 rfl
       have Qe:ec L (hs.take i)=ec L (hs.take b):=by rw [wz,HD,DP oM]
       rw [Nat.zero_add,Qe] at jI
       obtain⟨p,nt,hq,ud⟩:=jI
       have iA:(ec L (hs.take b) ++ fj br hs b dw)[q]? =some ⟨some p,nt⟩:=by
        rw [List.getElem?_append_left (List.getElem?_eq_some_iff.1 hq).1]; exact hq
       obtain⟨B4,BE,ud⟩:=ud (ec L (hs.take b) ++ fj br hs b dw) (fun j e aH=>by
        rw [List.getElem?_append_left (List.getElem?_eq_some_iff.1 aH).1]; exact aH)
       obtain⟨cs,dS,T,J,ad,aC⟩:=ud a W ki
       have B1:=mid.st.store iA J aC
       have yv:hs.take (i + 1)=hs.take i ++ [.k0 q cp]:=by rw [List.take_add_one,dr]; rfl
       have wA:ec L (hs.take (i + 1))=(ec L (hs.take b)).set q ⟨some p,cp⟩:=by
        rw [yv,LN,Qe]
        simp only [ec]
        exact T6 hq
       have Jy:fj br hs (i + 1) dw=fj br hs b dw:=by
        unfold fj
        refine List.map_congr_left fun j _=> ?_
        congr 1
        split
        ·rw [yv,GR,wz,Hf,DJ oM]; rfl
        ·rfl
       have B6:ec L (hs.take (i + 1)) ++ fj br hs (i + 1) dw=(ec L (hs.take b) ++ fj br hs b dw).set q ⟨some p,cp⟩:=by
        rw [wA,Jy,List.set_append_left _ _ (List.getElem?_eq_some_iff.1 hq).1]
       have jE:aQ (ec L (hs.take (i + 1)) ++ fj br hs (i + 1) dw)=aQ (ec L (hs.take b) ++ fj br hs b dw):=by rw [B6]; exact x2 (cp:=cp) iA
       have lZ:p∈aQ (ec L (hs.take b) ++ fj br hs b dw):=ln.2 ⟨_,List.mem_of_getElem? iA,rfl⟩
       have hg:Ext (aQ (ec L (hs.take b) ++ fj br hs b dw) ++ c.bT) W (aQ (ec L (hs.take b) ++ fj br hs b dw) ++ c.bT) (W.setRow p dS):=
        ⟨by simp,fun k _ bj=>setRow_other W p k dS (fun e=>bj (e ▸ List.mem_append.2 (.inl lZ))),fun _ h _=>h⟩
       have BD:yJ c n et hs E L (a4.setIfInBounds i true) br dw (i + 1) (a.put b2.dst undef) (W.setRow p dS):=by
        rw [BE]
        refine⟨by rw [B6]; exact B1,fun j b6 x σ aH ao e0 an lY=> ?_,fun j=> ?_,fun j x an hE=> ?_,eu⟩
        ·rw [jE]
         by_cases e:i=j
         ·subst e; rw [dr] at an; cases an; cases lY
         ·rw [getD_set_ne false e] at ao
          obtain⟨u,a1,bk⟩:=mid.done j b6 x σ aH ao e0 an lY
          exact⟨u,a1,σ.mono hg bk⟩
        ·rw [mid.news j]
         by_cases e:i=j
         ·subst e
          constructor
          ·rintro ⟨_,a1,_⟩; rw [jR] at a1; cases a1
          ·rintro ⟨_,_,cp,a1⟩; rw [dr] at a1; cases a1
         ·rw [getD_set_ne false e]
        ·by_cases e:i=j
         ·subst e; exact⟨fun _=>by omega,fun _=>yj⟩
         ·rw [getD_set_ne false e,mid.stored j x an hE]
          constructor
          ·intro _; omega
          ·intro aH
           rcases Nat.lt_or_ge j b with a1 | a1
           ·exact a1
           ·have:x∈r:=by
             have bk:(hs.take i)[j]? =some x:=by rw [List.getElem?_take,if_pos (by omega)]; exact an
             rw [wz,List.getElem?_append_right (by rw [List.length_take]; omega)] at bk
             exact List.mem_of_getElem? bk
            have:=oM x this
            rw [hE] at this; cases this
       rw [if_pos (by simp [Region.wanted,B4])]
       refine Lw ad ?_
       exact bJ _ br dw (i + 1) _ _ pX sf BD
     | mS q cp=>
       simp only at jI
       obtain⟨Fu,r,wz,oM⟩:=M7 rfl
       obtain⟨PR,nt,sv,ud⟩:=jI
       rw [Nat.zero_add] at ud
       have E4:∀ (j:Nat) x,iy j x (hs.take i)=iy j x (hs.take b):=fun j x=>by rw [wz,Hf,DJ oM]
       have ZT:q∈dw:=(mid.news q).2 ⟨(E2 q (by simpa using PR)).1,(E2 q (by simpa using PR)).2,nt,sv⟩
       obtain⟨k,ay⟩:=List.mem_iff_getElem?.1 ZT
       have tP:(fj br hs b dw)[k]? =some ⟨some (br q),iy q nt (hs.take i)⟩:=by
        simp only [fj,List.getElem?_map,ay,Option.map_some,sv,E4]
       have iA:(ec L (hs.take b) ++ fj br hs b dw)[(ec L (hs.take b)).length + k]? =some ⟨some (br q),iy q nt (hs.take i)⟩:=by
        rw [List.getElem?_append_right (by omega),Nat.add_sub_cancel_left]; exact tP
       obtain⟨B4,BE,ud⟩:=ud (ec L (hs.take b) ++ fj br hs b dw) _ iA
       obtain⟨cs,dS,T,J,ad,aC⟩:=ud a W ki
       have B1:=mid.st.store iA J aC
       have yv:hs.take (i + 1)=hs.take i ++ [.mS q cp]:=by rw [List.take_add_one,dr]; rfl
       have wA:ec L (hs.take (i + 1))=ec L (hs.take b):=by
        rw [yv,LN]
        simp only [ec]
        rw [wz,HD,DP oM]
       have IG:dw.Nodup:=by
        have:=mid.st.nodup
        rw [eS,AL] at this
        exact Lz br dw (List.nodup_append.1 this).2.1
       have Jy:fj br hs (i + 1) dw=(fj br hs b dw).set k ⟨some (br q),cp⟩:=by
        apply List.ext_getElem?
        intro j
        rw [List.getElem?_set]
        by_cases e:k=j
        ·subst e
         have B7:k < (fj br hs b dw).length:=(List.getElem?_eq_some_iff.1 tP).1
         rw [if_pos rfl,if_pos B7]
         simp only [fj,List.getElem?_map,ay,Option.map_some,sv]
         rw [yv,GR]
         simp [iy]
        ·rw [if_neg e]
         simp only [fj,List.getElem?_map]
         cases aH:dw[j]? with
         | none=>rfl
         | some x=>
           have aaK:x≠q:=fun aX=>by
            subst aX
            obtain⟨c2,dc⟩:=List.getElem?_eq_some_iff.1 aH
            obtain⟨dJ,ev⟩:=List.getElem?_eq_some_iff.1 ay
            exact e ((List.getElem_inj IG).1 (ev.trans dc.symm))
           simp only [Option.map_some]
           congr 2
           split
           ·rw [yv,GR,E4]
            have:Nat.beq q x=false:=by
             cases hb:Nat.beq q x with
             | false=>rfl
             | true=>exact absurd (eh.1 hb).symm aaK
            simp [iy,this]
           ·rfl
       have B6:ec L (hs.take (i + 1)) ++ fj br hs (i + 1) dw=(ec L (hs.take b) ++ fj br hs b dw).set ((ec L (hs.take b)).length + k) ⟨some (br q),cp⟩:=by
        rw [wA,Jy,List.set_append_right _ _ (by omega),Nat.add_sub_cancel_left]
       have jE:aQ (ec L (hs.take (i + 1)) ++ fj br hs (i + 1) dw)=aQ (ec L (hs.take b) ++ fj br hs b dw):=by rw [B6]; exact x2 (cp:=cp) iA
       have lZ:br q∈aQ (ec L (hs.take b) ++ fj br hs b dw):=ln.2 ⟨_,List.mem_of_getElem? iA,rfl⟩
       have hg:Ext (aQ (ec L (hs.take b) ++ fj br hs b dw) ++ c.bT) W (aQ (ec L (hs.take b) ++ fj br hs b dw) ++ c.bT) (W.setRow (br q) dS):=
        ⟨by simp,fun k _ bj=>setRow_other W (br q) k dS (fun e=>bj (e ▸ List.mem_append.2 (.inl lZ))),fun _ h _=>h⟩
       have BD:yJ c n et hs E L (a4.setIfInBounds i true) br dw (i + 1) (a.put b2.dst undef) (W.setRow (br q) dS):=by
        rw [BE]
        refine⟨by rw [B6]; exact B1,fun j b6 x σ aH ao e0 an lY=> ?_,fun j=> ?_,fun j x an hE=> ?_,eu⟩
        ·rw [jE]
         by_cases e:i=j
         ·subst e; rw [dr] at an; cases an; cases lY
         ·rw [getD_set_ne false e] at ao
          obtain⟨u,a1,bk⟩:=mid.done j b6 x σ aH ao e0 an lY
          exact⟨u,a1,σ.mono hg bk⟩
        ·rw [mid.news j]
         by_cases e:i=j
         ·subst e
          constructor
          ·rintro ⟨_,a1,_⟩; rw [jR] at a1; cases a1
          ·rintro ⟨_,_,cp,a1⟩; rw [dr] at a1; cases a1
         ·rw [getD_set_ne false e]
        ·by_cases e:i=j
         ·subst e; exact⟨fun _=>by omega,fun _=>yj⟩
         ·rw [getD_set_ne false e,mid.stored j x an hE]
          constructor
          ·intro _; omega
          ·intro aH
           rcases Nat.lt_or_ge j b with a1 | a1
           ·exact a1
           ·have:x∈r:=by
             have bk:(hs.take i)[j]? =some x:=by rw [List.getElem?_take,if_pos (by omega)]; exact an
             rw [wz,List.getElem?_append_right (by rw [List.length_take]; omega)] at bk
             exact List.mem_of_getElem? bk
            have:=oM x this
            rw [hE] at this; cases this
       rw [if_pos (by simp [Region.wanted,B4])]
       refine Lw ad ?_
       exact bJ _ br dw (i + 1) _ _ pX sf BD
theorem ag.draw {oN:Nat} {l:List Oper} (hm:c.P.follows .mixedOrders=true) (n:Nat) (et:List (Option Nat)) (se:List (List Nat)) (hs:List fg) (B0:List Bool) (hr:EO l.toArray n et se B0 c.n=true) (wX:hs.map fg.nW=B0) (aB:BC E (et.filterMap id)=true)
 (hlen:Nat.beq hs.length n=true) (b3:∀ br,qY c l.toArray br et hs E L 0 l hs se)
 (bL:∀ br:Nat→Nat,ah c l.toArray Q (l.drop n) (tO br E 0 et hs) (mf br hs (ec L hs) 0 hs)):ag c Q (.region oN l.toArray true) E L:=fun a W s=>by
 subst wX
 refine wpIn_region_any hm ?_
 have aO:n≤l.toArray.size:=by
  simp only [EO,Bool.and_eq_true,decide_eq_true_eq] at hr
  exact hr.1.1.1.1.1.1.1.2
 have BF:HeadInv .any l.toArray n (Array.replicate l.toArray.size false):=
  {size:=by simp
   closed:=fun j kL _ ao=>by rw [getD_replicate_false] at ao; cases ao
   tail:=fun t _ bL=>by simp at bL; simp [bL] }
 have ZU:yJ c n et hs E L (Array.replicate l.toArray.size false) (fun _=>0) [] 0 a W.drew:=
  {st:=by simpa [ec,fj] using s.world (Fr.drew W)
   done:=fun j s h τ _ ao=>by rw [getD_replicate_false] at ao; cases ao
   news:=fun j=>by
    constructor
    ·intro h; cases h
    ·rintro ⟨_,h,_⟩; rw [getD_replicate_false] at h; cases h
   stored:=fun j h _ _=>by
    rw [getD_replicate_false]
    constructor
    ·intro h; cases h
    ·intro h; omega
   ble:=Nat.zero_le _ }
 have h:=T7 (ops:=l.toArray) (Q:=Q) hr aB (eh.1 hlen) (by simpa using b3) (by simpa using bL) n (Array.replicate l.toArray.size false) (fun _=>0) [] 0 a W.drew
  (Nat.le_trans (List.length_filter_le _ _) (by simp)) BF ZU
 rw [show n + (l.toArray.size - n)=l.toArray.size by omega] at h
 exact h
end
structure bw (P:Program) (t:TypeId) (α:Type) [ai α]:Prop where
 size:(P.info? t).map (·.size)=some (ai.size α)
 Qf:∃ d,P.underlying t=some d∧ (match d with | .struct _ | .array _ _=>true | _=>false)=ai.agg α
structure cF (P:Program) (t:TypeId) {α:Type} [ai α] (x:α):Prop where
 zero:∃ i z,P.info? t=some i∧i.zero=some z∧ ∀ A W,(I.of x).holds A W z
theorem bw.info {P t α} [ai α] (h:bw P t α):∃ i,P.info? t=some i∧i.size=ai.size α:=by
 have:=h.size
 cases au:P.info? t with
 | none=>simp [au] at this
 | some i=>exact⟨i,rfl,by simpa [au] using this⟩
theorem bw.isAgg {P t α} [ai α] (h:bw P t α) (W:World):(isAgg t).run P W= .ok (ai.agg α) W:=by
 obtain⟨d,hd,he⟩:=h.Qf
 unfold Go.isAgg
 rw [Sem.run_bind,run_underlying hd W]
 simp only [Result.andThen_ok]
 cases d <;> simp_all
theorem bw.sizeOf {P t α} [ai α] (h:bw P t α) (W:World):(Go.sizeOf t).run P W= .ok (ai.size α) W:=by
 obtain⟨i,au,hs⟩:=h.info
 simp [Go.sizeOf,typeInfo,au,hs]
theorem jb (b off j:Nat):(⟨b,off,none⟩:Addr).add j=⟨b,off + j,none⟩:=by unfold Addr.add; split <;> simp_all
theorem uK {P:Program} {W:World} {b off:Nat} {cur:Array Value} {T t:TypeId} {gX:Nat × Nat} {α:Type} [ai α] {A:List Nat} {x:α} (ty:bw P t α)
 (hb:W.heap[b]? =some (.cells cur T gX)) (hs:off + ai.size α≤cur.size) (aR:ai.rep A W ((cur.toList.drop off).take (ai.size α)) x):
 ∃ v,(loadVar t ⟨b,off,none⟩).run P W= .ok v W∧ (I.of x).holds A W v:=by
 have ao:=ai.len aR
 have r5:∀ j v,((cur.toList.drop off).take (ai.size α))[j]? =some v→W.cell? ((⟨b,off,none⟩:Addr).add j)=some v:=by
  intro j v a0
  rw [jb,cell_of_row W b (off + j) cur T gX hb]
  rw [List.getElem?_take] at a0
  split at a0
  ·rw [List.getElem?_drop] at a0; simpa using a0
  ·cases a0
 cases bj:ai.agg α with
 | true=>
   have J:=run_loadCells_list (P:=P) W ⟨b,off,none⟩ _ r5
   rw [ao] at J
   refine⟨.agg ((cur.toList.drop off).take (ai.size α)).toArray,?_,?_,?_⟩
   ·simp [loadVar,Sem.run_bind,ty.isAgg,ty.sizeOf,bj,J]
   ·simp [shaped,bj]
   ·simpa [Value.cells] using aR
 | false=>
   have J:ai.size α=1:=ai.flat bj
   rw [J] at ao
   obtain⟨v,a0⟩:=List.length_eq_one_iff.1 ao
   have ad:=r5 0 v (by rw [J,a0]; rfl)
   have aC:v.oneCell'=true:=ai.one aR v (by rw [J,a0]; simp)
   refine⟨v,?_,?_,?_⟩
   ·rw [jb,Nat.add_zero] at ad
    simp [loadVar,Sem.run_bind,ty.isAgg,bj,ad]
   ·simp [shaped,bj,aC]
   ·rw [ot aC]
    rw [J,a0] at aR
    simpa using aR
def fW (cur:List Value) (off:Nat) (ds:List Value):List Value:=cur.take off ++ ds ++ cur.drop (off + ds.length)
theorem UL {A W v} {α:Type} [ai α] {x:α} (h:(I.of x).holds A W v):v.cells.toList.length=ai.size α∧ ∀ u∈v.cells.toList,u.oneCell'=true:=⟨ai.len h.2,ai.one h.2⟩
theorem z2 {P:Program} {W:World} {b off:Nat} {cur:Array Value} {T t:TypeId} {α:Type} [ai α] {A:List Nat} {x:α} {v:Value} (ty:bw P t α)
 (hb:W.heap[b]? =some (.cells cur T (0,0))) (hs:off + ai.size α≤cur.size) (a0:(I.of x).holds A W v):
 (storeVar t ⟨b,off,none⟩ v).run P W= .ok () (W.setRow b (fW cur.toList off v.cells.toList).toArray):=by
 obtain⟨ao,J⟩:=UL a0
 have ad:=run_storeCells_at P b off T v.cells.toList 0 cur W hb (by rw [ao]; omega) J
 have eE:v.cells.size=ai.size α:=by simpa using ao
 simp only [Nat.add_zero] at ad
 simp only [storeVar,Sem.run_bind,ty.sizeOf,Result.andThen_ok,eE]
 simp only [ne_eq,not_true_eq_false,↓reduceIte,Sem.run_pure,Sem.run_bind,Result.andThen_ok]
 simpa [fW] using ad
structure aN (β γ:Type) [ai β] [ai γ] where
 off:Nat
 get:β→γ
 set:β→γ→β
 gv:off + ai.size γ≤ai.size β
 iv:∀ {A W cs b},ai.rep A W cs b→ai.rep A W ((cs.drop off).take (ai.size γ)) (get b)
 lj:∀ {A W cs b ds g},ai.rep A W cs b→ai.rep A W ds g→ai.rep A W (cs.take off ++ ds ++ cs.drop (off + ai.size γ)) (set b g)
def aN.id (β:Type) [ai β]:aN β β where
 off:=0
 get b:=b
 set _ g:=g
 gv:=by simp
 iv h:=by
  have:=ai.len h
  rw [List.drop_zero,← this,List.take_length]; exact h
 lj h bs:=by
  have J:=ai.len h
  rw [List.take_zero,List.nil_append,Nat.zero_add,← J,List.drop_length,List.append_nil]; exact bs
theorem uO (cs:List Value) (ca s1 b2 s2:Nat) (h:b2 + s2≤s1):(((cs.drop ca).take s1).drop b2).take s2=(cs.drop (ca + b2)).take s2:=by
 apply List.ext_getElem?
 intro i
 simp only [List.getElem?_take,List.getElem?_drop]
 split
 ·rw [if_pos (by omega)]; congr 1; omega
 ·rfl
theorem L6 (cs ds:List Value) (ca s1 b2 s2:Nat) (h:b2 + s2≤s1) (ak:ca + s1≤cs.length):
 cs.take ca ++ (((cs.drop ca).take s1).take b2 ++ ds ++ ((cs.drop ca).take s1).drop (b2 + s2)) ++ cs.drop (ca + s1)=cs.take (ca + b2) ++ ds ++ cs.drop (ca + b2 + s2):=by
 have av:cs.take (ca + b2)=cs.take ca ++ ((cs.drop ca).take s1).take b2:=by
  rw [List.take_take,Nat.min_eq_left (by omega),List.take_add]
 have aX:cs.drop (ca + b2 + s2)=((cs.drop ca).take s1).drop (b2 + s2) ++ cs.drop (ca + s1):=by
  apply List.ext_getElem?
  intro i
  simp only [List.getElem?_append,List.getElem?_drop,List.getElem?_take,List.length_drop,List.length_take]
  split
  ·rw [if_pos (by omega)]; congr 1; omega
  ·congr 1; omega
 rw [av,aX]
 simp only [List.append_assoc]
def aN.comp {α β γ:Type} [ai α] [ai β] [ai γ] (l:aN α β) (m:aN β γ):aN α γ where
 off:=l.off + m.off
 get b:=m.get (l.get b)
 set b g:=l.set b (m.set (l.get b) g)
 gv:=by have:=l.gv; have:=m.gv; omega
 iv h:=by
  have:=m.iv (l.iv h)
  rwa [uO _ _ _ _ _ m.gv] at this
 lj h bs:=by
  have J:=l.lj h (m.lj (l.iv h) bs)
  have ad:=ai.len h
  have aC:=l.gv
  rwa [L6 _ _ _ _ _ _ m.gv (by omega)] at J
def bD {α:Type} [Inhabited α] {n:Nat} (v:Vector α n) (k:Nat):α:=v[k]?.getD default
def fP {α:Type} {n:Nat} (v:Vector α n) (k:Nat) (x:α):Vector α n:=v.setIfInBounds k x
instance {α:Type} [Inhabited α] {n:Nat} :Inhabited (Vector α n):=⟨Vector.replicate n default⟩
instance aci {α:Type} [ai α] [Inhabited α] {n:Nat} :ai (Vector α n) where
 size:=n * ai.size α
 agg:=true
 rep A W cs v:=gC A W cs v.toList
 len h:=by rw [h.1]; simp
 one h:=by
  intro u hu
  obtain⟨j,aH⟩:=List.mem_iff_getElem?.1 hu
  have b5:=(List.getElem?_eq_some_iff.1 aH).1
  have J:=h.1
  by_cases hs:ai.size α=0
  ·rw [hs,Nat.mul_zero] at J; omega
  ·have hp:0 < ai.size α:=Nat.pos_of_ne_zero hs
   have au:j / ai.size α < _:=(Nat.div_lt_iff_lt_mul hp).2 (by rw [J] at b5; exact b5)
   refine ai.one (h.2 _ au) u (List.mem_iff_getElem?.2 ⟨j % ai.size α,?_⟩)
   rw [List.getElem?_take,if_pos (Nat.mod_lt _ hp),List.getElem?_drop,Nat.mul_comm,Nat.div_add_mod]
   exact aH
 flat h:=by cases h
 mono e h:=h.mono e
theorem S9 {α:Type} [Inhabited α] {n:Nat} (v:Vector α n) {k:Nat} (h:k < n):bD v k=v.toList[k]'(by simpa using h):=by simp [bD,h]
theorem Hg {α:Type} [ai α] {A W} {cs ds:List Value} {xs:List α} {x:α} {k:Nat} (h:gC A W cs xs) (ay:k < xs.length) (hd:ai.rep A W ds x):
 gC A W (cs.take (k * ai.size α) ++ ds ++ cs.drop (k * ai.size α + ai.size α)) (xs.set k x):=by
 have ao:=h.1
 have acG:=ai.len hd
 have hle:(k + 1) * ai.size α≤xs.length * ai.size α:=Nat.mul_le_mul_right _ ay
 rw [Nat.succ_mul] at hle
 refine⟨by simp only [List.length_append,List.length_take,List.length_drop,List.length_set]; omega,fun i au=> ?_⟩
 rw [List.length_set] at au
 by_cases e:k=i
 ·subst e
  have:((cs.take (k * ai.size α) ++ ds ++ cs.drop (k * ai.size α + ai.size α)).drop (k * ai.size α)).take (ai.size α)=ds:=by
   rw [List.append_assoc,List.drop_append_of_le_length (by simp only [List.length_take]; omega),List.drop_of_length_le (by simp only [List.length_take]; omega),List.nil_append,
    List.take_append_of_le_length (by omega),List.take_of_length_le (by omega)]
  rw [this]
  simpa using hd
 ·have J:=h.2 i au
  have:((cs.take (k * ai.size α) ++ ds ++ cs.drop (k * ai.size α + ai.size α)).drop (i * ai.size α)).take (ai.size α)=(cs.drop (i * ai.size α)).take (ai.size α):=by
   apply List.ext_getElem?
   intro j
   simp only [List.getElem?_take,List.getElem?_drop]
   split
   ·rename_i aH
    simp only [List.getElem?_append,List.length_append,List.length_take,List.getElem?_take,List.getElem?_drop]
    rcases Nat.lt_or_gt_of_ne e with ad | ad
    ·have:(k + 1) * ai.size α≤i * ai.size α:=Nat.mul_le_mul_right _ ad
     rw [Nat.succ_mul] at this
     rw [if_neg (by omega)]; congr 1; omega
    ·have:(i + 1) * ai.size α≤k * ai.size α:=Nat.mul_le_mul_right _ ad
     rw [Nat.succ_mul] at this
     rw [if_pos (by omega),if_pos (by omega),if_pos (by omega)]
   ·rfl
  rw [this]
  simpa [List.getElem_set_ne e] using J
def aN.idx {α:Type} [ai α] [Inhabited α] (n k:Nat) (ay:k < n):aN (Vector α n) α where
 off:=k * ai.size α
 get v:=bD v k
 set v x:=fP v k x
 gv:=by
  show k * ai.size α + ai.size α≤n * ai.size α
  rw [← Nat.succ_mul]; exact Nat.mul_le_mul_right _ ay
 iv h:=by
  rename_i b
  rw [S9 b ay]
  exact h.2 k (by simpa using ay)
 lj h hd:=by
  rename_i b ds g
  have:=Hg h (k:=k) (by simpa using ay) hd
  show gC _ _ _ (fP b k g).toList
  rw [show(fP b k g).toList=b.toList.set k g by simp [fP]]
  exact this
def idx (n:Nat) (i:Int):Option Nat:=if 0≤i∧i < n then some i.toNat else none
theorem cL {n:Nat} {i:Int} {k:Nat} (h:idx n i=some k):k < n∧i=k:=by
 unfold idx at h
 split at h
 ·rename_i au
  simp only [Option.some.injEq] at h
  omega
 ·cases h
section
variable {c:dd} {E:List (Nat × I)} {L:List aM} {ops:Array Oper} {Q:Exit→Act→World→Prop}
variable {d:Option Tmp} {ty:TypeId} {pos:String} {af:Array Edge} {g:Option (Nat × Bool)}
theorem cM {x:Operand} {τ:I} (h:a9 c E L x τ):bS c E L ⟨d,.move x,ty,pos,af,g⟩ τ:= .pure fun a W s=>⟨_,rfl,h a W s⟩
theorem eB {x:Operand} {τ:I} (h:a9 c E L x τ):bS c E L ⟨d,.assign x,ty,pos,af,g⟩ τ:= .pure fun a W s=>⟨_,rfl,h a W s⟩
theorem vT {x y:Operand} {b e:Bool} {p:Prop} (an:a9 c E L x (.of b)) (a5:a9 c E L y (.cond p (.of e))) (hp:b=false→p):
 bS c E L ⟨d,.pick x (.const (.bool true)) y,ty,pos,af,g⟩ (.of (b || e)):= .pure fun a W s=>by
 have J:=of_bool.1 (an a W s)
 cases b with
 | true=>exact⟨.bool true,by simp only [execOp,J,asBool]; rfl,of_bool.2 rfl⟩
 | false=>
   have ad:=of_bool.1 ((a5 a W s).1 (hp rfl))
   exact⟨.bool e,by simp [execOp,asBool,J,ad],of_bool.2 rfl⟩
theorem pc {x y:Operand} {b e:Bool} {p:Prop} (an:a9 c E L x (.of b)) (a5:a9 c E L y (.cond p (.of e))) (hp:b=true→p):
 bS c E L ⟨d,.pick x y (.const (.bool false)),ty,pos,af,g⟩ (.of (b && e)):= .pure fun a W s=>by
 have J:=of_bool.1 (an a W s)
 cases b with
 | false=>exact⟨.bool false,by simp only [execOp,J,asBool]; rfl,of_bool.2 rfl⟩
 | true=>
   have ad:=of_bool.1 ((a5 a W s).1 (hp rfl))
   exact⟨.bool e,by simp [execOp,asBool,J,ad],of_bool.2 rfl⟩
theorem hP {x:Operand} {b:Bool} {t:TypeId} (an:a9 c E L x (.of b)):bS c E L ⟨d,.unOp .not t x,ty,pos,af,g⟩ (.of (!b)):= .pure fun a W s=>
 ⟨.bool (!b),by simp [execOp,Op.unary,of_bool.1 (an a W s)],of_bool.2 rfl⟩
theorem eA {x:Operand} {t:TypeId} {i p o:Nat} {β γ:Type} [ai β] [ai γ] {b:β} (l:aN β γ) {r:γ} (eI:bw c.P t γ) (an:a9 c E L x (.eq (.pointer (some ⟨p,o,none⟩))))
 (al:L[i]? =some ⟨some p,.var b⟩) (bb:o=l.off) (aR:l.get b=r):bS c E L ⟨d,.load t x,ty,pos,af,g⟩ (.of r):= .pure fun a W s=>by
 subst bb
 subst aR
 obtain⟨j0,eG,cs,T,rfl,fS⟩:=s.own _ (List.mem_of_getElem? al)
 have J:cs.toList.length=ai.size β:=ai.len fS
 obtain⟨v,ad,aC⟩:=uK (A:=aQ L ++ c.bT) eI eG (by have:=l.gv; simp at J; omega) (l.iv fS)
 refine⟨v,?_,aC⟩
 have aU:a.eval x=_:=an a W s
 simp [execOp,Instr.loadAt,Instr.sureAddr,aU,ad]
theorem dV {x:Operand} {t:TypeId} {γ:Type} [ai γ] {r:γ} (eI:bw c.P t γ) (an:a9 c E L x (.ptr r)):bS c E L ⟨d,.load t x,ty,pos,af,g⟩ (.of r):= .pure fun a W s=>by
 obtain⟨b,off,cur,T,gX,aU,hb,b3,hs,aR⟩:=an a W s
 obtain⟨v,ad,aC⟩:=uK eI b3 hs aR
 exact⟨v,by simp [execOp,Instr.loadAt,Instr.sureAddr,aU,ad],aC⟩
structure cx (P:Program) (s:TypeId) (f o:Nat):Prop where
 at_:∃ fs fd i,P.underlying s=some (.struct fs)∧fs[f]? =some fd∧fd.offset=o∧P.info? fd.type=some i∧i.size≠0
theorem LC {P:Program} {s:TypeId} {f o:Nat} (h:cx P s f o) (p off:Nat) (W:World):
 (Instr.fieldAt s (.pointer (some ⟨p,off,none⟩)) f).run P W= .ok (.pointer (some ⟨p,off + o,none⟩)) W:=by
 obtain⟨fs,fd,i,J,ad,aC,aU,a1⟩:=h.at_
 simp [Instr.fieldAt,run_underlying J,ad,Instr.sureAddr,fieldPlace,Go.sizeOf,typeInfo,aU,a1,jb,aC]
theorem aT {x:Operand} {s f o p off:Nat} (fd:cx c.P s f o) (an:a9 c E L x (.eq (.pointer (some ⟨p,off,none⟩)))):
 bS c E L ⟨d,.fieldAddr s x f,ty,pos,af,g⟩ (.eq (.pointer (some ⟨p,off + o,none⟩))):= .pure fun a W st=>by
 have aU:a.eval x=_:=an a W st
 exact⟨_,by simp [execOp,aU,LC fd],rfl⟩
theorem EG {x:Operand} {s f o:Nat} {β γ:Type} [ai β] [ai γ] {b:β} (l:aN β γ) {r:γ} (fd:cx c.P s f o) (an:a9 c E L x (.ptr b)) (bb:l.off=o) (aR:l.get b=r):
 bS c E L ⟨d,.fieldAddr s x f,ty,pos,af,g⟩ (.ptr r):= .pure fun a W st=>by
 subst bb
 subst aR
 obtain⟨q,off,cur,T,gX,aU,hb,b3,hs,fS⟩:=an a W st
 refine⟨.pointer (some ⟨q,off + l.off,none⟩),by simp [execOp,aU,LC fd],q,off + l.off,cur,T,gX,rfl,hb,b3,by have:=l.gv; omega,?_⟩
 have:=l.iv fS
 rwa [uO _ _ _ _ _ l.gv] at this
structure rp (P:Program) (t:TypeId) (n s:Nat):Prop where
 at_:∃ e i,P.underlying t=some (.array n e)∧P.info? e=some i∧i.size=s
theorem Sy {P:Program} {t n s:Nat} (h:rp P t n s) (p off:Nat) (k:Nat) (ay:k < n) (W:World):
 (Instr.indexAt t (.pointer (some ⟨p,off,none⟩)) (.int .i64 (k:Int))).run P W= .ok (.pointer (some ⟨p,off + k * s,none⟩)) W:=by
 obtain⟨e,i,J,ad,aC⟩:=h.at_
 simp [Instr.indexAt,asIntOf,run_underlying J,Instr.sureAddr,Go.sizeOf,typeInfo,ad,aC,ay,jb]
theorem il {x y:Operand} {t n s p off:Nat} {i:Int} {k:Nat} (ab0:rp c.P t n s) (an:a9 c E L x (.eq (.pointer (some ⟨p,off,none⟩)))) (a5:a9 c E L y (.of i)) (ay:k < n∧i=k):
 bS c E L ⟨d,.indexAddr t x y,ty,pos,af,g⟩ (.eq (.pointer (some ⟨p,off + k * s,none⟩))):= .pure fun a W st=>by
 have aU:a.eval x=_:=an a W st
 have a1:=of_int.1 (a5 a W st)
 obtain⟨bk,rfl⟩:=ay
 exact⟨_,by simp [execOp,aU,a1,Sy ab0 p off k bk],rfl⟩
theorem ah.alloc {t:TypeId} {rest:List Oper} {a7:Nat} {α:Type} [ai α] {z:α} (gL:cF c.P t z) (aO:Nat.blt a7 c.n=true)
 (k:∀ p,ah c ops Q rest ((a7,.eq (.pointer (some ⟨p,0,none⟩))) :: E) (⟨some p,.var z⟩ :: L)):ah c ops Q (⟨some a7,.alloc t,ty,pos,af,none⟩ :: rest) E L:=fun a W s=>by
 obtain⟨i,ee,J,ad,aC⟩:=gL.zero
 refine hy rfl (R:=fun v W'=>v= .pointer (some ⟨W.heap.size,0,none⟩)∧W'=W.alloc (.cells ee.cells t)) (.kx ?_ ⟨rfl,rfl⟩) fun v W' ⟨a0,hw⟩=> ?_
 ·simp [execOp,Instr.alloc,zeroValue,typeInfo,J,ad,newVar,newRow]
 ·subst a0
  subst hw
  exact k _ _ _ ((s.alloc (cp:= .var z) ⟨ee.cells,t,rfl,(aC _ _).2⟩).put (by simpa using aO) rfl)
theorem Az {P:Program} {t:TypeId} {α:Type} [ai α] {z:α} (gL:cF P t z):Kt P ⟨d,.alloc t,ty,pos,af,none⟩ (.var z):=by
 obtain⟨i,ee,J,ad,aC⟩:=gL.zero
 refine⟨rfl,.cells ee.cells t,fun A W=>⟨ee.cells,t,rfl,(aC A W).2⟩,fun a W=> ?_⟩
 simp [execOp,Instr.alloc,zeroValue,typeInfo,J,ad,newVar,newRow]
theorem vi {x y:Operand} {t:TypeId} {i p o:Nat} {β γ:Type} [ai β] [ai γ] {b b':β} {v:γ} (l:aN β γ) (eI:bw c.P t γ) (an:a9 c E L x (.eq (.pointer (some ⟨p,o,none⟩))))
 (a5:a9 c E L y (.of v)) (al:L[i]? =some ⟨some p,.var b⟩) (bb:o=l.off) (hb:l.set b v=b'):CG c E L ⟨none,.store t x y,ty,pos,af,none⟩ p (.var b'):=⟨rfl,rfl,fun a W s=>by
 subst bb
 subst hb
 obtain⟨j0,eG,cs,T,rfl,fS⟩:=s.own _ (List.mem_of_getElem? al)
 have J:cs.toList.length=ai.size β:=ai.len fS
 have eu:=l.gv
 have a0:=a5 a W s
 have ad:=z2 (A:=aQ L ++ c.bT) eI eG (off:=l.off) (by simp at J; omega) a0
 have aU:a.eval x=_:=an a W s
 refine⟨cs,(fW cs.toList l.off (a.eval y).cells.toList).toArray,T,eG,?_,?_⟩
 ·simp [execOp,Instr.storeAt,Instr.sureAddr,aU,ad]
 ·refine⟨_,T,rfl,?_⟩
  have:=l.lj fS a0.2
  simpa [fW,ai.len a0.2] using this⟩
theorem ah.box {t:TypeId} {x:Operand} {rest:List Oper} {a7:Nat} {α:Type} [ai α] {z:α} (an:a9 c E L x (.of z)) (aO:Nat.blt a7 c.n=true)
 (k:∀ p,ah c ops Q rest ((a7,.eq (.pointer (some ⟨p,0,none⟩))) :: E) (⟨some p,.var z⟩ :: L)):ah c ops Q (⟨some a7,.box t x,ty,pos,af,none⟩ :: rest) E L:=fun a W s=>by
 refine hy rfl (R:=fun v W'=>v= .pointer (some ⟨W.heap.size,0,none⟩)∧W'=W.alloc (.cells (a.eval x).cells t)) (.kx ?_ ⟨rfl,rfl⟩) fun v W' ⟨a0,hw⟩=> ?_
 ·simp [execOp,Instr.box,newVar,newRow]
 ·subst a0
  subst hw
  exact k _ _ _ ((s.alloc (cp:= .var z) ⟨_,t,rfl,(an a W s).2⟩).put (by simpa using aO) rfl)
theorem ah.store {x y:Operand} {t:TypeId} {rest:List Oper} {i p o:Nat} {β γ:Type} [ai β] [ai γ] {b b':β} {v:γ} (l:aN β γ) (eI:bw c.P t γ) (an:a9 c E L x (.eq (.pointer (some ⟨p,o,none⟩))))
 (a5:a9 c E L y (.of v)) (al:L[i]? =some ⟨some p,.var b⟩) (bb:o=l.off) (hb:l.set b v=b')
 (k:ah c ops Q rest E (L.set i ⟨some p,.var b'⟩)):ah c ops Q (⟨none,.store t x y,ty,pos,af,none⟩ :: rest) E L:=fun a W s=>by
 subst bb
 subst hb
 obtain⟨j0,eG,cs,T,rfl,fS⟩:=s.own _ (List.mem_of_getElem? al)
 have J:cs.toList.length=ai.size β:=ai.len fS
 have eu:=l.gv
 have a0:=a5 a W s
 have ad:=z2 (A:=aQ L ++ c.bT) eI eG (off:=l.off) (by simp at J; omega) a0
 have aU:a.eval x=_:=an a W s
 refine hy rfl (R:=fun v W'=>W'=W.setRow p (fW cs.toList l.off (a.eval y).cells.toList).toArray) (.xT ?_ rfl) fun v W' hw=> ?_
 ·simp [execOp,Instr.storeAt,Instr.sureAddr,aU,ad]
 ·subst hw
  refine k _ _ (s.store al eG ?_)
  refine⟨_,T,rfl,?_⟩
  have:=l.lj fS a0.2
  simpa [fW,ai.len a0.2] using this
def hJ (c:dd) (E:List (Nat × I)) (L:List aM):List Operand→List I→Prop
 | [],[]=>True
 | x :: xs,τ :: τs=>a9 c E L x τ∧hJ c E L xs τs
 | _,_=>False
theorem hJ.holds:∀ {xs:List Operand} {τs:List I},hJ c E L xs τs→ ∀ a W,bx c E L a W→gB (aQ L ++ c.bT) W τs (xs.map a.eval)
 | [],[],_,_,_,_=> .nil
 | x :: xs,τ :: τs,h,a,W,s=> .cons (h.1 a W s) (h.2.holds a W s)
 | [],_ :: _,h,_,_,_=>h.elim
 | _ :: _,[],h,_,_,_=>h.elim
structure bH (P:Program) (f:FuncId):Prop where
 at_:∃ fn,P.funcs[f]? =some fn∧fn.body.isNone=false∧ (fn.name == "runtime.NumGoroutine")=false
theorem bH.run {P:Program} {f:FuncId} (h:bH P f) (args:Array Value) (W:World):(callFunc f args).run P W= .ok (.enter f args) W:=by
 obtain⟨fn,J,ad,aC⟩:=h.at_
 simp only [callFunc,Sem.run_bind,run_program,Result.andThen_ok,J,aC,ad]
 rfl
theorem iG {f:FuncId} {xs:List Operand} {ats:Array TypeId} {τs:List I} {ρ:I} (ej:bH c.P f) (h:bK c.P f τs ρ) (an:hJ c E L xs τs):
 bS c E L ⟨d,.call ⟨.value (.func f),xs.toArray,ats⟩,ty,pos,af,g⟩ ρ:=fun a W s=>by
 refine .u4 (f:=f) (args:=(xs.map a.eval).toArray) (W':=W) ?_ (h _ W _ s.Ep (an.holds a W s))
 simp [execOp,resolve,Deferred.ofValue,Act.eval,invoke,ej.run]
theorem rI {P:Program} {W:World} {t off:Nat} {cs:Array Value} {α:Type} [ai α] {A:List Nat} {x:α} (ty:bw P t α) (hs:off + ai.size α≤cs.size)
 (aR:ai.rep A W ((cs.toList.drop off).take (ai.size α)) x):∃ v,(part t cs off).run P W= .ok v W∧ (I.of x).holds A W v:=by
 have ao:=ai.len aR
 cases bj:ai.agg α with
 | true=>
   refine⟨.agg (cs.extract off (off + ai.size α)),?_,?_,?_⟩
   ·simp [part,ty.isAgg,ty.sizeOf,bj]
   ·simp [shaped,bj]
   ·simpa [Value.cells,List.extract,Array.toList_extract] using aR
 | false=>
   have J:ai.size α=1:=ai.flat bj
   have b5:off < cs.size:=by omega
   have ad:(cs.toList.drop off).take (ai.size α)= [cs[off]]:=by
    rw [J]
    apply List.ext_getElem?
    intro j
    rw [List.getElem?_take,List.getElem?_drop]
    cases j with
    | zero=>simp [b5]
    | succ j=>simp
   rw [ad] at aR
   have aC:cs[off].oneCell'=true:=ai.one aR _ (by simp)
   refine⟨cs[off],?_,?_,?_⟩
   ·simp [part,ty.isAgg,bj,b5]
   ·simp [shaped,bj,aC]
   ·rw [ot aC]; simpa using aR
structure Ku (P:Program) (s f t o:Nat):Prop where
 at_:∃ fs fd,P.underlying s=some (.struct fs)∧fs[f]? =some fd∧fd.offset=o∧fd.type=t
theorem Hv {x:Operand} {s f t o:Nat} {β γ:Type} [ai β] [ai γ] {b:β} (l:aN β γ) {r:γ} (ab1:Ku c.P s f t o) (eI:bw c.P t γ) (bj:ai.agg β=true) (an:a9 c E L x (.of b)) (bb:l.off=o) (aR:l.get b=r):
 bS c E L ⟨d,.field s x f,ty,pos,af,g⟩ (.of r):= .pure fun a W st=>by
 subst bb
 subst aR
 obtain⟨J,ad⟩:=an a W st
 simp only [shaped,bj,if_true] at J
 obtain⟨cs,ue⟩:=J
 obtain⟨fs,fd,aC,aU,a1,bk⟩:=ab1.at_
 rw [ue] at ad
 simp only [Value.cells] at ad
 have ao:cs.toList.length=ai.size β:=ai.len ad
 obtain⟨v,cT,fa⟩:=rI (A:=aQ L ++ c.bT) (P:=c.P) (W:=W) (cs:=cs) (off:=l.off) eI (by have:=l.gv; simp at ao; omega) (l.iv ad)
 refine⟨v,?_,fa⟩
 simp [execOp,Instr.field,run_underlying aC,aU,ue,asAgg,a1,bk,cT]
theorem lq {x:Operand} {i:Nat} {τs:List I} {τ:I} (an:a9 c E L x (.ed τs)) (au:τs[i]? =some τ):bS c E L ⟨d,.extract x i,ty,pos,af,g⟩ τ:= .pure fun a W st=>by
 obtain⟨vs,J,ad⟩:=an a W st
 have get:∀ {τs:List I} {vs:List Value},gB (aQ L ++ c.bT) W τs vs→ ∀ (i:Nat) (τ:I),τs[i]? =some τ→ ∃ v,vs[i]? =some v∧τ.holds (aQ L ++ c.bT) W v:=by
  intro τs vs h
  induction h with
  | nil=>intro i τ h; simp at h
  | cons J _ bJ=>
    intro i τ h
    cases i with
    | zero=>simp only [List.getElem?_cons_zero,Option.some.injEq] at h; subst h; exact⟨_,rfl,J⟩
    | succ i=>simp only [List.getElem?_cons_succ] at h ⊢; exact bJ i τ h
 obtain⟨v,aC,aU⟩:=get ad i τ au
 refine⟨v,?_,aU⟩
 have a1:vs[i]? =some v:=by simpa using aC
 simp [execOp,Instr.extract,J,a1]
end
def bq (x:Int):Int:=IntKind.i64.wrap x
theorem g9 {x:Int} (h: -9223372036854775808≤x) (c0:x≤9223372036854775807):bq x=x:=by
 unfold bq
 rw [IntKind.wrap_i64]
 omega
def tN (a b:Int):Option Int:=if b=0 then none else some (a.tmod b)
theorem G1 {a b r:Int} (h:tN a b=some r):b≠0∧a.tmod b=r:=by unfold tN at h; split at h <;> simp_all
theorem wrap_u8 (n:Int):IntKind.u8.wrap n=n % 256:=by simp [IntKind.wrap,IntKind.signed,IntKind.bits]
theorem wrap_u64 (n:Int):IntKind.u64.wrap n=n % 18446744073709551616:=by simp [IntKind.wrap,IntKind.signed,IntKind.bits]
theorem Vr (P:Program) (W:World) (k Kv:IntKind) (a b:Int) (h:0≤b):(Op.shift .shl k a Kv b).run P W= .ok (.int k (k.wrap (a * 2 ^ min b.toNat k.bits))) W:=by
 unfold Op.shift
 rw [if_neg (by omega)]
 rfl
theorem Vs (P:Program) (W:World) (k Kv:IntKind) (a b:Int) (h:0≤b):(Op.shift .shr k a Kv b).run P W= .ok (.int k (a.fdiv (2 ^ min b.toNat k.bits))) W:=by
 unfold Op.shift
 rw [if_neg (by omega)]
 rfl
section
variable {c:dd} {E:List (Nat × I)} {L:List aM}
variable {d:Option Tmp} {ty:TypeId} {pos:String} {af:Array Edge} {g:Option (Nat × Bool)} {x y:Operand} {t t2:TypeId}
theorem dI {a b:Int} (an:a9 c E L x (.of a)) (a5:a9 c E L y (.of b)):bS c E L ⟨d,.binOp .add t x y t2,ty,pos,af,g⟩ (.of (bq (a + b))):= .pure fun A W s=>
 ⟨.int .i64 (bq (a + b)),by simp [execOp,eqGuard,binOp,Op.intArith,of_int.1 (an A W s),of_int.1 (a5 A W s),bq],of_int.2 rfl⟩
theorem ix {a b:Int} (an:a9 c E L x (.of a)) (a5:a9 c E L y (.of b)):bS c E L ⟨d,.binOp .sub t x y t2,ty,pos,af,g⟩ (.of (bq (a - b))):= .pure fun A W s=>
 ⟨.int .i64 (bq (a - b)),by simp [execOp,eqGuard,binOp,Op.intArith,of_int.1 (an A W s),of_int.1 (a5 A W s),bq],of_int.2 rfl⟩
theorem Xc {a b:Int} (an:a9 c E L x (.of a)) (a5:a9 c E L y (.of b)):bS c E L ⟨d,.binOp .mul t x y t2,ty,pos,af,g⟩ (.of (bq (a * b))):= .pure fun A W s=>
 ⟨.int .i64 (bq (a * b)),by simp [execOp,eqGuard,binOp,Op.intArith,of_int.1 (an A W s),of_int.1 (a5 A W s),bq],of_int.2 rfl⟩
theorem Ig {a b r:Int} (an:a9 c E L x (.of a)) (a5:a9 c E L y (.of b)) (h:b≠0∧a.tmod b=r):bS c E L ⟨d,.binOp .rem t x y t2,ty,pos,af,g⟩ (.of r):= .pure fun A W s=>
 ⟨.int .i64 r,by obtain⟨J,rfl⟩:=h; simp [execOp,eqGuard,binOp,Op.intDiv,of_int.1 (an A W s),of_int.1 (a5 A W s),J],of_int.2 rfl⟩
theorem eT {a b:Int} (an:a9 c E L x (.of a)) (a5:a9 c E L y (.of b)):bS c E L ⟨d,.binOp .lss t x y t2,ty,pos,af,g⟩ (.of (decide (a < b))):= .pure fun A W s=>
 ⟨.bool (decide (a < b)),by simp only [execOp,eqGuard,binOp,of_int.1 (an A W s),of_int.1 (a5 A W s)]; rfl,of_bool.2 rfl⟩
theorem qS {a b:Int} (an:a9 c E L x (.of a)) (a5:a9 c E L y (.of b)):bS c E L ⟨d,.binOp .leq t x y t2,ty,pos,af,g⟩ (.of (decide (a≤b))):= .pure fun A W s=>
 ⟨.bool (decide (a≤b)),by simp only [execOp,eqGuard,binOp,of_int.1 (an A W s),of_int.1 (a5 A W s)]; rfl,of_bool.2 rfl⟩
theorem pO {a b:Int} (an:a9 c E L x (.of a)) (a5:a9 c E L y (.of b)):bS c E L ⟨d,.binOp .gtr t x y t2,ty,pos,af,g⟩ (.of (decide (a > b))):= .pure fun A W s=>
 ⟨.bool (decide (a > b)),by simp only [execOp,eqGuard,binOp,of_int.1 (an A W s),of_int.1 (a5 A W s)]; rfl,of_bool.2 rfl⟩
theorem kT {a b:Int} (an:a9 c E L x (.of a)) (a5:a9 c E L y (.of b)):bS c E L ⟨d,.binOp .geq t x y t2,ty,pos,af,g⟩ (.of (decide (a≥b))):= .pure fun A W s=>
 ⟨.bool (decide (a≥b)),by simp only [execOp,eqGuard,binOp,of_int.1 (an A W s),of_int.1 (a5 A W s)]; rfl,of_bool.2 rfl⟩
theorem gN {a b:Int} (an:a9 c E L x (.of a)) (a5:a9 c E L y (.of b)):bS c E L ⟨d,.binOp .eql t x y t2,ty,pos,af,g⟩ (.of (a ==b)):= .pure fun A W s=>
 ⟨.bool (a ==b),by simp only [execOp,eqGuard,binOp,of_int.1 (an A W s),of_int.1 (a5 A W s)]; rfl,of_bool.2 rfl⟩
theorem qV {a b:Int} (an:a9 c E L x (.of a)) (a5:a9 c E L y (.of b)):bS c E L ⟨d,.binOp .neq t x y t2,ty,pos,af,g⟩ (.of (a !=b)):= .pure fun A W s=>
 ⟨.bool (a !=b),by simp only [execOp,eqGuard,binOp,of_int.1 (an A W s),of_int.1 (a5 A W s)]; rfl,of_bool.2 rfl⟩
theorem Ih {a b:Bool} (hu:c.P.underlying t=some .bool) (an:a9 c E L x (.of a)) (a5:a9 c E L y (.of b)):bS c E L ⟨d,.binOp .neq t x y t2,ty,pos,af,g⟩ (.of (a !=b)):= .pure fun A W s=>
 ⟨.bool (a !=b),by
   simp only [execOp,eqGuard,binOp,of_bool.1 (an A W s),of_bool.1 (a5 A W s),Op.equal,Op.maxDepth]
   simp [run_equalIn_bool' W 9999 t a b hu,bne],of_bool.2 rfl⟩
theorem A4 {a b:Int} {ats:Array TypeId} (an:a9 c E L x (.of a)) (a5:a9 c E L y (.of b)):bS c E L ⟨d,.call ⟨.builtin .min,#[x,y],ats⟩,ty,pos,af,g⟩ (.of (min a b)):= .pure fun A W s=>
 ⟨.int .i64 (min a b),by
   simp [execOp,resolve,invoke,builtin,Builtin.min_,Builtin.min2,of_int.1 (an A W s),of_int.1 (a5 A W s)]
   split <;> omega,of_int.2 rfl⟩
theorem Ew {a b:Int} {ats:Array TypeId} (an:a9 c E L x (.of a)) (a5:a9 c E L y (.of b)):bS c E L ⟨d,.call ⟨.builtin .max,#[x,y],ats⟩,ty,pos,af,g⟩ (.of (max a b)):= .pure fun A W s=>
 ⟨.int .i64 (max a b),by
   simp [execOp,resolve,invoke,builtin,Builtin.max_,Builtin.max2,of_int.1 (an A W s),of_int.1 (a5 A W s)]
   split <;> omega,of_int.2 rfl⟩
theorem Yf (a:BitVec 8):(a.toNat:Int) < 256:=by have:=a.isLt; omega
theorem Ob {a:BitVec 8} {src dst:TypeId} {e:TypeDesc} (hs:c.P.underlying src=some e) (hd:c.P.underlying dst=some (.int .i64)) (an:a9 c E L x (.of a)):bS c E L ⟨d,.convert src dst x,ty,pos,af,g⟩ (.of (a.toNat:Int)):= .pure fun A W s=>
 ⟨.int .i64 a.toNat,by
   have h:IntKind.i64.wrap (a.toNat:Int)=(a.toNat:Int):=g9 (by omega) (by have:=Yf a; omega)
   simp only [execOp,convert,Sem.run_bind,run_underlying hs,run_underlying hd,EN.1 (an A W s),Conv.intToInt,Result.andThen_ok,h]; rfl,of_int.2 rfl⟩
theorem x3 (a:BitVec 64):(a.toNat:Int) < 18446744073709551616:=by have:=a.isLt; omega
theorem ofInt_u64 (a:BitVec 64):BitVec.ofInt 64 (a.toNat:Int)=a:=by simp
theorem Vt (a b:BitVec 64):IntKind.u64.wrap ((a.toNat:Int) + (b.toNat:Int))=((a + b).toNat:Int):=by rw [wrap_u64,BitVec.toNat_add]; omega
theorem Vi {a b:BitVec 64} (an:a9 c E L x (.of a)) (a5:a9 c E L y (.of b)):bS c E L ⟨d,.binOp .add t x y t2,ty,pos,af,g⟩ (.of (a + b)):= .pure fun A W s=>
 ⟨.int .u64 (a + b).toNat,by simp [execOp,eqGuard,binOp,Op.intArith,gd.1 (an A W s),gd.1 (a5 A W s),Vt],gd.2 rfl⟩
theorem Vu (a b:BitVec 64):IntKind.u64.wrap ((a.toNat:Int) - (b.toNat:Int))=((a - b).toNat:Int):=by rw [wrap_u64,BitVec.toNat_sub]; have:=x3 a; have:=x3 b; omega
theorem th {a b:BitVec 64} (an:a9 c E L x (.of a)) (a5:a9 c E L y (.of b)):bS c E L ⟨d,.binOp .sub t x y t2,ty,pos,af,g⟩ (.of (a - b)):= .pure fun A W s=>
 ⟨.int .u64 (a - b).toNat,by simp [execOp,eqGuard,binOp,Op.intArith,gd.1 (an A W s),gd.1 (a5 A W s),Vu],gd.2 rfl⟩
theorem qI {a b:BitVec 64} (an:a9 c E L x (.of a)) (a5:a9 c E L y (.of b)):bS c E L ⟨d,.binOp .and t x y t2,ty,pos,af,g⟩ (.of (a &&& b)):= .pure fun A W s=>
 ⟨.int .u64 (a &&& b).toNat,by
   simp only [execOp,eqGuard,binOp,gd.1 (an A W s),gd.1 (a5 A W s)]
   have h:IntKind.u64.wrap ((a &&& b).toNat:Int)=((a &&& b).toNat:Int):=by rw [wrap_u64]; have:=x3 (a &&& b); omega
   rw [← h]
   conv=>rhs; rw [← ofInt_u64 a,← ofInt_u64 b]
   rfl,gd.2 rfl⟩
theorem qN {a b:BitVec 64} (an:a9 c E L x (.of a)) (a5:a9 c E L y (.of b)):bS c E L ⟨d,.binOp .or t x y t2,ty,pos,af,g⟩ (.of (a ||| b)):= .pure fun A W s=>
 ⟨.int .u64 (a ||| b).toNat,by
   simp only [execOp,eqGuard,binOp,gd.1 (an A W s),gd.1 (a5 A W s)]
   have h:IntKind.u64.wrap ((a ||| b).toNat:Int)=((a ||| b).toNat:Int):=by rw [wrap_u64]; have:=x3 (a ||| b); omega
   rw [← h]
   conv=>rhs; rw [← ofInt_u64 a,← ofInt_u64 b]
   rfl,gd.2 rfl⟩
theorem M1 {a b:BitVec 64} (an:a9 c E L x (.of a)) (a5:a9 c E L y (.of b)):bS c E L ⟨d,.binOp .xor t x y t2,ty,pos,af,g⟩ (.of (a ^^^ b)):= .pure fun A W s=>
 ⟨.int .u64 (a ^^^ b).toNat,by
   simp only [execOp,eqGuard,binOp,gd.1 (an A W s),gd.1 (a5 A W s)]
   have h:IntKind.u64.wrap ((a ^^^ b).toNat:Int)=((a ^^^ b).toNat:Int):=by rw [wrap_u64]; have:=x3 (a ^^^ b); omega
   rw [← h]
   conv=>rhs; rw [← ofInt_u64 a,← ofInt_u64 b]
   rfl,gd.2 rfl⟩
theorem LL {a b:BitVec 64} (an:a9 c E L x (.of a)) (a5:a9 c E L y (.of b)):bS c E L ⟨d,.binOp .andNot t x y t2,ty,pos,af,g⟩ (.of (a &&& ~~~b)):= .pure fun A W s=>
 ⟨.int .u64 (a &&& ~~~b).toNat,by
   simp only [execOp,eqGuard,binOp,gd.1 (an A W s),gd.1 (a5 A W s)]
   have h:IntKind.u64.wrap ((a &&& ~~~b).toNat:Int)=((a &&& ~~~b).toNat:Int):=by rw [wrap_u64]; have:=x3 (a &&& ~~~b); omega
   rw [← h]
   conv=>rhs; rw [← ofInt_u64 a,← ofInt_u64 b]
   rfl,gd.2 rfl⟩
theorem Vv (a:BitVec 64) (n:Nat):IntKind.u64.wrap ((a.toNat:Int) * 2 ^ min n 64)=((a <<< n).toNat:Int):=by
 rw [wrap_u64,BitVec.toNat_shiftLeft,Nat.shiftLeft_eq]
 rcases Nat.lt_or_ge n 64 with h | h
 ·rw [Nat.min_eq_left (by omega)]; simp
 ·rw [Nat.min_eq_right h]
  have e:(a.toNat * 2 ^ n) % 2 ^ 64=0:=by
   rw [show n=64 + (n - 64) by omega,Nat.pow_add]
   exact Nat.mod_eq_zero_of_dvd ⟨a.toNat * 2 ^ (n - 64),by rw [← Nat.mul_assoc,Nat.mul_comm a.toNat,Nat.mul_assoc]⟩
  rw [e]
  have aX:(2:Int) ^ 64=18446744073709551616:=by decide
  rw [aX]; omega
theorem Vw (a:BitVec 64) (n:Nat):(a.toNat:Int).fdiv (2 ^ min n 64)=((a >>> n).toNat:Int):=by
 rw [BitVec.toNat_ushiftRight,Nat.shiftRight_eq_div_pow]
 have e:∀ m:Nat,(a.toNat:Int).fdiv (2 ^ m)=((a.toNat / 2 ^ m:Nat):Int):=by
  intro m
  rw [show((2:Int) ^ m)=((2 ^ m:Nat):Int) by simp]
  rw [Int.fdiv_eq_ediv_of_nonneg _ (Int.natCast_nonneg _)]
  exact(Int.natCast_ediv _ _).symm
 rw [e]
 rcases Nat.lt_or_ge n 64 with h | h
 ·rw [Nat.min_eq_left (by omega)]
 ·rw [Nat.min_eq_right h]
  have J:a.toNat / 2 ^ 64=0:=Nat.div_eq_of_lt a.isLt
  have ad:a.toNat / 2 ^ n=0:=Nat.div_eq_of_lt (Nat.lt_of_lt_of_le a.isLt (Nat.pow_le_pow_right (by omega) h))
  rw [J,ad]
theorem nM {a:BitVec 64} {b:BitVec 64} (an:a9 c E L x (.of a)) (a5:a9 c E L y (.of b)):bS c E L ⟨d,.binOp .shl t x y t2,ty,pos,af,g⟩ (.of (a <<< b.toNat)):= .pure fun A W s=>
 ⟨.int .u64 (a <<< b.toNat).toNat,by
   simp only [execOp,eqGuard,binOp,gd.1 (an A W s),gd.1 (a5 A W s)]
   have h:=Vr c.P W .u64 .u64 a.toNat b.toNat (by omega)
   simp only [Int.toNat_natCast,IntKind.bits,Vv] at h
   exact congrArg (fun r:Result Value=>r.andThen fun v w=> .ok (Next.value v) w) h,gd.2 rfl⟩
theorem qK {a:BitVec 64} {b:BitVec 64} (an:a9 c E L x (.of a)) (a5:a9 c E L y (.of b)):bS c E L ⟨d,.binOp .shr t x y t2,ty,pos,af,g⟩ (.of (a >>> b.toNat)):= .pure fun A W s=>
 ⟨.int .u64 (a >>> b.toNat).toNat,by
   simp only [execOp,eqGuard,binOp,gd.1 (an A W s),gd.1 (a5 A W s)]
   have h:=Vs c.P W .u64 .u64 a.toNat b.toNat (by omega)
   simp only [Int.toNat_natCast,IntKind.bits,Vw] at h
   exact congrArg (fun r:Result Value=>r.andThen fun v w=> .ok (Next.value v) w) h,gd.2 rfl⟩
theorem M3 {a b:BitVec 64} (an:a9 c E L x (.of a)) (a5:a9 c E L y (.of b)):bS c E L ⟨d,.binOp .lss t x y t2,ty,pos,af,g⟩ (.of (decide (a < b))):= .pure fun A W s=>
 ⟨.bool (decide (a < b)),by
   simp only [execOp,eqGuard,binOp,gd.1 (an A W s),gd.1 (a5 A W s)]
   have h:decide ((a.toNat:Int) < (b.toNat:Int))=decide (a < b):=by simp [BitVec.lt_def,BitVec.le_def]
   rw [← h]; rfl,of_bool.2 rfl⟩
theorem Ht {a b:BitVec 64} (an:a9 c E L x (.of a)) (a5:a9 c E L y (.of b)):bS c E L ⟨d,.binOp .geq t x y t2,ty,pos,af,g⟩ (.of (decide (a≥b))):= .pure fun A W s=>
 ⟨.bool (decide (a≥b)),by
   simp only [execOp,eqGuard,binOp,gd.1 (an A W s),gd.1 (a5 A W s)]
   have h:decide ((a.toNat:Int)≥ (b.toNat:Int))=decide (a≥b):=by simp [BitVec.lt_def,BitVec.le_def]
   rw [← h]; rfl,of_bool.2 rfl⟩
theorem xQ {a b:BitVec 64} (an:a9 c E L x (.of a)) (a5:a9 c E L y (.of b)):bS c E L ⟨d,.binOp .eql t x y t2,ty,pos,af,g⟩ (.of (a ==b)):= .pure fun A W s=>
 ⟨.bool (a ==b),by
   simp only [execOp,eqGuard,binOp,gd.1 (an A W s),gd.1 (a5 A W s)]
   have h:((a.toNat:Int) ==(b.toNat:Int))=(a ==b):=by
    rw [Bool.eq_iff_iff]; simp [bne]; exact⟨fun h=>BitVec.eq_of_toNat_eq (by omega),fun h=>by rw [h]⟩
   rw [← h]; rfl,of_bool.2 rfl⟩
theorem MY {a b:BitVec 64} (an:a9 c E L x (.of a)) (a5:a9 c E L y (.of b)):bS c E L ⟨d,.binOp .neq t x y t2,ty,pos,af,g⟩ (.of (a !=b)):= .pure fun A W s=>
 ⟨.bool (a !=b),by
   simp only [execOp,eqGuard,binOp,gd.1 (an A W s),gd.1 (a5 A W s)]
   have h:((a.toNat:Int) !=(b.toNat:Int))=(a !=b):=by
    rw [Bool.eq_iff_iff]; simp [bne]; exact⟨fun h=>fun e=>h (by rw [e]),fun h=>by intro e; exact h (BitVec.eq_of_toNat_eq (by omega))⟩
   rw [← h]; rfl,of_bool.2 rfl⟩
theorem ij {a:Int} {src dst:TypeId} {e:TypeDesc} (hs:c.P.underlying src=some e) (hd:c.P.underlying dst=some (.int .u64)) (an:a9 c E L x (.of a)):bS c E L ⟨d,.convert src dst x,ty,pos,af,g⟩ (.of (BitVec.ofInt 64 a)):= .pure fun A W s=>
 ⟨.int .u64 (BitVec.ofInt 64 a).toNat,by
   have h:IntKind.u64.wrap a=((BitVec.ofInt 64 a).toNat:Int):=by rw [wrap_u64,BitVec.toNat_ofInt]; omega
   simp [execOp,convert,run_underlying hs,run_underlying hd,of_int.1 (an A W s),Conv.intToInt,h],gd.2 rfl⟩
theorem Vg {a:BitVec 64} {src dst:TypeId} {e:TypeDesc} (hs:c.P.underlying src=some e) (hd:c.P.underlying dst=some (.int .u8)) (an:a9 c E L x (.of a)):bS c E L ⟨d,.convert src dst x,ty,pos,af,g⟩ (.of (a.setWidth 8)):= .pure fun A W s=>
 ⟨.int .u8 (a.setWidth 8).toNat,by
   have h:IntKind.u8.wrap (a.toNat:Int)=((a.setWidth 8).toNat:Int):=by rw [wrap_u8,BitVec.toNat_setWidth]; have:=a.isLt; omega
   simp only [execOp,convert,Sem.run_bind,run_underlying hs,run_underlying hd,gd.1 (an A W s),Conv.intToInt,Result.andThen_ok,h]; rfl,EN.2 rfl⟩
theorem V0 {a:BitVec 64} {src dst:TypeId} {e:TypeDesc} (hs:c.P.underlying src=some e) (hd:c.P.underlying dst=some (.int .i64)) (an:a9 c E L x (.of a)):bS c E L ⟨d,.convert src dst x,ty,pos,af,g⟩ (.of (bq a.toNat)):= .pure fun A W s=>
 ⟨.int .i64 (bq a.toNat),by
   simp only [execOp,convert,Sem.run_bind,run_underlying hs,run_underlying hd,gd.1 (an A W s),Conv.intToInt,Result.andThen_ok]; rfl,of_int.2 rfl⟩
end
def vm (tmps:Array Value):ResultVar→Sem Value
 | .tmp t=>pure (tmps.getD t undef)
 | .cell a t=>do loadVar t (← asAddr (tmps.getD a undef))
theorem uU (fn:Func) (tmps:Array Value):results fn tmps=(do
 let vs ← fn.results.mapM (vm tmps)
 pure (if h:vs.size=1 then vs[0] else .tuple vs)):=by
 unfold results
 congr 1
section
variable {c:dd} {E:List (Nat × I)} {L:List aM} {ops:Array Oper} {Q:Exit→Act→World→Prop}
def sM (c:dd) (E:List (Nat × I)) (L:List aM) (r:ResultVar) (τ:I):Prop:=
 ∀ a W,bx c E L a W→ ∃ v,(vm a.tmps r).run c.P W= .ok v W∧τ.holds c.bT W v
theorem vZ {t:Nat} {τ:I} (h:look E t=some τ):sM c E L (.tmp t) τ:=fun a W s=>by
 obtain⟨v,J,ad⟩:=s.env t τ h
 exact⟨v,by simp [vm,J],LM ad⟩
theorem ZV {t:Nat} {ty:TypeId} {i p:Nat} {α:Type} [ai α] {x:α} (eI:bw c.P ty α) (h:look E t=some (.eq (.pointer (some ⟨p,0,none⟩)))) (al:L[i]? =some ⟨some p,.var x⟩):sM c E L (.cell t ty) (.of x):=fun a W s=>by
 obtain⟨v,J,ad⟩:=s.env t _ h
 subst ad
 obtain⟨j0,eG,cs,T,rfl,fS⟩:=s.own _ (List.mem_of_getElem? al)
 have ao:cs.toList.length=ai.size α:=ai.len fS
 have eE:cs.size=ai.size α:=by simpa using ao
 obtain⟨v,aC,aU⟩:=uK (A:=aQ L ++ c.bT) (off:=0) eI eG (by omega) (by rw [List.drop_zero,← ao,List.take_length]; exact fS)
 exact⟨v,by simp [vm,J,asAddr,aC],LM aU⟩
def v8 (c:dd) (ρ:I):Ending→World→Prop:=fun e W'=> ∃ v,e= .returned v∧Fr c.X c.iN W'∧ρ.holds c.bT W' v
theorem ae.jg {fn:Func} {r:ResultVar} {τ:I} (aR:fn.results= #[r]) (h:sM c E L r τ) (hM:c.ds= []:=by rfl):ae c (bodyPost c.P fn (v8 c τ)) .ret E L:=fun a W s=>by
 obtain⟨v,J,ad⟩:=h a W s
 exact⟨s.u3 hM,v,by simp [uU,aR,J],v,rfl,s.dG,ad⟩
theorem ae.EV {fn:Func} {r gx:ResultVar} {τ n9:I} (aR:fn.results= #[r,gx]) (h:sM c E L r τ) (ad:sM c E L gx n9) (hM:c.ds= []:=by rfl):ae c (bodyPost c.P fn (v8 c (.ed [τ,n9]))) .ret E L:=fun a W s=>by
 obtain⟨v,aC,aU⟩:=h a W s
 obtain⟨v2,a1,bk⟩:=ad a W s
 exact⟨s.u3 hM,.tuple #[v,v2],by simp [uU,aR,aC,a1],_,rfl,s.dG,_,rfl,.cons aU (.cons bk .nil)⟩
theorem ae.PA {fn:Func} {r gx oe:ResultVar} {τ n9 B8:I} (aR:fn.results= #[r,gx,oe]) (h:sM c E L r τ) (ad:sM c E L gx n9) (aC:sM c E L oe B8) (hM:c.ds= []:=by rfl):ae c (bodyPost c.P fn (v8 c (.ed [τ,n9,B8]))) .ret E L:=fun a W s=>by
 obtain⟨v,aU,a1⟩:=h a W s
 obtain⟨v2,bk,cT⟩:=ad a W s
 obtain⟨y3,fa,fX⟩:=aC a W s
 exact⟨s.u3 hM,.tuple #[v,v2,y3],by simp [uU,aR,aU,bk,fa],_,rfl,s.dG,_,rfl,.cons a1 (.cons cT (.cons fX .nil))⟩
theorem bK.of {P:Program} {f:FuncId} {fn:Func} {code:Code} {n:Nat} {τs:List I} {ρ:I} (ba:P.funcs[f]? =some fn) (hb:fn.body=some code) (aO:fn.ntmps=n) (hlen:Nat.ble τs.length n=true)
 (h:∀ W A,ag ⟨P,n,W,[],A,none,[]⟩ (bodyPost P fn (v8 ⟨P,n,W,[],A,none,[]⟩ ρ)) code (params 0 τs) []):bK P f τs ρ:=bK.enter ba hb aO hlen h
end
structure mu (P:Program) (t:TypeId) (α:Type) [ai α] [DecidableEq α] (k:Nat):Prop where
 run:∀ d,k≤d→ ∀ A W u v (x y:α),(I.of x).holds A W u→ (I.of y).holds A W v→ (Op.equalIn d t u v).run P W= .ok (decide (x=y)) W
theorem M8 {P t K} (h:P.underlying t=some (.int K)):mu P t Int 1 where
 run d hd A W u v x y an a5:=by
  obtain⟨d,rfl⟩:∃ e,d=e + 1:=⟨d - 1,by omega⟩
  rw [of_int.1 an,of_int.1 a5,run_equalIn_int W d t .i64 K x y h]
  congr 1
theorem Vx {P t K} (h:P.underlying t=some (.int K)):mu P t (BitVec 64) 1 where
 run d hd A W u v x y an a5:=by
  obtain⟨d,rfl⟩:∃ e,d=e + 1:=⟨d - 1,by omega⟩
  rw [gd.1 an,gd.1 a5,run_equalIn_int W d t .u64 K _ _ h]
  congr 1
  rw [Bool.eq_iff_iff]; simp only [beq_iff_eq,decide_eq_true_eq]
  exact⟨fun h=>BitVec.eq_of_toNat_eq (by omega),fun h=>by rw [h]⟩
theorem UM {P t} (h:P.underlying t=some .bool):mu P t Bool 1 where
 run d hd A W u v x y an a5:=by
  obtain⟨d,rfl⟩:∃ e,d=e + 1:=⟨d - 1,by omega⟩
  rw [of_bool.1 an,of_bool.1 a5,run_equalIn_bool' W d t x y h]
  congr 1
theorem GK {P:Program} {W:World} (f:Nat→Sem Bool) (p:Nat→Bool):∀ (l:List Nat),(∀ i∈l,(f i).run P W= .ok (p i) W)→
 (forIn (m:=Sem) l ((none,()):Option Bool × Unit) (fun i _=>do
  let __do_lift ← f i
  if (!__do_lift)=true then pure (ForInStep.done (some false,())) else
   pure (ForInStep.yield (none,())))).run P W= .ok (if l.all p then(none,()) else(some false,())) W
 | [],_=>by simp
 | i :: r,h=>by
   have J:=h i (by simp)
   have ad:=GK (P:=P) (W:=W) f p r (fun j aH=>h j (by simp [aH]))
   cases hp:p i with
   | false=>simp [List.forIn_cons,J,hp]
   | true=>
     rw [List.forIn_cons]
     simp only [Sem.run_bind,J,hp,Result.andThen_ok,Bool.not_true,Bool.false_eq_true,if_false,Sem.run_pure]
     rw [ad]
     simp [hp]
theorem M9 {P t e n k} {α:Type} [ai α] [Inhabited α] [DecidableEq α] (h:P.underlying t=some (.array n e)) (eJ:bw P e α) (he:mu P e α k):mu P t (Vector α n) (k + 1) where
 run d hd A W u v x y an a5:=by
  obtain⟨d,rfl⟩:∃ e,d=e + 1:=⟨d - 1,by omega⟩
  obtain⟨J,ad⟩:=an
  obtain⟨aC,aU⟩:=a5
  obtain⟨xs,rfl⟩:∃ cs,u= .agg cs:=by simpa [shaped,ai.agg] using J
  obtain⟨ys,rfl⟩:∃ cs,v= .agg cs:=by simpa [shaped,ai.agg] using aC
  simp only [Value.cells] at ad aU
  have sw:xs.toList.length=n * ai.size α:=ai.len ad
  have B9:ys.toList.length=n * ai.size α:=ai.len aU
  have r6:∀ i∈List.range' 0 n,((do
   let a ← part e xs (i * ai.size α)
   let b ← part e ys (i * ai.size α)
   Op.equalIn d e a b):Sem Bool).run P W= .ok (decide (bD x i=bD y i)) W:=by
   intro i au
   have gR:i < n:=by simpa using au
   have eu:i * ai.size α + ai.size α≤n * ai.size α:=(aN.idx (α:=α) n i gR).gv
   obtain⟨a,bj,sx⟩:=rI (A:=A) (P:=P) (W:=W) (cs:=xs) (off:=i * ai.size α) eJ (by simp at sw; omega) ((aN.idx (α:=α) n i gR).iv ad)
   obtain⟨b,hb,Ca⟩:=rI (A:=A) (P:=P) (W:=W) (cs:=ys) (off:=i * ai.size α) eJ (by simp at B9; omega) ((aN.idx (α:=α) n i gR).iv aU)
   simp only [Sem.run_bind,bj,hb,Result.andThen_ok]
   exact he.run d (by omega) A W a b _ _ sx Ca
  have ba:=GK (P:=P) (W:=W) _ _ _ r6
  have kA:(List.range' 0 n).all (fun i=>decide (bD x i=bD y i))=decide (x=y):=by
   rw [Bool.eq_iff_iff,List.all_eq_true,decide_eq_true_eq]
   constructor
   ·intro h
    apply Vector.ext
    intro i au
    have:=h i (by simpa using au)
    simpa [bD,au] using this
   ·rintro rfl i _
    simp
  rw [kA] at ba
  simp only [Op.equalIn,Sem.run_bind,run_underlying h,Result.andThen_ok,eJ.sizeOf,Std.Legacy.Range.forIn_eq_forIn_range']
  simp only [Std.Legacy.Range.size,Nat.sub_zero,Nat.add_one_sub_one,Nat.div_one] at ba ⊢
  simp only [bind_assoc] at ba
  rw [ba]
  by_cases Cb:x=y
  ·simp [Cb]
  ·simp [Cb]
section
variable {c:dd} {E:List (Nat × I)} {L:List aM} {ops:Array Oper} {Q:Exit→Act→World→Prop}
variable {d:Option Tmp} {ty:TypeId} {pos:String} {af:Array Edge} {g:Option (Nat × Bool)} {x y:Operand} {t t2:TypeId}
theorem yb {α:Type} [ai α] [DecidableEq α] {k:Nat} {a b:α} (wY:mu c.P t α k) (ay:Nat.ble k 10000=true) (bs:c.P.eqGuardType c.P.depth t=false) (bj:ai.agg α=true) (an:a9 c E L x (.of a)) (a5:a9 c E L y (.of b)):
 bS c E L ⟨d,.binOp .eql t x y t2,ty,pos,af,g⟩ (.of (decide (a=b))):= .pure fun A W s=>by
 have J:=an A W s
 have ad:=a5 A W s
 obtain⟨xs,hE⟩:∃ cs,A.eval x= .agg cs:=by simpa [shaped,bj] using J.1
 obtain⟨ys,uf⟩:∃ cs,A.eval y= .agg cs:=by simpa [shaped,bj] using ad.1
 have aC:=wY.run 10000 (Nat.le_of_ble_eq_true ay) _ W _ _ a b J ad
 rw [hE,uf] at aC
 refine⟨.bool (decide (a=b)),?_,of_bool.2 rfl⟩
 simp only [execOp,hE,uf,Sem.run_bind,run_eqGuard_agg W .eql t x y xs ys bs,Result.andThen_ok,run_eql_struct,aC,Sem.run_pure]
theorem Ex {α:Type} [ai α] [DecidableEq α] {k:Nat} {a b:α} (wY:mu c.P t α k) (ay:Nat.ble k 10000=true) (bs:c.P.eqGuardType c.P.depth t=false) (bj:ai.agg α=true) (an:a9 c E L x (.of a)) (a5:a9 c E L y (.of b)):
 bS c E L ⟨d,.binOp .neq t x y t2,ty,pos,af,g⟩ (.of (!decide (a=b))):= .pure fun A W s=>by
 have J:=an A W s
 have ad:=a5 A W s
 obtain⟨xs,hE⟩:∃ cs,A.eval x= .agg cs:=by simpa [shaped,bj] using J.1
 obtain⟨ys,uf⟩:∃ cs,A.eval y= .agg cs:=by simpa [shaped,bj] using ad.1
 have aC:=wY.run 10000 (Nat.le_of_ble_eq_true ay) _ W _ _ a b J ad
 rw [hE,uf] at aC
 refine⟨.bool (!decide (a=b)),?_,of_bool.2 rfl⟩
 simp only [execOp,hE,uf,Sem.run_bind,run_eqGuard_agg W .neq t x y xs ys bs,Result.andThen_ok,run_neq_struct,aC,Sem.run_pure]
end
theorem Na {P:Program} {W:World} {d:Nat} {xs ys:Array Value} :(Op.eqFields d xs ys []).run P W= .ok true W:=rfl
theorem u5 {P:Program} {A:List Nat} {W:World} {d:Nat} {xs ys:Array Value} {β γ:Type} [ai β] [ai γ] [DecidableEq γ] (l:aN β γ) {Kw Kx:β} {fd:Field} {fs:List Field} {k:Nat} {r:Bool} (eJ:bw P fd.type γ) (bb:fd.offset=l.off) (aO:(fd.name == "_")=false)
 (wY:mu P fd.type γ k) (hd:k≤d) (an:ai.rep A W xs.toList Kw) (a5:ai.rep A W ys.toList Kx) (aR:(Op.eqFields d xs ys fs).run P W= .ok r W):
 (Op.eqFields d xs ys (fd :: fs)).run P W= .ok (decide (l.get Kw=l.get Kx) && r) W:=by
 have sw:xs.toList.length=ai.size β:=ai.len an
 have B9:ys.toList.length=ai.size β:=ai.len a5
 have eu:=l.gv
 obtain⟨a,bj,sx⟩:=rI (A:=A) (P:=P) (W:=W) (cs:=xs) (off:=l.off) eJ (by simp at sw; omega) (l.iv an)
 obtain⟨b,hb,Ca⟩:=rI (A:=A) (P:=P) (W:=W) (cs:=ys) (off:=l.off) eJ (by simp at B9; omega) (l.iv a5)
 have sy:fd.name≠ "_" :=fun e=>by rw [e] at aO; simp at aO
 simp only [Op.eqFields,if_pos sy,Sem.run_bind,bb,bj,hb,Result.andThen_ok,wY.run d hd A W a b _ _ sx Ca]
 by_cases h:l.get Kw=l.get Kx
 ·simp [h,aR]
 ·simp [h]
theorem LO {P:Program} {t:TypeId} {β:Type} [ai β] [DecidableEq β] {k:Nat} {fs:Array Field} (bj:ai.agg β=true) (hu:P.underlying t=some (.struct fs)) (hp:P.stoodInHeld t=false)
 (h:∀ d,k≤d→ ∀ A W (xs ys:Array Value) (x y:β),ai.rep A W xs.toList x→ai.rep A W ys.toList y→ (Op.eqFields d xs ys fs.toList).run P W= .ok (decide (x=y)) W):mu P t β (k + 1) where
 run d hd A W u v x y an a5:=by
  obtain⟨d,rfl⟩:∃ e,d=e + 1:=⟨d - 1,by omega⟩
  obtain⟨xs,rfl⟩:∃ cs,u= .agg cs:=by simpa [shaped,bj] using an.1
  obtain⟨ys,rfl⟩:∃ cs,v= .agg cs:=by simpa [shaped,bj] using a5.1
  have ba:P.fieldsOf t=fs:=by simp [Program.fieldsOf,hu]
  rw [run_equalIn_struct W d t xs ys (by rw [ba]; exact hu) hp,ba]
  exact h d (by omega) A W xs ys x y (by simpa [Value.cells] using an.2) (by simpa [Value.cells] using a5.2)
theorem Lk {P:Program} {W:World} (fs:Array Field) (h:fs.all (fun f=>(P.info? f.type).isSome)=true):
 (fs.mapM (m:=Sem) fun f=>do pure (f.offset,← Go.sizeOf f.type)).run P W= .ok (fs.map fun f=>(f.offset,P.cellsOf f.type)) W:=by
 obtain⟨l⟩:=fs
 have key:∀ (l:List Field),l.all (fun f=>(P.info? f.type).isSome)=true→ (l.mapM (m:=Sem) fun f=>do pure (f.offset,← Go.sizeOf f.type)).run P W= .ok (l.map fun f=>(f.offset,P.cellsOf f.type)) W:=by
  intro l
  induction l with
  | nil=>intro _; rfl
  | cons f r bJ=>
    intro h
    simp only [List.all_cons,Bool.and_eq_true] at h
    obtain⟨i,au⟩:=Option.isSome_iff_exists.1 h.1
    rw [List.mapM_cons]
    simp only [Sem.run_bind,Go.sizeOf,typeInfo,run_program,Result.andThen_ok,au,Sem.run_pure]
    have:=bJ h.2
    simp only [Sem.run_bind,Go.sizeOf,typeInfo] at this
    rw [this]
    simp [Program.cellsOf,au]
 have c0:l.all (fun f=>(P.info? f.type).isSome)=true:=by simpa using h
 rw [List.mapM_toArray]
 simp only [Sem.run_map,key l c0,Result.andThen_ok]
 simp
theorem Ta (ds:List Value) (off:Nat):∀ (j:Nat) (cs:Array Value),off + j + ds.length≤cs.size→
 (ds.zipIdx j).foldl (fun cs (c,j)=>cs.setIfInBounds (off + j) c) cs=(cs.toList.take (off + j) ++ ds ++ cs.toList.drop (off + j + ds.length)).toArray:=by
 induction ds with
 | nil=>intro j cs _; simp
 | cons v r bJ=>
   intro j cs h
   simp only [List.length_cons] at h
   rw [List.zipIdx_cons,List.foldl_cons,bJ (j + 1) _ (by simp; omega)]
   simp only [Array.toList_setIfInBounds]
   have:=list_seg_step cs.toList (off + j) v r (by simp; omega)
   rw [show off + (j + 1)=off + j + 1 by omega]
   simp only [List.length_cons]
   rw [this]
theorem DX {place:Nat→Option (Nat × Nat)} {cs:Array Value} {i off sz:Nat} {v:Value} {rest:List (Nat × Value)} (hp:place i=some (off,sz)) (a0:v.cells.size=sz) (hle:off + sz≤cs.size):
 Instr.fill place cs ((i,v) :: rest)=Instr.fill place (fW cs.toList off v.cells.toList).toArray rest:=by
 simp only [Instr.fill,hp]
 rw [if_neg (by simp [a0]; omega)]
 have:=Ta v.cells.toList off 0 cs (by simp [a0]; omega)
 simp only [Nat.add_zero] at this
 congr 1
 rw [← Array.foldl_toList]
 have db:(v.cells.zipIdx).toList=v.cells.toList.zipIdx:=by simp
 rw [db,this]
 simp [fW]
section
variable {c:dd} {E:List (Nat × I)} {L:List aM} {ops:Array Oper} {Q:Exit→Act→World→Prop}
variable {d:Option Tmp} {ty:TypeId} {pos:String} {af:Array Edge} {g:Option (Nat × Bool)} {x y:Operand} {t t2:TypeId}
inductive qZ (c:dd) (E:List (Nat × I)) (L:List aM) (place:Nat→Option (Nat × Nat)) {β:Type} [ai β]:β→List (Nat × Operand)→β→Prop
 | nil {b} :qZ c E L place b [] b
 | cons {b dJ b':β} {γ:Type} [ai γ] {v:γ} {i:Nat} {x:Operand} {r:List (Nat × Operand)} (l:aN β γ):place i=some (l.off,ai.size γ)→a9 c E L x (.of v)→l.set b v=dJ→qZ c E L place dJ r b'→qZ c E L place b ((i,x) :: r) b'
theorem qZ.run {place:Nat→Option (Nat × Nat)} {β:Type} [ai β] {b b':β} {br:List (Nat × Operand)} (h:qZ c E L place b br b'):∀ a W,bx c E L a W→ ∀ cs:Array Value,ai.rep (aQ L ++ c.bT) W cs.toList b→
 ∃ dS,Instr.fill place cs (br.map fun(i,x)=>(i,a.eval x))=some dS∧ai.rep (aQ L ++ c.bT) W dS.toList b':=by
 induction h with
 | nil=>intro a W s cs aR; exact⟨cs,rfl,aR⟩
 | @cons b dJ b' γ _ v i x r l J ad aC _ bJ=>
   intro a W s cs aR
   subst aC
   have a0:=ad a W s
   have eE:(a.eval x).cells.size=ai.size γ:=by have:=ai.len a0.2; simpa using this
   have ao:cs.toList.length=ai.size β:=ai.len aR
   have eu:=l.gv
   rw [List.map_cons,DX J eE (by simp at ao; omega)]
   refine bJ a W s _ ?_
   have:=l.lj aR a0.2
   simpa [fW,ai.len a0.2] using this
structure hO (P:Program) (t:TypeId) (pl:Array (Nat × Nat)):Prop where
 at_:∃ fs,P.underlying t=some (.struct fs)∧fs.all (fun f=>(P.info? f.type).isSome)=true∧ (fs.map fun f=>(f.offset,P.cellsOf f.type))=pl
theorem c3 {β:Type} [ai β] {z b:β} {br:List (Nat × Operand)} {pl:Array (Nat × Nat)} (bj:ai.agg β=true) (CH:hO c.P t pl) (gL:cF c.P t z)
 (ba:qZ c E L (pl[·]?) z br b):bS c E L ⟨d,.build t br.toArray,ty,pos,af,g⟩ (.of b):= .pure fun a W s=>by
 obtain⟨fs,hu,hs,rfl⟩:=CH.at_
 obtain⟨i,ee,J,ad,aC⟩:=gL.zero
 obtain⟨dS,aU,a1⟩:=ba.run a W s ee.cells (aC _ _).2
 refine⟨.agg dS,?_,by simp [shaped,bj],by simpa [Value.cells] using a1⟩
 have hm:(br.toArray.map fun(x:Nat × Operand)=>(x.1,a.eval x.2)).toList=br.map fun(i,x)=>(i,a.eval x):=by simp
 simp only [execOp,Instr.build,Sem.run_bind,zeroValue,typeInfo,run_program,Result.andThen_ok,J,ad,Sem.run_pure,run_underlying hu,Lk fs hs]
 rw [hm,aU]
 rfl
theorem UD {β:Type} [ai β] {z b:β} {br:List (Nat × Operand)} {n e sz:Nat} (bj:ai.agg β=true) (hu:c.P.underlying t=some (.array n e)) (hs:(c.P.info? e).map (·.size)=some sz) (gL:cF c.P t z)
 (ba:qZ c E L (fun i=>some (i * sz,sz)) z br b):bS c E L ⟨d,.build t br.toArray,ty,pos,af,g⟩ (.of b):= .pure fun a W s=>by
 obtain⟨i,ee,J,ad,aC⟩:=gL.zero
 obtain⟨fZ,eo,eE⟩:∃ fZ,c.P.info? e=some fZ∧fZ.size=sz:=by
  cases au:c.P.info? e with
  | none=>simp [au] at hs
  | some fZ=>exact⟨fZ,rfl,by simpa [au] using hs⟩
 obtain⟨dS,aU,a1⟩:=ba.run a W s ee.cells (aC _ _).2
 refine⟨.agg dS,?_,by simp [shaped,bj],by simpa [Value.cells] using a1⟩
 have hm:(br.toArray.map fun(x:Nat × Operand)=>(x.1,a.eval x.2)).toList=br.map fun(i,x)=>(i,a.eval x):=by simp
 simp only [execOp,Instr.build,Sem.run_bind,zeroValue,typeInfo,run_program,Result.andThen_ok,J,ad,Sem.run_pure,run_underlying hu,Go.sizeOf,eo,eE]
 rw [hm,aU]
 rfl
end
def og {α:Type} [ai α] (A:List Nat) (W:World) (v:Value) (xs:List α):Prop:=
 (v= .slice none 0 0∧xs= [])∨
 ∃ b off cap cur T gX,v= .slice (some ⟨b,off,none⟩) xs.length cap∧b ∉ A∧W.heap[b]? =some (.cells cur T gX)∧xs.length≤cap∧xs.length≤maxLen∧off + xs.length * ai.size α≤cur.size∧
   gC A W ((cur.toList.drop off).take (xs.length * ai.size α)) xs
theorem og.mono {α:Type} [ai α] {A W c5 W' v} {xs:List α} (e:Ext A W c5 W') (h:og A W v xs):og c5 W' v xs:=by
 rcases h with h | ⟨b,off,cap,cur,T,gX,J,ad,aC,aU,a1,bk,cT⟩
 ·exact .inl h
 ·have b5:b < W.heap.size:=(Array.getElem?_eq_some_iff.1 aC).1
  exact .inr ⟨b,off,cap,cur,T,gX,J,fun hm=>ad (e.new b hm b5),by rw [e.block b b5 ad]; exact aC,aU,a1,bk,cT.mono e⟩
instance acj {α:Type} [ai α]:ai (List α) where
 size:=1
 agg:=false
 rep A W cs xs:= ∃ v,cs= [v]∧og A W v xs
 len h:=by obtain⟨v,rfl,_⟩:=h; rfl
 one h:=by
  obtain⟨v,rfl,h⟩:=h
  intro u hu
  rw [List.mem_singleton.1 hu]
  rcases h with⟨rfl,_⟩ | ⟨b,off,cap,cur,T,gX,rfl,_⟩ <;> rfl
 flat _:=rfl
 mono e h:=let⟨v,J,ad⟩:=h; ⟨v,J,ad.mono e⟩
theorem og.one {α:Type} [ai α] {A W v} {xs:List α} (h:og A W v xs):v.oneCell'=true:=by
 rcases h with⟨rfl,_⟩ | ⟨b,off,cap,cur,T,gX,rfl,_⟩ <;> rfl
theorem m8 {α:Type} [ai α] {A W v} {xs:List α} :(I.of xs).holds A W v↔og A W v xs:=by
 constructor
 ·rintro ⟨J,u,ad,aC⟩
  have:v=u:=oq J ad
  rw [this]; exact aC
 ·intro h
  exact⟨h.one,v,by rw [ot h.one],h⟩
def aE {α:Type} [Inhabited α] (xs:List α) (k:Nat):α:=xs[k]?.getD default
theorem ew {α:Type} [Inhabited α] (xs:List α) {k:Nat} (h:k < xs.length):aE xs k=xs[k]:=by simp [aE,h]
def vl {α:Type} (xs:List α) (lo au:Int):Option (List α):=if 0≤lo∧lo≤au∧au≤xs.length then some ((xs.drop lo.toNat).take (au.toNat - lo.toNat)) else none
theorem Tb {α:Type} {xs r:List α} {lo au:Int} (h:vl xs lo au=some r):∃ a b:Nat,lo=a∧au=b∧a≤b∧b≤xs.length∧r=(xs.drop a).take (b - a):=by
 unfold vl at h
 split at h
 ·rename_i ak
  simp only [Option.some.injEq] at h
  exact⟨lo.toNat,au.toNat,by omega,by omega,by omega,by omega,h.symm⟩
 ·cases h
def hA {α:Type} (bytes:Nat) (xs ys:List α):Option (List α):=if (xs.length + ys.length) * bytes≤140737488355328∧xs.length + ys.length≤maxLen then some (xs ++ ys) else none
theorem L7 {α:Type} {bytes:Nat} {xs ys r:List α} (h:hA bytes xs ys=some r):(xs.length + ys.length) * bytes≤140737488355328∧xs.length + ys.length≤maxLen∧r=xs ++ ys:=by
 unfold hA at h
 split at h
 ·rename_i ak; simp only [Option.some.injEq] at h; exact⟨ak.1,ak.2,h.symm⟩
 ·cases h
section
variable {c:dd} {E:List (Nat × I)} {L:List aM} {ops:Array Oper} {Q:Exit→Act→World→Prop}
variable {d:Option Tmp} {ty:TypeId} {pos:String} {af:Array Edge} {g:Option (Nat × Bool)} {x y:Operand} {t t2:TypeId}
theorem look_nil {α:Type} [ai α]:a9 c E L (.const (.slice none 0 0)) (.of ([]:List α)):=fun _ _ _=>m8.2 (.inl ⟨rfl,rfl⟩)
theorem og.len {α:Type} [ai α] {A W v} {xs:List α} (h:og A W v xs):∃ a cap,v= .slice a xs.length cap:=by
 rcases h with⟨rfl,rfl⟩ | ⟨b,off,cap,cur,T,gX,rfl,_⟩
 ·exact⟨none,0,rfl⟩
 ·exact⟨_,_,rfl⟩
theorem eK {α:Type} [ai α] {xs:List α} {e:TypeId} (hu:c.P.underlying t=some (.slice e)) (an:a9 c E L x (.of xs)):bS c E L ⟨d,.call ⟨.builtin .len,#[x],#[t]⟩,ty,pos,af,g⟩ (.of (xs.length:Int)):= .pure fun a W s=>by
 obtain⟨b,cap,J⟩:=(m8.1 (an a W s)).len
 exact⟨.int .i64 xs.length,by simp [execOp,resolve,invoke,builtin,Builtin.len_,J,run_underlying hu,goInt],of_int.2 rfl⟩
theorem qU {α:Type} [ai α] [Inhabited α] {xs:List α} {e:TypeId} {i:Int} {k:Nat} (hu:c.P.underlying t=some (.slice e)) (eJ:bw c.P e α) (an:a9 c E L x (.of xs)) (a5:a9 c E L y (.of i)) (ay:k < xs.length∧i=k):
 bS c E L ⟨d,.indexAddr t x y,ty,pos,af,g⟩ (.ptr (aE xs k)):= .pure fun a W s=>by
 obtain⟨bk,rfl⟩:=ay
 have a1:=of_int.1 (a5 a W s)
 rcases m8.1 (an a W s) with⟨_,rfl⟩ | ⟨b,off,cap,cur,T,gX,J,ad,aC,aU,cT,fa,fX⟩
 ·simp at bk
 ·obtain⟨fZ,eo,eE⟩:=eJ.info
  have hle:(k + 1) * ai.size α≤xs.length * ai.size α:=Nat.mul_le_mul_right _ bk
  rw [Nat.succ_mul] at hle
  refine⟨.pointer (some ⟨b,off + k * ai.size α,none⟩),?_,b,off + k * ai.size α,cur,T,gX,rfl,ad,aC,by omega,?_⟩
  ·simp [execOp,Instr.indexAt,asIntOf,run_underlying hu,J,a1,bk,Go.sizeOf,typeInfo,eo,eE,jb]
  ·have:=fX.2 k bk
   rw [uO _ _ _ _ _ hle] at this
   rw [ew xs bk]
   exact this
theorem o3 {P:Program} {W:World} {v:Value} {k:IntKind} {n m:Nat} {code:BoundsCode} (h:n≤m) (a0:v= .int k n):(Instr.sliceBound v m code).run P W= .ok n W:=by
 subst a0
 have bI:(n:Int)≤ (m:Int):=by omega
 simp [Instr.sliceBound,asIntOf,h]
theorem Vy {α:Type} [ai α] {A W} {xs:List α} {b off cap:Nat} {cur:Array Value} {T:TypeId} {gX:Nat × Nat} {lo au:Nat} (ad:b ∉ A) (aC:W.heap[b]? =some (.cells cur T gX)) (aU:xs.length≤cap) (cT:xs.length≤maxLen)
 (fa:off + xs.length * ai.size α≤cur.size) (fX:gC A W ((cur.toList.drop off).take (xs.length * ai.size α)) xs) (h:lo≤au) (c0:au≤xs.length):
 og A W (.slice (some (if cap=lo then⟨b,off,none⟩ else⟨b,off + lo * ai.size α,none⟩)) (au - lo) (cap - lo)) ((xs.drop lo).take (au - lo)):=by
 have ao:((xs.drop lo).take (au - lo)).length=au - lo:=by simp; omega
 have hm:au * ai.size α≤xs.length * ai.size α:=Nat.mul_le_mul_right _ c0
 have mT:lo * ai.size α≤au * ai.size α:=Nat.mul_le_mul_right _ h
 have hd:(au - lo) * ai.size α=au * ai.size α - lo * ai.size α:=Nat.sub_mul _ _ _
 by_cases e:cap=lo
 ·subst e
  have bI:au=cap:=by omega
  subst bI
  refine .inr ⟨b,off,au - au,cur,T,gX,by simp,ad,aC,by simp,by simp,by simp; omega,?_⟩
  simp only [Nat.sub_self,List.take_zero,List.length_nil,Nat.zero_mul]
  exact⟨by simp,fun i au=>by simp at au⟩
 ·rw [if_neg e]
  refine .inr ⟨b,off + lo * ai.size α,cap - lo,cur,T,gX,by rw [ao],ad,aC,by omega,by omega,by rw [ao]; omega,?_⟩
  rw [ao]
  refine⟨by simp only [ao,List.length_take,List.length_drop]; simp; omega,fun i gR=> ?_⟩
  rw [ao] at gR
  have kG:=fX.2 (lo + i) (by omega)
  have hle:(lo + i + 1) * ai.size α≤xs.length * ai.size α:=Nat.mul_le_mul_right _ (by omega)
  have E5:(i + 1) * ai.size α≤ (au - lo) * ai.size α:=Nat.mul_le_mul_right _ (by omega)
  rw [Nat.succ_mul] at hle E5
  rw [uO _ _ _ _ _ hle] at kG
  rw [uO _ _ _ _ _ E5]
  have:((xs.drop lo).take (au - lo))[i]'(by rw [ao]; exact gR)=xs[lo + i]:=by simp
  rw [this]
  rw [show off + lo * ai.size α + i * ai.size α=off + (lo + i) * ai.size α by rw [Nat.add_mul]; omega]
  exact kG
inductive uv (c:dd) (E:List (Nat × I)) (L:List aM):Option Operand→Int→Int→Prop
 | none {n} :uv c E L .none n n
 | some {x i n} :a9 c E L x (.of (i:Int))→uv c E L (.some x) i n
theorem MW {α:Type} [ai α] {xs r:List α} {e:TypeId} {lo au:Option Operand} {i j:Int} (hu:c.P.underlying t=some (.slice e)) (eJ:bw c.P e α) (an:a9 c E L x (.of xs)) (fU:uv c E L lo i 0) (dr:uv c E L au j xs.length)
 (h:vl xs i j=some r):bS c E L ⟨d,.slice t x lo au none,ty,pos,af,g⟩ (.of r):= .pure fun a W s=>by
 obtain⟨m,n,rfl,rfl,q6,aO,rfl⟩:=Tb h
 obtain⟨fZ,eo,eE⟩:=eJ.info
 rcases m8.1 (an a W s) with⟨J,rfl⟩ | ⟨b,off,cap,cur,T,gX,J,ad,aC,aU,cT,fa,fX⟩
 ·have ra:n=0:=by simpa using aO
  have gI:m=0:=by omega
  subst ra
  subst gI
  refine⟨.slice none 0 0,?_,m8.2 (.inl ⟨rfl,by simp⟩)⟩
  have al:(match lo.map a.eval with | some v=>Instr.sliceBound v 0 .sliceB | none=>pure 0:Sem Nat).run c.P W= .ok 0 W:=by
   cases fU with
   | none=>rfl
   | some ao=>exact o3 (Nat.le_refl _) (of_int.1 (ao a W s))
  have jI:(match au.map a.eval,(none:Option Value) with | some v,some _=>Instr.sliceBound v 0 .slice3B | some v,none=>Instr.sliceBound v 0 .sliceAcap | none,none=>pure 0 | none,some _=>stuck "Slice: max without high" :Sem Nat).run c.P W= .ok 0 W:=by
   cases dr with
   | none=>rfl
   | some ao=>exact o3 (Nat.le_refl _) (of_int.1 (ao a W s))
  cases fU <;> cases dr
  all_goals
   simp only [execOp,Instr.sliceAt,Instr.slice,Instr.sliceBounds,J,Sem.run_bind,run_underlying hu,Result.andThen_ok,Option.map_none,Option.map_some,Option.isSome_none,Bool.false_eq_true,if_false,if_true,Sem.run_pure] at al jI ⊢
   try simp only [al,jI,Result.andThen_ok,Go.sizeOf,typeInfo,Sem.run_bind,run_program,eo,Sem.run_pure]
   try simp [eo]
 ·refine⟨.slice (some (if cap=m then⟨b,off,none⟩ else⟨b,off + m * ai.size α,none⟩)) (n - m) (cap - m),?_,m8.2 (Vy ad aC aU cT fa fX q6 aO)⟩
  have al:∀ v,v=Value.int .i64 m→ (Instr.sliceBound v n .sliceB).run c.P W= .ok m W:=fun v a0=>o3 q6 a0
  have jI:∀ v,v=Value.int .i64 n→ (Instr.sliceBound v cap .sliceAcap).run c.P W= .ok n W:=fun v a0=>o3 (by omega) a0
  have BG:(if cap=m then(some ⟨b,off,none⟩:Option Addr) else(some (Addr.add ⟨b,off,none⟩ (m * ai.size α))))=some (if cap=m then⟨b,off,none⟩ else⟨b,off + m * ai.size α,none⟩):=by
   split <;> simp [jb]
  generalize eu:(n:Int)=QM at dr
  generalize Cc:(m:Int)=QN at fU
  generalize Cd:(xs.length:Int)=QO at dr
  generalize Qg:(0:Int)=QP at fU
  cases fU with
  | none=>
    have gI:m=0:=by omega
    cases dr with
    | none=>
      have k6:n=xs.length:=by omega
      subst k6
      subst gI
      simp [execOp,Instr.sliceAt,Instr.slice,Instr.sliceBounds,J,run_underlying hu,Go.sizeOf,typeInfo,eo,eE,jb]
    | some ao=>
      have a1:=of_int.1 (ao a W s)
      rw [← eu] at a1
      have bk:=jI _ a1
      subst gI
      simp [execOp,Instr.sliceAt,Instr.slice,Instr.sliceBounds,J,run_underlying hu,Go.sizeOf,typeInfo,eo,eE,jb,bk]
  | some ao=>
    have a1:=of_int.1 (ao a W s)
    rw [← Cc] at a1
    have bk:=al _ a1
    cases dr with
    | none=>
      have k6:n=xs.length:=by omega
      subst k6
      simp only [execOp,Instr.sliceAt,Instr.slice,Instr.sliceBounds,J,Sem.run_bind,run_underlying hu,Result.andThen_ok,Option.map_none,Option.map_some,Option.isSome_none,Bool.false_eq_true,if_false,if_true,Sem.run_pure,bk,Go.sizeOf,typeInfo,run_program,eo,eE]
      rw [← BG]
    | some kh=>
      have Qh:=of_int.1 (kh a W s)
      rw [← eu] at Qh
      have aaL:=jI _ Qh
      simp only [execOp,Instr.sliceAt,Instr.slice,Instr.sliceBounds,J,Sem.run_bind,run_underlying hu,Result.andThen_ok,Option.map_none,Option.map_some,Option.isSome_none,Bool.false_eq_true,if_false,if_true,Sem.run_pure,bk,aaL,Go.sizeOf,typeInfo,run_program,eo,eE]
      rw [← BG]
end
def a2:Option Nat→Nat→Nat→Value
 | some p,n,cap=> .slice (some ⟨p,0,none⟩) n cap
 | none,_,_=> .slice none 0 0
theorem Tc {L:List aM} {i:Nat} {cp:dB} :∀ k∈aQ (L.set i ⟨none,cp⟩),∃ j e,j≠i∧L[j]? =some e∧e.key=some k:=by
 intro k ay
 obtain⟨e,he,uc⟩:=ln.1 ay
 obtain⟨j,aH⟩:=List.mem_iff_getElem?.1 he
 rw [List.getElem?_set] at aH
 split at aH
 ·split at aH
  ·simp only [Option.some.injEq] at aH; subst aH; cases uc
  ·cases aH
 ·rename_i c6
  exact⟨j,e,fun h=>c6 h.symm,aH,uc⟩
theorem xA {L:List aM} {i:Nat} {cp:dB} :aQ (L.set i ⟨none,cp⟩) |>.Sublist (aQ L):=by
 induction L generalizing i with
 | nil=>simp [aQ]
 | cons x r bJ=>
   cases i with
   | zero=>
     cases ay:x.key with
     | none=>simp [aQ,ay]
     | some p=>simp [aQ,ay]
   | succ i=>
     cases ay:x.key with
     | none=>simpa [aQ,ay] using bJ
     | some p=>simpa [aQ,ay] using bJ
theorem bx.kill {c E L a W} (h:bx c E L a W) (i:Nat):bx c E (L.set i ⟨none,.dead⟩) a W:=by
 have kZ:=xA (L:=L) (i:=i) (cp:= .dead)
 have ay:∀ k∈aQ (L.set i ⟨none,.dead⟩),k∈aQ L:=fun k ay=>kZ.subset ay
 have hg:Ext (aQ L ++ c.bT) W (aQ (L.set i ⟨none,.dead⟩) ++ c.bT) W:= .drop fun k hm=>by
  rcases List.mem_append.1 hm with hm | hm
  ·exact List.mem_append.2 (.inl (ay k hm))
  ·exact List.mem_append.2 (.inr hm)
 exact
 {defers:=h.defers
  size:=h.size
  env:=fun t τ ao=>let⟨v,J,ad⟩:=h.env t τ ao; ⟨v,J,τ.mono hg ad⟩
  dG:=h.dG
  own:=fun e he=>by
   obtain⟨j,aH⟩:=List.mem_iff_getElem?.1 he
   rw [List.getElem?_set] at aH
   split at aH
   ·split at aH
    ·simp only [Option.some.injEq] at aH; subst aH; trivial
    ·cases aH
   ·have J:=h.own e (List.mem_of_getElem? aH)
    unfold aM.ok at *
    split at J
    ·obtain⟨o',bb,b3⟩:=J
     exact⟨o',bb,dB.mono _ hg b3⟩
    ·exact J
  nodup:=h.nodup.sublist kZ
  lt:=fun k hm=>h.lt k (ay k hm)
  fR:=fun k hm=>h.fR k (ay k hm)
  eW:=fun k hm=>⟨(h.eW k hm).1,fun ad=>(h.eW k hm).2 (ay k ad)⟩ }
theorem bx.AB {c E L a W} (h:bx c E L a W) {i p:Nat} {cp:dB} (au:L[i]? =some ⟨some p,cp⟩):p ∉ aQ (L.set i ⟨none,.dead⟩) ++ c.bT:=by
 intro hm
 rcases List.mem_append.1 hm with hm | hm
 ·obtain⟨j,e,c6,aH,uc⟩:=Tc p hm
  exact c6 (H2 h.nodup aH au uc rfl)
 ·exact(h.eW p hm).2 (ln.2 ⟨_,List.mem_of_getElem? au,rfl⟩)
theorem GS {α:Type} [ai α] {A W} {cs:Array Value} {xs:List α} {cap:Nat} (h:cs.size=cap * ai.size α) (aO:xs.length≤cap) (aR:gC A W (cs.toList.take (xs.length * ai.size α)) xs):
 0 + xs.length * ai.size α≤cs.size∧gC A W ((cs.toList.drop 0).take (xs.length * ai.size α)) xs:=by
 refine⟨?_,by simpa using aR⟩
 rw [h,Nat.zero_add]; exact Nat.mul_le_mul_right _ aO
section
variable {c:dd} {E:List (Nat × I)} {L:List aM} {ops:Array Oper} {Q:Exit→Act→World→Prop}
variable {d:Option Tmp} {ty:TypeId} {pos:String} {af:Array Edge} {g:Option (Nat × Bool)} {x y:Operand} {t t2:TypeId}
theorem bx.freeze {a:Act} {W:World} {α:Type} [ai α] {i s cap T:Nat} {key:Option Nat} {xs:List α} (h:bx c E L a W) (ao:look E s=some (.eq (a2 key xs.length cap))) (al:L[i]? =some ⟨key,.row T xs cap⟩):
 bx c ((s,.of xs) :: E) (L.set i ⟨none,.dead⟩) a W:=by
 have ay:=h.kill i
 refine { ay with env:=fun t τ e1=> ?_ }
 simp only [look] at e1
 by_cases e:Nat.beq s t=true
 ·rw [e] at e1
  simp only [cond_true,Option.some.injEq] at e1
  subst e1
  have:=eh.1 e
  subst this
  obtain⟨v,J,ad⟩:=h.env s _ ao
  refine⟨v,J,m8.2 ?_⟩
  have kj:v=a2 key xs.length cap:=ad
  subst kj
  have bb:=h.own _ (List.mem_of_getElem? al)
  cases key with
  | none=>exact .inl ⟨rfl,bb.1⟩
  | some p=>
    obtain⟨o,eG,cs,rfl,eE,aO,wi,aR⟩:=bb
    obtain⟨aC,aU⟩:=GS eE aO aR
    refine .inr ⟨p,0,cap,cs,T,(0,0),rfl,h.AB al,eG,aO,by omega,aC,?_⟩
    have kZ:=xA (L:=L) (i:=i) (cp:= .dead)
    exact aU.mono (.drop fun k hm=>by
     rcases List.mem_append.1 hm with hm | hm
     ·exact List.mem_append.2 (.inl (kZ.subset hm))
     ·exact List.mem_append.2 (.inr hm))
 ·simp only [Bool.not_eq_true] at e
  rw [e] at e1
  exact ay.env t τ e1
theorem ah.freeze {l:List Oper} {α:Type} [ai α] {key:Option Nat} {xs:List α} {cap T:Nat} (i s:Nat) (ao:look E s=some (.eq (a2 key xs.length cap))) (al:L[i]? =some ⟨key,.row T xs cap⟩)
 (k:ah c ops Q l ((s,.of xs) :: E) (L.set i ⟨none,.dead⟩)):ah c ops Q l E L:=fun a W st=>k a W (st.freeze ao al)
theorem ae.freeze {x:Exit} {α:Type} [ai α] {key:Option Nat} {xs:List α} {cap T:Nat} (i s:Nat) (ao:look E s=some (.eq (a2 key xs.length cap))) (al:L[i]? =some ⟨key,.row T xs cap⟩)
 (k:ae c Q x ((s,.of xs) :: E) (L.set i ⟨none,.dead⟩)):ae c Q x E L:=fun a W st=>k a W (st.freeze ao al)
theorem ag.freeze {code:Code} {α:Type} [ai α] {key:Option Nat} {xs:List α} {cap T:Nat} (i s:Nat) (ao:look E s=some (.eq (a2 key xs.length cap))) (al:L[i]? =some ⟨key,.row T xs cap⟩)
 (k:ag c Q code ((s,.of xs) :: E) (L.set i ⟨none,.dead⟩)):ag c Q code E L:=fun a W st=>k a W (st.freeze ao al)
theorem bx.Wl {a:Act} {W:World} {α:Type} [ai α] (T:TypeId) (h:bx c E L a W):bx c E (⟨none,.row T ([]:List α) 0⟩ :: L) a W:=
 {h with
  own:=fun e he=>by
   rcases List.mem_cons.1 he with rfl | he
   ·exact⟨rfl,rfl⟩
   ·exact h.own e he }
theorem ah.own {l:List Oper} {α:Type} [ai α] (T:TypeId) (k:ah c ops Q l E (⟨none,.row T ([]:List α) 0⟩ :: L)):ah c ops Q l E L:=fun a W st=>k a W (st.Wl T)
theorem rG:a9 c E L (.const (.slice none 0 0)) (.eq (a2 none 0 0)):=fun _ _ _=>rfl
theorem pL {key:Option Nat} {n cap:Nat} {e i T:Nat} {α:Type} [ai α] {xs:List α} (hu:c.P.underlying t=some (.slice e)) (an:a9 c E L x (.eq (a2 key n cap))) (aO:n=xs.length) (al:L[i]? =some ⟨key,.row T xs cap⟩):bS c E L ⟨d,.call ⟨.builtin .len,#[x],#[t]⟩,ty,pos,af,g⟩ (.of (n:Int)):= .pure fun a W s=>by
 subst aO
 have J:a.eval x=_:=an a W s
 have bb:=s.own _ (List.mem_of_getElem? al)
 cases key with
 | none=>
   have:xs= []:=bb.1
   subst this
   exact⟨.int .i64 0,by simp [execOp,resolve,invoke,builtin,Builtin.len_,J,a2,run_underlying hu,goInt],of_int.2 rfl⟩
 | some p=>exact⟨.int .i64 xs.length,by simp [execOp,resolve,invoke,builtin,Builtin.len_,J,a2,run_underlying hu,goInt],of_int.2 rfl⟩
theorem gC.one {α:Type} [ai α] {A W} {cs:List Value} {xs:List α} (h:gC A W cs xs):∀ u∈cs,u.oneCell'=true:=by
 intro u hu
 obtain⟨j,aH⟩:=List.mem_iff_getElem?.1 hu
 have b5:=(List.getElem?_eq_some_iff.1 aH).1
 have J:=h.1
 by_cases hs:ai.size α=0
 ·rw [hs,Nat.mul_zero] at J; omega
 ·have hp:0 < ai.size α:=Nat.pos_of_ne_zero hs
  have au:j / ai.size α < _:=(Nat.div_lt_iff_lt_mul hp).2 (by rw [J] at b5; exact b5)
  refine ai.one (h.2 _ au) u (List.mem_iff_getElem?.2 ⟨j % ai.size α,?_⟩)
  rw [List.getElem?_take,if_pos (Nat.mod_lt _ hp),List.getElem?_drop,Nat.mul_comm,Nat.div_add_mod]
  exact aH
theorem ta {α:Type} [ai α] {A W} {cs ds:List Value} {xs ys:List α} (h:gC A W cs xs) (c0:gC A W ds ys):gC A W (cs ++ ds) (xs ++ ys):=by
 refine⟨by rw [List.length_append,h.1,c0.1,List.length_append,Nat.add_mul],fun i au=> ?_⟩
 rw [List.length_append] at au
 by_cases b5:i < xs.length
 ·have J:=h.2 i b5
  have hle:(i + 1) * ai.size α≤xs.length * ai.size α:=Nat.mul_le_mul_right _ b5
  rw [Nat.succ_mul] at hle
  have mv:=h.1
  rw [List.drop_append_of_le_length (by omega),List.take_append_of_le_length (by simp; omega)]
  rw [List.getElem_append_left b5]
  exact J
 ·have J:=c0.2 (i - xs.length) (by omega)
  have e:i * ai.size α=cs.length + (i - xs.length) * ai.size α:=by
   rw [h.1,← Nat.add_mul]; congr 1; omega
  rw [e,List.drop_append,List.drop_of_length_le (by omega),List.nil_append,show cs.length + (i - xs.length) * ai.size α - cs.length=(i - xs.length) * ai.size α by omega]
  rw [List.getElem_append_right (by omega)]
  exact J
theorem og.cells {α:Type} [ai α] {A W v} {ys:List α} (h:og A W v ys):
 (v= .slice none 0 0∧ys= [])∨ ∃ (b off cap:Nat) (news:List Value),v= .slice (some ⟨b,off,none⟩) ys.length cap∧news.length=ys.length * ai.size α∧ (∀ (j:Nat) (u:Value),news[j]? =some u→W.cell? ((⟨b,off,none⟩:Addr).add j)=some u)∧
  (∀ u∈news,u.oneCell'=true)∧gC A W news ys:=by
 rcases h with h | ⟨b,off,cap,cur,T,gX,J,ad,aC,aU,a1,bk,cT⟩
 ·exact .inl h
 ·refine .inr ⟨b,off,cap,_,J,cT.1,fun j u hu=> ?_,fun u hu=> ?_,cT⟩
  ·rw [List.getElem?_take] at hu
   split at hu
   ·rw [jb,cell_of_row W b (off + j) cur T gX aC]
    rw [List.getElem?_drop] at hu
    simpa using hu
   ·cases hu
  ·exact cT.one u hu
theorem bx.grow {a:Act} {W:World} (h:bx c E L a W) {i:Nat} {iZ:aM} (au:L[i]? =some iZ) {o:Obj} {cp:dB} (ak:cp.holds (aQ L ++ c.bT) W o):
 bx c E (L.set i ⟨some W.heap.size,cp⟩) a (W.alloc o):=by
 have J:=h.alloc ak
 refine J.sub (fun e he=> ?_) ?_
 ·obtain⟨j,aH⟩:=List.mem_iff_getElem?.1 he
  rw [List.getElem?_set] at aH
  split at aH
  ·split at aH
   ·simp only [Option.some.injEq] at aH; subst aH; simp
   ·cases aH
  ·exact List.mem_cons_of_mem _ (List.mem_of_getElem? aH)
 ·have v7:W.heap.size ∉ aQ L:=fun hm=>Nat.lt_irrefl _ (h.lt _ hm)
  have key:∀ (L:List aM) (i:Nat) (q:Nat),q ∉ aQ L→ (aQ L).Nodup→ (aQ (L.set i ⟨some q,cp⟩)).Nodup∧ ∀ k∈aQ (L.set i ⟨some q,cp⟩),k=q∨k∈aQ L:=by
   intro L
   induction L with
   | nil=>intro i q _ aO; exact⟨by simpa using aO,by simp [aQ]⟩
   | cons x r bJ=>
     intro i q hq aO
     cases an:x.key with
     | none=>
       have iA:q ∉ aQ r:=by simpa [aQ,an] using hq
       have sy:(aQ r).Nodup:=by simpa [aQ,an] using aO
       cases i with
       | zero=>exact⟨by simp only [List.set_cons_zero,aQ]; exact List.nodup_cons.2 ⟨iA,sy⟩,fun k ay=>by
        simp only [List.set_cons_zero,aQ,List.mem_cons] at ay; rcases ay with rfl | ay
        ·exact .inl rfl
        ·exact .inr (by simpa [aQ,an] using ay)⟩
       | succ i=>
         obtain⟨J,ad⟩:=bJ i q iA sy
         exact⟨by simpa [aQ,an] using J,fun k ay=>by have:=ad k (by simpa [aQ,an] using ay); simpa [aQ,an] using this⟩
     | some p=>
       simp only [aQ,an,List.mem_cons,not_or] at hq
       simp only [aQ,an] at aO
       obtain⟨hp,sy⟩:=List.nodup_cons.1 aO
       cases i with
       | zero=>exact⟨by simp only [List.set_cons_zero,aQ]; exact List.nodup_cons.2 ⟨hq.2,sy⟩,fun k ay=>by
        simp only [List.set_cons_zero,aQ,List.mem_cons] at ay; rcases ay with rfl | ay
        ·exact .inl rfl
        ·exact .inr (by simp [aQ,an,ay])⟩
       | succ i=>
         obtain⟨J,ad⟩:=bJ i q hq.2 sy
         refine⟨?_,fun k ay=> ?_⟩
         ·simp only [List.set_cons_succ,aQ,an]
          refine List.nodup_cons.2 ⟨fun hm=> ?_,J⟩
          rcases ad p hm with e | pr
          ·exact hq.1 e.symm
          ·exact hp pr
         ·simp only [List.set_cons_succ,aQ,an,List.mem_cons] at ay
          rcases ay with rfl | ay
          ·exact .inr (by simp [aQ,an])
          ·rcases ad k ay with e | pr
           ·exact .inl e
           ·exact .inr (by simp [aQ,an,pr])
  exact(key L i _ v7 h.nodup).1
theorem HE {α:Type} [ai α] {A W} {cs ds:List Value} {xs:List α} {T cap:Nat} (h:gC A W cs xs) (db:ds.length=(cap - xs.length) * ai.size α) (aO:xs.length≤cap) (hm:cap≤maxLen) {arr:Array Value} (bj:arr.toList=cs ++ ds):
 (dB.row T xs cap).holds A W (.cells arr T (0,0)):=by
 refine⟨arr,rfl,?_,aO,hm,?_⟩
 ·have:arr.size=(cs ++ ds).length:=by rw [← bj]; simp
  rw [this,List.length_append,h.1,db,← Nat.add_mul]; congr 1; omega
 ·rw [bj,← h.1,List.take_left]; exact h
theorem ah.app {α:Type} [ai α] {rest:List Oper} {a7 i e bytes cap:Nat} {key:Option Nat} {xs ys r:List α} {z:α} (hu:c.P.underlying t=some (.slice e)) (eJ:bw c.P e α) (gL:cF c.P e z)
 (wB:(c.P.info? e).map (·.bytes)=some bytes) (hs:a9 c E L x (.eq (a2 key xs.length cap))) (al:L[i]? =some ⟨key,.row e xs cap⟩) (a5:a9 c E L y (.of ys)) (h:hA bytes xs ys=some r) (aO:Nat.blt a7 c.n=true)
 (k:∀ pZ cap',ah c ops Q rest ((a7,.eq (a2 pZ r.length cap')) :: E) (L.set i ⟨pZ,.row e r cap'⟩)):
 ah c ops Q (⟨some a7,.call ⟨.builtin .append,#[x,y],#[t,t]⟩,ty,pos,af,none⟩ :: rest) E L:=fun a W s=>by
 obtain⟨mq,lB,rfl⟩:=L7 h
 obtain⟨fZ,ee,eo,db,rb⟩:=gL.zero
 have ng:fZ.size=ai.size α:=by
  obtain⟨i2,J,ad⟩:=eJ.info
  rw [eo] at J; cases J; exact ad
 have H3:fZ.bytes=bytes:=by simpa [eo] using wB
 have wC:ee.cells.size=ai.size α:=by have:=ai.len (rb [] W).2; simpa using this
 subst H3
 have J:a.eval x=_:=hs a W s
 have bb:=s.own _ (List.mem_of_getElem? al)
 have kM:a7 < c.n:=by simpa using aO
 have uu:=(m8.1 (a5 a W s)).cells
 have mT:maxLen=9223372036854775807:=rfl
 have main:∃ pZ cap' W',(Builtin.append_ #[t,t] ty #[a.eval x,a.eval y]).run c.P W= .ok (a2 pZ (xs ++ ys).length cap') W'∧bx c E (L.set i ⟨pZ,.row e (xs ++ ys) cap'⟩) a W':=by
  cases key with
  | none=>
    obtain⟨Fy,wD⟩:xs= []∧cap=0:=bb
    subst Fy
    subst wD
    have yj:L.set i ⟨none,.row e ([]:List α) 0⟩=L:=by
     obtain⟨b5,he⟩:=List.getElem?_eq_some_iff.1 al
     rw [← he]; exact List.set_getElem_self b5
    rcases uu with⟨a0,rfl⟩ | ⟨b,off,cp,news,a0,re,EP,yK,fS⟩
    ·refine⟨none,0,W,?_,by simpa [yj] using s⟩
     simp [J,a0,a2,Builtin.append_,run_underlying hu,Go.sizeOf,typeInfo,eo,Builtin.lenOf,Builtin.firstCells]
    ·by_cases hm:ys.length=0
     ·have:ys= []:=List.eq_nil_of_length_eq_zero hm
      subst this
      refine⟨none,0,W,?_,by simpa [yj] using s⟩
      simp [J,a0,a2,Builtin.append_,run_underlying hu,Go.sizeOf,typeInfo,eo,Builtin.lenOf,Builtin.firstCells,loadCells,loadCellsFrom]
     ·simp only [List.length_nil,Nat.zero_add] at mq lB
      have aR:=run_append_nil (P:=c.P) W t ty e fZ ee hu eo db ⟨b,off,none⟩ ys.length cp news (by rw [ng]; exact re) EP (by omega) (by omega) (by omega)
      refine⟨some W.heap.size,grownCap W ys.length 0 e,_,by rw [J,a0]; simpa [a2] using aR,?_⟩
      have qb:=grownCap_ge W ys.length 0 e
      have hle:=grownCap_le_maxLen W ys.length 0 e lB
      have:=(s.world (Fr.drew W)).grow al (o:= .cells (news.toArray ++ Builtin.zeroCells ee.cells (grownCap W ys.length 0 e - ys.length)) e) (cp:= .row e ([] ++ ys) (grownCap W ys.length 0 e))
       (HE (T:=e) (fS.mono (Ext.dG (Fr.drew W))) (ds:=(Builtin.zeroCells ee.cells (grownCap W ys.length 0 e - ys.length)).toList) (by rw [Array.length_toList,size_zeroCells,wC]) qb hle (by simp))
      simpa using this
  | some p=>
    obtain⟨j0,eG,cs,rfl,eE,aaM,wi,Fz⟩:=bb
    have yL:a.eval x= .slice (some ⟨p,0,none⟩) xs.length cap:=J
    rcases uu with⟨a0,rfl⟩ | ⟨b,off,cp,news,a0,re,EP,yK,fS⟩
    ·refine⟨some p,cap,W,?_,?_⟩
     ·simp [yL,a0,a2,Builtin.append_,run_underlying hu,Go.sizeOf,typeInfo,eo,Builtin.lenOf,Builtin.firstCells,storeCells,aaM]
     ·have:L.set i ⟨some p,.row e (xs ++ []) cap⟩=L:=by
       obtain⟨b5,he⟩:=List.getElem?_eq_some_iff.1 al
       rw [List.append_nil,← he]; exact List.set_getElem_self b5
      rw [this]; exact s
    ·by_cases yg:xs.length + ys.length≤cap
     ·have E6:xs.length * fZ.size + news.length≤cs.size:=by rw [ng,re,eE,← Nat.add_mul]; exact Nat.mul_le_mul_right _ yg
      have aR:=run_append_room (P:=c.P) W t ty e fZ hu eo p xs.length cap cs eG ⟨b,off,none⟩ ys.length cp news (by rw [ng]; exact re) EP yK yg E6
      refine⟨some p,cap,_,by rw [yL,a0]; simpa [a2] using aR,?_⟩
      refine s.store al eG ⟨_,rfl,?_,by simpa using yg,wi,?_⟩
      ·simp only [List.size_toArray,List.length_append,List.length_take,List.length_drop,Array.length_toList]; omega
      ·have ao:(cs.toList.take (xs.length * fZ.size)).length=xs.length * ai.size α:=by rw [ng]; exact Fz.1
       have yw:=ta Fz fS
       rw [ng]
       have hlen:(xs ++ ys).length * ai.size α=(cs.toList.take (xs.length * ai.size α) ++ news).length:=by rw [yw.1]
       have QQ:((cs.toList.take (xs.length * ai.size α) ++ news ++ cs.toList.drop (xs.length * ai.size α + news.length)).toArray).toList.take ((xs ++ ys).length * ai.size α)=cs.toList.take (xs.length * ai.size α) ++ news:=by
        rw [hlen]; exact List.take_left
       rw [List.append_assoc] at QQ
       rw [QQ]
       exact yw
     ·have holds:∀ (j:Nat) u,(cs.toList.take (xs.length * ai.size α))[j]? =some u→W.cell? ((⟨p,0,none⟩:Addr).add j)=some u:=by
       intro j u mw
       rw [List.getElem?_take] at mw
       split at mw
       ·rw [jb,Nat.zero_add,cell_of_row W p j cs e (0,0) eG]; simpa using mw
       ·cases mw
      have aR:=run_append_grow (P:=c.P) W t ty e fZ ee hu eo db ⟨p,0,none⟩ xs.length cap _ (by rw [ng]; exact Fz.1) holds ⟨b,off,none⟩ ys.length cp news (by rw [ng]; exact re) EP (by omega) (by omega) (growslice_fits (by omega) mq)
      have qb:=grownCap_ge W (xs.length + ys.length) cap e
      have hle:=grownCap_le_maxLen W (xs.length + ys.length) cap e lB
      refine⟨some W.heap.size,grownCap W (xs.length + ys.length) cap e,_,by rw [yL,a0]; simpa [a2] using aR,?_⟩
      have yw:=(ta Fz fS).mono (Ext.dG (Fr.drew W))
      have:=(s.world (Fr.drew W)).grow al (o:= .cells ((cs.toList.take (xs.length * ai.size α)).toArray ++ news.toArray ++ Builtin.zeroCells ee.cells (grownCap W (xs.length + ys.length) cap e - (xs.length + ys.length))) e)
       (cp:= .row e (xs ++ ys) (grownCap W (xs.length + ys.length) cap e))
       (HE (T:=e) yw (ds:=(Builtin.zeroCells ee.cells (grownCap W (xs.length + ys.length) cap e - (xs.length + ys.length))).toList) (by rw [Array.length_toList,size_zeroCells,wC,List.length_append]) (by rw [List.length_append]; exact qb) hle (by simp))
      simpa using this
 obtain⟨pZ,cap',W',h5,ki⟩:=main
 refine hy rfl (R:=fun v hi=>v=a2 pZ (xs ++ ys).length cap'∧hi=W') (.kx ?_ ⟨rfl,rfl⟩) fun v hi ⟨a0,hw⟩=> ?_
 ·simp only [execOp,resolve,invoke,builtin,Sem.run_bind,Sem.run_pure,Result.andThen_ok]
  have av:(#[x,y]:Array Operand).map a.eval= #[a.eval x,a.eval y]:=by simp
  rw [av,h5]
  rfl
 ·subst a0
  subst hw
  exact k pZ cap' _ _ (ki.put kM rfl)
inductive nS (c:dd) (E:List (Nat × I)) (L:List aM) {α:Type} [ai α]:List α→List (Nat × Operand)→List α→Prop
 | nil {b} :nS c E L b [] b
 | cons {b b':List α} {v:α} {i:Nat} {x:Operand} {r:List (Nat × Operand)} :i < b.length→a9 c E L x (.of v)→nS c E L (b.set i v) r b'→nS c E L b ((i,x) :: r) b'
theorem nS.run {α:Type} [ai α] {b b':List α} {br:List (Nat × Operand)} (h:nS c E L b br b'):∀ a W,bx c E L a W→ ∀ cs:Array Value,gC (aQ L ++ c.bT) W cs.toList b→
 ∃ dS,Instr.fill (fun i=>some (i * ai.size α,ai.size α)) cs (br.map fun(i,x)=>(i,a.eval x))=some dS∧gC (aQ L ++ c.bT) W dS.toList b'∧b'.length=b.length:=by
 induction h with
 | nil=>intro a W s cs aR; exact⟨cs,rfl,aR,rfl⟩
 | @cons b b' v i x r au ad _ bJ=>
   intro a W s cs aR
   have a0:=ad a W s
   have eE:(a.eval x).cells.size=ai.size α:=by have:=ai.len a0.2; simpa using this
   have ao:=aR.1
   have hle:(i + 1) * ai.size α≤b.length * ai.size α:=Nat.mul_le_mul_right _ au
   rw [Nat.succ_mul] at hle
   rw [List.map_cons,DX rfl eE (by simp at ao; omega)]
   obtain⟨dS,aC,aU,a1⟩:=bJ a W s (fW cs.toList (i * ai.size α) (a.eval x).cells.toList).toArray (by
    have:=Hg aR au a0.2
    simpa [fW,ai.len a0.2] using this)
   exact⟨dS,aC,aU,by rw [a1,List.length_set]⟩
theorem Ar {α:Type} [ai α] {A W} {z:α} {ee:Value} (h:(I.of z).holds A W ee) (n:Nat) (hs:ai.size α≠0):gC A W ((Array.range (n * ai.size α)).map (ee.cells[· % ee.cells.size]!)).toList (List.replicate n z):=by
 have ao:ee.cells.size=ai.size α:=by have:=ai.len h.2; simpa using this
 have hp:0 < ai.size α:=Nat.pos_of_ne_zero hs
 refine⟨by simp,fun i au=> ?_⟩
 have gR:i < n:=by simpa using au
 have hle:(i + 1) * ai.size α≤n * ai.size α:=Nat.mul_le_mul_right _ gR
 rw [Nat.succ_mul] at hle
 have:((((Array.range (n * ai.size α)).map (ee.cells[· % ee.cells.size]!)).toList.drop (i * ai.size α)).take (ai.size α))=ee.cells.toList:=by
  apply List.ext_getElem?
  intro j
  rw [List.getElem?_take]
  split
  ·rename_i aH
   rw [List.getElem?_drop]
   have b5:i * ai.size α + j < n * ai.size α:=by omega
   have BH:(i * ai.size α + j) % ai.size α=j:=by rw [Nat.mul_comm,Nat.mul_add_mod]; exact Nat.mod_eq_of_lt aH
   simp only [Array.getElem?_toList,Array.getElem?_map,Array.getElem?_range,b5,if_true,Option.map_some,ao,BH]
   rw [getElem!_pos ee.cells j (by omega)]
   simp [ao,aH]
  ·rename_i aH
   symm
   simp only [Array.getElem?_toList]
   exact Array.getElem?_eq_none (by omega)
 rw [this]
 simpa using h.2
theorem iI {α:Type} [ai α] {e n:Nat} {z:α} {r:List α} {br:List (Nat × Operand)} (hu:c.P.underlying t=some (.slice e)) (eJ:bw c.P e α) (gL:cF c.P e z) (hs:Nat.beq (ai.size α) 0=false) (aO:Nat.ble (n * ai.size α) 16777216=true)
 (ba:nS c E L (List.replicate n z) br r):bS c E L ⟨d,.buildSlice t n br.toArray,ty,pos,af,g⟩ (.of r):=fun a W s=>by
 obtain⟨fZ,ee,eo,db,rb⟩:=gL.zero
 have ng:fZ.size=ai.size α:=by
  obtain⟨i2,J,ad⟩:=eJ.info
  rw [eo] at J; cases J; exact ad
 have e0:ai.size α≠0:=fun h=>by rw [h] at hs; cases hs
 have qc:=Ar (rb (aQ L ++ c.bT) W) n e0
 obtain⟨dS,aC,aU,a1⟩:=ba.run a W s _ qc
 have hlen:r.length=n:=by rw [a1]; simp
 have hm:(br.toArray.map fun(x:Nat × Operand)=>(x.1,a.eval x.2)).toList=br.map fun(i,x)=>(i,a.eval x):=by simp
 have ZW:=Nat.le_of_ble_eq_true aO
 refine .kx (v:= .slice (some ⟨W.heap.size,0,none⟩) n n) (W':=W.alloc (.cells dS e)) ?_ ⟨Fr.alloc W _,m8.2 ?_⟩
 ·simp only [execOp,Instr.buildSlice,Sem.run_bind,run_underlying hu,Result.andThen_ok,Go.sizeOf,typeInfo,run_program,eo,Sem.run_pure,ng]
  rw [if_neg (by omega)]
  try simp only [Sem.run_pure,Result.andThen_ok,Sem.run_bind]
  by_cases bI:n * ai.size α=0
  ·have ra:n=0:=by
    rcases Nat.mul_eq_zero.1 bI with h | h
    ·exact h
    ·exact absurd h e0
   subst ra
   simp only [Nat.zero_mul,if_true,Sem.run_pure,Result.andThen_ok]
   try simp only [Nat.zero_mul] at aC
   have iZ:((Array.range 0).map (fun x=>(#[]:Array Value)[x % (#[]:Array Value).size]!))=((Array.range 0).map (ee.cells[· % ee.cells.size]!)):=by simp
   simp only [pure_bind]
   rw [iZ,hm,aC]
   simp [newRow]
  ·simp only [bI,if_false,Sem.run_bind,zeroValue,typeInfo,run_program,Result.andThen_ok,eo,db,Sem.run_pure]
   rw [hm,aC]
   simp [newRow]
 ·have hg:Ext (aQ L ++ c.bT) W (aQ L ++ c.bT) (W.alloc (.cells dS e)):=Ext.dG (Fr.alloc W _)
  refine .inr ⟨W.heap.size,0,n,dS,e,(0,0),by rw [hlen],fun tQ=>Nat.lt_irrefl _ (s.Ep _ tQ),H0 W _,by omega,?_,?_,?_⟩
  ·have:r.length * 1≤n * ai.size α:=by rw [hlen]; exact Nat.mul_le_mul_left _ (by omega)
   have:maxLen=9223372036854775807:=rfl
   omega
  ·have:=aU.1; simp at this; omega
  ·have bk:=aU.1
   rw [List.drop_zero,← bk,List.take_length]
   exact aU.mono hg
end
theorem D9 {cs:List Value} {o s:Nat} {u:Value} (h:u∈cs.drop o):u∈ (cs.drop o).take s∨u∈cs.drop (o + s):=by
 rw [← List.take_append_drop s (cs.drop o)] at h
 rcases List.mem_append.1 h with h | h
 ·exact .inl h
 ·rw [List.drop_drop] at h; exact .inr h
theorem Nb {cs:List Value} {n o:Nat} {u:Value} {p:Prop} (ao:cs.length=n) (bb:o=n) (h:u∈cs.drop o):p:=by
 rw [List.drop_of_length_le (by omega)] at h; cases h
theorem Wm {cs ds:List Value} {o s n:Nat} (ao:cs.length=n) (hd:ds.length=s) (h:o + s≤n):(cs.take o ++ ds ++ cs.drop (o + s)).length=n:=by
 simp only [List.length_append,List.length_take,List.length_drop]; omega
theorem Nc {cs ds:List Value} {o s n:Nat} (ao:cs.length=n) (hd:ds.length=s) (h:o + s≤n):((cs.take o ++ ds ++ cs.drop (o + s)).drop o).take s=ds:=by
 have J:(cs.take o).length=o:=by simp; omega
 rw [List.append_assoc,List.drop_append,J,List.drop_of_length_le (by omega),List.nil_append,Nat.sub_self,List.drop_zero,List.take_append_of_le_length (by omega),List.take_of_length_le (by omega)]
theorem Hh {cs ds:List Value} {o s n b2 s2:Nat} (ao:cs.length=n) (hd:ds.length=s) (h:o + s≤n) (c6:b2 + s2≤o∨o + s≤b2):((cs.take o ++ ds ++ cs.drop (o + s)).drop b2).take s2=(cs.drop b2).take s2:=by
 apply List.ext_getElem?
 intro i
 simp only [List.getElem?_take,List.getElem?_drop]
 split
 ·rename_i au
  simp only [List.getElem?_append,List.length_append,List.length_take,List.getElem?_take,List.getElem?_drop]
  have J:min o cs.length=o:=by omega
  rw [J,hd]
  rcases c6 with ad | ad
  ·rw [if_pos (by omega),if_pos (by omega),if_pos (by omega)]
  ·rw [if_neg (by omega)]; congr 1; omega
 ·rfl
structure ug (P:Type) where
 size:Nat
 rep:List Nat→World→List Value→Nat→P→Prop
 one:∀ {A W cs o x n},rep A W cs o x→cs.length=n→o + size=n→ ∀ u∈cs.drop o,u.oneCell'=true
 mono:∀ {A W c5 W' cs o x},Ext A W c5 W'→rep A W cs o x→rep c5 W' cs o x
 pg:∀ {A W cs o x n ds p s},rep A W cs o x→cs.length=n→ds.length=s→p + s≤n→p + s≤o→rep A W (cs.take p ++ ds ++ cs.drop (p + s)) o x
@[reducible] def h8 (B:Type) [ai B]:ug B where
  size:=ai.size B
  rep A W cs o x:=ai.rep A W ((cs.drop o).take (ai.size B)) x
  one h ao bb u hu:=by
   rcases D9 (s:=ai.size B) hu with J | bI
   ·exact ai.one h u J
   ·exact Nb ao bb bI
  mono e h:=ai.mono e h
  pg h ao hd aO hp:=by rw [Hh ao hd aO (.inr hp)]; exact h
@[reducible] def dA (B:Type) [ai B] {P:Type} (S:ug P):ug (B × P) where
  size:=ai.size B + S.size
  rep A W cs o x:=ai.rep A W ((cs.drop o).take (ai.size B)) x.1∧S.rep A W cs (o + ai.size B) x.2
  one h ao bb u hu:=by
   rcases D9 (s:=ai.size B) hu with J | bI
   ·exact ai.one h.1 u J
   ·exact S.one h.2 ao (by omega) u bI
  mono e h:=⟨ai.mono e h.1,S.mono e h.2⟩
  pg h ao hd aO hp:=⟨by rw [Hh ao hd aO (.inr hp)]; exact h.1,S.pg h.2 ao hd aO (by omega)⟩
@[reducible] def ai.str {T P:Type} (S:ug P) (to:T→P) (N:Nat) (kM:S.size=N:=by rfl):ai T where
  size:=N
  agg:=true
  rep A W cs x:=cs.length=N∧S.rep A W cs 0 (to x)
  len h:=h.1
  one h:=fun u hu=>S.one h.2 h.1 (by omega) u (by simpa using hu)
  flat h:=by cases h
  mono e h:=⟨h.1,S.mono e h.2⟩
structure Ce {P:Type} (S:ug P) (G:Type) [ai G] where
 off:Nat
 get:P→G
 set:P→G→P
 gv:off + ai.size G≤S.size
 iv:∀ {A W cs o b},S.rep A W cs o b→ai.rep A W ((cs.drop (o + off)).take (ai.size G)) (get b)
 lj:∀ {A W cs n o b ds g},cs.length=n→o + S.size≤n→S.rep A W cs o b→ai.rep A W ds g→S.rep A W (cs.take (o + off) ++ ds ++ cs.drop (o + off + ai.size G)) o (set b g)
def iB {B:Type} [ai B]:Ce (h8 B) B where
 off:=0
 get b:=b
 set _ g:=g
 gv:=by show 0 + ai.size B≤ai.size B; omega
 iv h:=h
 lj ao bb _ bs:=by
  have h:=Nc ao (ai.len bs) bb
  show ai.rep _ _ ((List.drop _ _).take _) _
  rw [Nat.add_zero,h]; exact bs
def dN {B:Type} [ai B] {P:Type} {S:ug P} :Ce (dA B S) B where
 off:=0
 get b:=b.1
 set b g:=(g,b.2)
 gv:=by show 0 + ai.size B≤ai.size B + S.size; omega
 iv h:=h.1
 lj {A W cs n o b ds g} ao bb h bs:=by
  have bb:o + (ai.size B + S.size)≤n:=bb
  refine⟨?_,S.pg h.2 ao (ai.len bs) (by omega) (by omega)⟩
  rw [Nat.add_zero,Nc ao (ai.len bs) (by omega)]; exact bs
def bB {B:Type} [ai B] {P:Type} {S:ug P} {G:Type} [ai G] (l:Ce S G):Ce (dA B S) G where
 off:=ai.size B + l.off
 get b:=l.get b.2
 set b g:=(b.1,l.set b.2 g)
 gv:=by have:=l.gv; show ai.size B + l.off + ai.size G≤ai.size B + S.size; omega
 iv h:=by rw [← Nat.add_assoc]; exact l.iv h.2
 lj {A W cs n o b ds g} ao bb h bs:=by
  have bb:o + (ai.size B + S.size)≤n:=bb
  have au:=l.gv
  have ad:=l.lj ao (by omega) h.2 bs
  rw [Nat.add_assoc o] at ad
  exact⟨by rw [Hh ao (ai.len bs) (by omega) (.inl (by omega))]; exact h.1,ad⟩
def aN.str {T P G:Type} [ai G] {S:ug P} {to:T→P} {N:Nat} (l:Ce S G) (off:Nat) (get:T→G) (set:T→G→T) (kM:S.size=N:=by rfl) (bb:l.off=off:=by rfl) (J:∀ b,l.get (to b)=get b:=by intro b; rfl) (ad:∀ b g,l.set (to b) g=to (set b g):=by intro b g; rfl): @aN T G (ai.str S to N kM) _:=
 @aN.mk T G (ai.str S to N kM) _ off get set (by have:=l.gv; show off + ai.size G≤N; omega)
  (fun {A W cs b} h=>by have:=l.iv h.2; rw [Nat.zero_add,bb,J] at this; exact this)
  (fun {A W cs b ds g} h bs=>by
   have aC:=l.lj h.1 (by omega) h.2 bs
   rw [Nat.zero_add,bb,ad] at aC
   have aU:=l.gv
   exact⟨Wm h.1 (ai.len bs) (by omega),aC⟩)
class bg (α:Type) [ai α] [Inhabited α] where
 cells:List Value
 ok:∀ A W,ai.rep A W cells (default:α)
instance:bg Bool:=⟨[.bool false],fun _ _=>rfl⟩
instance:bg Int:=⟨[.int .i64 0],fun _ _=>rfl⟩
instance:bg (BitVec 64):=⟨[.int .u64 0],fun _ _=>rfl⟩
instance:bg (BitVec 32):=⟨[.int .u32 0],fun _ _=>rfl⟩
instance:bg (BitVec 16):=⟨[.int .u16 0],fun _ _=>rfl⟩
instance:bg (BitVec 8):=⟨[.int .u8 0],fun _ _=>rfl⟩
instance:bg ByteArray:=⟨[.string ByteArray.empty],fun _ _=>rfl⟩
instance {α:Type} [ai α]:bg (List α):=⟨[.slice none 0 0],fun _ _=>⟨_,rfl,.inl ⟨rfl,rfl⟩⟩⟩
theorem Mt {α:Type} [ai α] {A W} {lI:List Value} {z:α} (h:ai.rep A W lI z):∀ n,gC A W (List.replicate n lI).flatten (List.replicate n z)
 | 0=>⟨by simp,fun i au=>by simp at au⟩
 | n + 1=>by
   have J:=Mt h n
   have ad:gC A W lI [z]:=⟨by simp [ai.len h],fun i au=>by
    have:i=0:=by simpa using au
    subst this
    rw [Nat.zero_mul,List.drop_zero,← ai.len h,List.take_length]; exact h⟩
   have:=ta ad J
   simpa [List.replicate_succ] using this
instance {α:Type} [ai α] [Inhabited α] [bg α] {n:Nat} :bg (Vector α n):=⟨(List.replicate n (bg.cells α)).flatten,fun A W=>by
 have:=Mt (bg.ok (α:=α) A W) n
 show gC A W _ (Vector.replicate n default).toList
 simpa using this⟩
def Ja (α:Type) [ai α] [Inhabited α] [bg α]:Value:=if ai.agg α=true then .agg (bg.cells α).toArray else(bg.cells α).headD undef
theorem cF.of {P:Program} {t:TypeId} {α:Type} [ai α] [Inhabited α] [bg α] (h:(P.info? t).bind (·.zero)=some (Ja α)):cF P t (default:α) where
 zero:=by
  cases au:P.info? t with
  | none=>simp [au] at h
  | some i=>
    refine⟨i,Ja α,rfl,by simpa [au] using h,fun A W=> ?_⟩
    have ok:=bg.ok (α:=α) A W
    unfold Ja
    cases bj:ai.agg α with
    | true=>simp only [if_true]; exact⟨by simp [shaped,bj],by simpa [Value.cells] using ok⟩
    | false=>
      have J:=ai.len ok
      rw [ai.flat bj] at J
      obtain⟨v,a0⟩:=List.length_eq_one_iff.1 J
      have aC:v.oneCell'=true:=ai.one ok v (by rw [a0]; simp)
      simp only [Bool.false_eq_true,if_false,a0,List.headD_cons]
      exact⟨by simp [shaped,bj,aC],by rw [ot aC]; rw [a0] at ok; exact ok⟩
theorem bw.of {P:Program} {t:TypeId} {α:Type} [ai α] {d:TypeDesc} (bj:(match d with | .struct _ | .array _ _=>true | _=>false)=ai.agg α) (hu:P.underlying t=some d) (hs:(P.info? t).map (·.size)=some (ai.size α)):bw P t α:=⟨hs,d,hu,bj⟩
theorem cx.of {P:Program} {s f o:Nat} {fs:Array Field} {fd:Field} {γ:Type} [ai γ] (hu:P.underlying s=some (.struct fs)) (ba:fs[f]? =some fd) (bb:fd.offset=o) (eI:bw P fd.type γ) (hs:Nat.beq (ai.size γ) 0=false):cx P s f o:=by
 obtain⟨i,J,ad⟩:=eI.info
 exact⟨fs,fd,i,hu,ba,bb,J,fun h=>by rw [← ad,h] at hs; cases hs⟩
theorem rp.of {P:Program} {t n e s:Nat} {γ:Type} [ai γ] (hu:P.underlying t=some (.array n e)) (eI:bw P e γ) (hs:ai.size γ=s):rp P t n s:=by
 obtain⟨i,J,ad⟩:=eI.info
 exact⟨e,i,hu,J,by rw [ad,hs]⟩
theorem bind_some {α β:Type} {m:Option α} {f:α→Option β} {r:β} (h:m.bind f=some r):∃ y,m=some y∧f y=some r:=Option.bind_eq_some_iff.1 h
theorem gZ {α:Type} {b:Bool} {p q:Option α} {r:α} (hb:b=true) (h:cond b p q=some r):p=some r:=by rw [hb] at h; exact h
theorem g1 {α:Type} {b:Bool} {p q:Option α} {r:α} (hb:b=false) (h:cond b p q=some r):q=some r:=by rw [hb] at h; exact h
theorem aI {α:Type} {a b:α} (h:some a=some b):a=b:=Option.some.inj h
def cy {α:Type} [Inhabited α] (b want:Bool) (m:Option α):Option α:=if b=want then m else some default
theorem fE {α:Type} [Inhabited α] {b want:Bool} {m:Option α} {y:α} (h:cy b want m=some y) (hb:b=want):m=some y:=by unfold cy at h; rw [if_pos hb] at h; exact h
def eU:Nat:=2 ^ 80
theorem bx.oF {c E L a W} (h:bx c E L a W) (n:Nat):bx c E (L.drop n) a W:=
 h.sub (fun e he=>List.mem_of_mem_drop he) (by
   have:(aQ (L.drop n)).Sublist (aQ L):=by
    induction L generalizing n with
    | nil=>simp
    | cons x r bJ=>
      cases n with
      | zero=>simp
      | succ n=>
        have aR:∀ n,(aQ (r.drop n)).Sublist (aQ r):=by
         intro n
         have key:∀ (r:List aM) n,(aQ (r.drop n)).Sublist (aQ r):=by
          intro r
          induction r with
          | nil=>intro n; simp
          | cons y r Qi=>
            intro n
            cases n with
            | zero=>simp
            | succ n=>
              simp only [List.drop_succ_cons]
              cases ay:y.key with
              | none=>simpa [aQ,ay] using Qi n
              | some p=>simp only [aQ,ay]; exact(Qi n).cons _
         exact key r n
        simp only [List.drop_succ_cons]
        cases ay:x.key with
        | none=>simpa [aQ,ay] using aR n
        | some p=>simp only [aQ,ay]; exact(aR n).cons _
   exact h.nodup.sublist this)
section
variable {c:dd} {E:List (Nat × I)} {L:List aM} {ops:Array Oper} {Q:Exit→Act→World→Prop}
theorem ag.cy {γ:Type} {x:Operand} {b:Bool} {y z:Code} (E':γ→List (Nat × I)) (L':γ→List aM) (ao:a9 c E L x (.of b)) (uw:∀ g,ae c Q .normal (E' g) (L' g))
 (bL:(∀ g,ae c Q .normal (E' g) (L' g))→b=true→ag c Q y E L) (ba:(∀ g,ae c Q .normal (E' g) (L' g))→b=false→ag c Q z E L):ag c Q (.cond x y z) E L:=
 ag.cond ao (bL uw) (ba uw)
theorem ae.meet {x:Exit} {E':List (Nat × I)} {L':List aM} (n:Nat) (al:L.drop n=L') (h:hG E E') (k:ae c Q x E' L'):ae c Q x E L:=fun a W s=>k a W (by rw [← al]; exact(s.oF n).less h.look)
def yM {σ ε γ δ:Type} (c:dd) (E:σ→γ→List (Nat × I)) (L:σ→γ→List aM) (xs:ε→Exit) (fN:ε→δ→List (Nat × I)) (Lx:ε→δ→List aM):σ ⊕ ε→Exit→Act→World→Prop
 | .inl s,x,a,W=>x= .normal∧ ∃ g,bx c (E s g) (L s g) a W
 | .inr e,x,a,W=>x≠ .normal∧x=xs e∧ ∃ g,bx c (fN e g) (Lx e g) a W
theorem ae.Wn {σ ε γ δ:Type} {E':σ→γ→List (Nat × I)} {L':σ→γ→List aM} {xs:ε→Exit} {fN:ε→δ→List (Nat × I)} {Lx:ε→δ→List aM} {s:σ} (g:γ) (n:Nat)
 (al:L.drop n=L' s g) (h:hG E (E' s g)):ae c (yM c E' L' xs fN Lx (.inl s)) .normal E L:=fun a W st=>⟨rfl,g,by rw [← al]; exact(st.oF n).less h.look⟩
theorem ae.Wo {σ ε γ δ:Type} {E':σ→γ→List (Nat × I)} {L':σ→γ→List aM} {xs:ε→Exit} {fN:ε→δ→List (Nat × I)} {Lx:ε→δ→List aM} {e:ε} {x:Exit} (g:δ) (n:Nat)
 (an:x=xs e) (aO:x≠ .normal) (al:L.drop n=Lx e g) (h:hG E (fN e g)):ae c (yM c E' L' xs fN Lx (.inr e)) x E L:=fun a W st=>⟨aO,an,g,by rw [← al]; exact(st.oF n).less h.look⟩
theorem ag.vF {σ ε γ δ:Type} {body:Code} {N:Nat} {b:σ→Option (σ ⊕ ε)} {cc:σ} {e:ε} (ao:e5 N b cc=some e)
 (E':σ→γ→List (Nat × I)) (L':σ→γ→List aM) (xs:ε→Exit) (fN:ε→δ→List (Nat × I)) (Lx:ε→δ→List aM) (g0:γ) (al:L=L' cc g0) (aB:hG E (E' cc g0))
 (r4:∀ s r,b s=some r→ ∀ g,ag c (yM c E' L' xs fN Lx r) body (E' s g) (L' s g))
 (oB:∀ g,ae c Q (xs e) (fN e g) (Lx e g)):ag c Q (.loop body) E L:=fun a W st=>by
 subst al
 exact L4 b (fun s a W=> ∃ g,bx c (E' s g) (L' s g) a W) (fun e x a W=>x=xs e∧ ∃ g,bx c (fN e g) (Lx e g) a W)
  (fun s r hs a W ⟨g,la⟩=>wpIn_mono (r4 s r hs g a W la) (fun x a W h=>by
   cases r with
   | inl b6=>exact h
   | inr e'=>exact⟨h.1,h.2⟩)) Q e (fun x a W ⟨an,g,hs⟩=>by subst an; exact oB g a W hs) ao ⟨g0,st.less aB.look⟩
end
theorem bS.as {c E L o} {α:Type} [ai α] {a b:α} (h:bS c E L o (.of a)) (e:a=b):bS c E L o (.of b):=by subst e; exact h
def I.we {α β:Type} [ai α] [ai β] (P:Program) (F:α→Option β):I where
 holds A W v:= ∃ f fst cap,v= .func (.func f) fst cap∧bH P f∧ ∀ c5 W',Ext A W c5 W'→ (∀ k∈c5,k < W'.heap.size)→ ∀ x r oU,F x=some r→ (I.of x).holds c5 W' oU→
  Calls P f (fst ++ #[oU] ++ cap) W' fun e Cf=> ∃ v,e= .returned v∧Fr [] W' Cf∧ (I.of r).holds c5 Cf v
 mono e h:=let⟨f,fst,cap,J,ad,aC⟩:=h; ⟨f,fst,cap,J,ad,fun c5 W' e'=>aC c5 W' (e.trans e')⟩
def I.q5 {α β γ:Type} [ai α] [ai β] [ai γ] (P:Program) (F:α→β→Option γ):I where
 holds A W v:= ∃ f fst cap,v= .func (.func f) fst cap∧bH P f∧ ∀ c5 W',Ext A W c5 W'→ (∀ k∈c5,k < W'.heap.size)→ ∀ x y r oU y4,F x y=some r→ (I.of x).holds c5 W' oU→ (I.of y).holds c5 W' y4→
  Calls P f (fst ++ #[oU,y4] ++ cap) W' fun e Cf=> ∃ v,e= .returned v∧Fr [] W' Cf∧ (I.of r).holds c5 Cf v
 mono e h:=let⟨f,fst,cap,J,ad,aC⟩:=h; ⟨f,fst,cap,J,ad,fun c5 W' e'=>aC c5 W' (e.trans e')⟩
section
variable {c:dd} {E:List (Nat × I)} {L:List aM} {d:Option Tmp} {ty:TypeId} {pos:String} {af:Array Edge} {g:Option (Nat × Bool)}
theorem UF {α β:Type} [ai α] [ai β] {F:α→Option β} {f:FuncId} (ej:bH c.P f) (h:∀ x r,F x=some r→bK c.P f [.of x] (.of r)):a9 c E L (.func f) (.we c.P F):=fun a W s=>
 ⟨f,#[],#[],rfl,ej,fun c5 W' _ fY x r oU nz an=>by simpa using h x r nz c5 W' [oU] fY (.cons an .nil)⟩
theorem Hd {α β γ:Type} [ai α] [ai β] [ai γ] {F:α→β→Option γ} {f:FuncId} (ej:bH c.P f) (h:∀ x y r,F x y=some r→bK c.P f [.of x,.of y] (.of r)):a9 c E L (.func f) (.q5 c.P F):=fun a W s=>
 ⟨f,#[],#[],rfl,ej,fun c5 W' _ fY x y r oU y4 nz an a5=>by simpa using h x y r nz c5 W' [oU,y4] fY (.cons an (.cons a5 .nil))⟩
theorem DV {α β:Type} [ai α] [ai β] {F:α→Option β} {oh x:Operand} {ats:Array TypeId} {CI:α} {r:β} (ba:a9 c E L oh (.we c.P F)) (an:a9 c E L x (.of CI)) (h:F CI=some r):
 bS c E L ⟨d,.call ⟨.value oh,#[x],ats⟩,ty,pos,af,g⟩ (.of r):=fun a W s=>by
 obtain⟨f,fst,cap,J,ej,ad⟩:=ba a W s
 refine .u4 (f:=f) (args:=fst ++ #[a.eval x] ++ cap) (W':=W) ?_ (ad _ W (Ext.refl _ _) s.Ep _ _ _ h (an a W s))
 simp [execOp,resolve,Deferred.ofValue,J,invoke,ej.run]
theorem Ay {α β γ:Type} [ai α] [ai β] [ai γ] {F:α→β→Option γ} {oh x y:Operand} {ats:Array TypeId} {CI:α} {FZ:β} {r:γ} (ba:a9 c E L oh (.q5 c.P F)) (an:a9 c E L x (.of CI)) (a5:a9 c E L y (.of FZ)) (h:F CI FZ=some r):
 bS c E L ⟨d,.call ⟨.value oh,#[x,y],ats⟩,ty,pos,af,g⟩ (.of r):=fun a W s=>by
 obtain⟨f,fst,cap,J,ej,ad⟩:=ba a W s
 refine .u4 (f:=f) (args:=fst ++ #[a.eval x,a.eval y] ++ cap) (W':=W) ?_ (ad _ W (Ext.refl _ _) s.Ep _ _ _ _ _ h (an a W s) (a5 a W s))
 simp [execOp,resolve,Deferred.ofValue,J,invoke,ej.run]
end
end Gv
namespace Gv
open Go Go.ChangeShapes Go.WideShapes Go.RowKit
structure Arg (P:Program) (t:TypeId) (α:Type) [ai α]:Prop where
 cells:P.cellsOf t=ai.size α
 read:∀ {H:Type} {enc:TypeId × Value→H} {W:World} {n:Nat} {cs:List Value} {x:DataW H × List MemPlace},DataW.trod enc P W 0 (fun _=>true) true n t cs=some x→ ∃ a:α,ai.rep [] W cs a
 form:∀ {W:World} {b:Nat} {v:Value},Value.okWide P W .any b t v→shaped (ai.agg α) v
variable {P:Program} {t e:TypeId}
theorem T8 (hu:P.underlying t=some .bool) {H:Type} {enc:TypeId × Value→H} {W:World} {n:Nat} {cs:List Value} {x:DataW H × List MemPlace} (h:DataW.trod enc P W 0 (fun _=>true) true n t cs=some x):
 ∃ b:Bool,cs= [.bool b]:=by
 cases n with
 | zero=>simp [DataW.trod] at h
 | succ n=>
   unfold DataW.trod at h
   rw [hu] at h
   split at h <;> first | exact⟨_,rfl⟩ | (simp at h)
   all_goals simp_all
theorem Arg.bool (hu:P.underlying t=some .bool) (ak:P.cellsOf t=1):Arg P t Bool where
 cells:=ak
 read {H enc W n cs x} h:=by
  obtain⟨b,rfl⟩:=T8 hu h
  exact⟨b,rfl⟩
 form {W b v} h:=by
  unfold Value.okWide Cell.okWide at h
  simp only [hu] at h
  unfold Cell.ok at h
  rw [hu] at h
  cases v <;> first | rfl | simp at h
theorem AD {k:IntKind} (hu:P.underlying t=some (.int k)) {H:Type} {enc:TypeId × Value→H} {W:World} {n:Nat} {cs:List Value} {x:DataW H × List MemPlace} (h:DataW.trod enc P W 0 (fun _=>true) true n t cs=some x):
 ∃ z:Int,cs= [.int k z]∧k.min≤z∧z≤k.max:=by
 cases n with
 | zero=>simp [DataW.trod] at h
 | succ n=>
   unfold DataW.trod at h
   rw [hu] at h
   split at h <;> simp_all [Lit.wf]
theorem AE {k:IntKind} (hu:P.underlying t=some (.int k)) {W:World} {b:Nat} {v:Value} (h:Value.okWide P W .any b t v):v.oneCell'=true:=by
 unfold Value.okWide Cell.okWide at h
 simp only [hu] at h
 unfold Cell.ok at h
 rw [hu] at h
 cases v <;> first | rfl | simp at h
theorem Arg.int (hu:P.underlying t=some (.int .i64)) (ak:P.cellsOf t=1):Arg P t Int where
 cells:=ak
 read h:=by obtain⟨z,rfl,_⟩:=AD hu h; exact⟨z,rfl⟩
 form h:=AE hu h
theorem Arg.u64 (hu:P.underlying t=some (.int .u64)) (ak:P.cellsOf t=1):Arg P t (BitVec 64) where
 cells:=ak
 read h:=by
  obtain⟨z,rfl,J,ad⟩:=AD hu h
  simp [IntKind.min,IntKind.max,IntKind.signed,IntKind.bits] at J ad
  exact⟨BitVec.ofInt 64 z,by show [_]= [_]; simp; omega⟩
 form h:=AE hu h
theorem Arg.u32 (hu:P.underlying t=some (.int .u32)) (ak:P.cellsOf t=1):Arg P t (BitVec 32) where
 cells:=ak
 read h:=by
  obtain⟨z,rfl,J,ad⟩:=AD hu h
  simp [IntKind.min,IntKind.max,IntKind.signed,IntKind.bits] at J ad
  exact⟨BitVec.ofInt 32 z,by show [_]= [_]; simp; omega⟩
 form h:=AE hu h
theorem Arg.u16 (hu:P.underlying t=some (.int .u16)) (ak:P.cellsOf t=1):Arg P t (BitVec 16) where
 cells:=ak
 read h:=by
  obtain⟨z,rfl,J,ad⟩:=AD hu h
  simp [IntKind.min,IntKind.max,IntKind.signed,IntKind.bits] at J ad
  exact⟨BitVec.ofInt 16 z,by show [_]= [_]; simp; omega⟩
 form h:=AE hu h
theorem Arg.u8 (hu:P.underlying t=some (.int .u8)) (ak:P.cellsOf t=1):Arg P t (BitVec 8) where
 cells:=ak
 read h:=by
  obtain⟨z,rfl,J,ad⟩:=AD hu h
  simp [IntKind.min,IntKind.max,IntKind.signed,IntKind.bits] at J ad
  exact⟨BitVec.ofInt 8 z,by show [_]= [_]; simp; omega⟩
 form h:=AE hu h
theorem UN (hs:(∃ fs,P.underlying t=some (.struct fs))∨ (∃ n e,P.underlying t=some (.array n e))) {W:World} {b:Nat} {v:Value} (h:Value.okWide P W .any b t v):shaped true v:=by
 unfold Value.okWide at h
 rcases hs with⟨fs,hu⟩ | ⟨n,e,hu⟩ <;> rw [hu] at h <;> exact⟨h.choose,h.choose_spec.1⟩
theorem Arg.arr {α:Type} [ai α] [Inhabited α] {n:Nat} (hu:P.underlying t=some (.array n e)) (he:Arg P e α) (ak:P.cellsOf t=n * ai.size α):Arg P t (Vector α n) where
 cells:=ak
 read {H enc W m cs x} h:=by
  obtain⟨xs,q,_,_,ao,hlen,ba⟩:=DataW.trod_array hu h
  have aR:∀ i,i < n→ ∃ a:α,ai.rep [] W ((cs.drop (i * ai.size α)).take (ai.size α)) a:=by
   intro i au
   have J:=ba i au
   rw [List.getElem?_eq_getElem (by omega)] at J
   rw [← he.cells]
   exact he.read J
  refine⟨Vector.ofFn fun i=>(aR i.1 i.2).choose,by rw [ao,ak]; simp,fun i au=> ?_⟩
  have gR:i < n:=by simpa using au
  have:=(aR i gR).choose_spec
  simpa using this
 form h:=UN (.inr ⟨_,_,hu⟩) h
theorem L8 {H:Type} {enc:TypeId × Value→H} {W W':World} (ao:laidOutB P=true) {sp:Nat→Bool} :∀ {ht:List TypeId} {vs:List Value} {ds:List (DataW H)} {br:List MemPlace},
 (∀ t∈ht,P.readableRec t=true∧t < P.types.size)→DataW.TrodAll enc P W 0 (fun _=>true) true ht vs ds br→ (∀ p∈br,W.sameAt W' p)→ (∀ p∈br,sp p.block=true)→DataW.TrodAll enc P W' 0 sp true ht vs ds br
 | [],_,_,_,_,h,_,_=>by
   obtain⟨rfl,rfl,rfl⟩:=trodAll_nil h
   exact rfl
 | _ :: _,_,_,_,bL,h,hs,hp=>by
   obtain⟨v,Jz,d,JA,p,q,rfl,rfl,rfl,J,ad⟩:=trodAll_cons h
   have bI:=bL _ (List.mem_cons_self ..)
   exact⟨p,q,WideElems.Trod_stays ao bI.1 bI.2 J (fun x an=>hs x (by simp [an])) (fun x an=>hp x (by simp [an])),
    L8 ao (fun t qa=>bL t (List.mem_cons_of_mem _ qa)) ad (fun x an=>hs x (by simp [an])) (fun x an=>hp x (by simp [an])),rfl⟩
theorem Fr.below {W W':World} (h:Fr [] W W'):Below W.heap.size W W':=⟨h.os,h.tape,h.output,h.size,fun k ay=>h.block k ay (by simp)⟩
theorem UO {H:Type} {enc:TypeId × Value→H} {f:Func} {s:ChangeSpec} {W W':World} {args:Array Value} {ds gs:List (DataW H)} {before:List MemPlace} {e3:TypeId}
 (ao:laidOutB P=true) (hp:∀ t∈f.params.toList,P.readableRec t=true∧t < P.types.size) (aR:f.resultTypes= #[e3]) (hb:P.underlying e3=some .bool) (a0:s.vars= [])
 (hs:s.fn H ds= { results:= [.lit (.bool true)],args:=ds })
 (y5:DataW.Whole enc P f.params.toList s.vars false W args.toList ds gs before) (nz:Fr [] W W'):
 s.post enc P f false true false false W args (.bool true) W':=by
 have aaN:=y5
 obtain⟨p,q,fY,Ky,rfl,db,aO⟩:=aaN
 rw [a0] at Ky
 obtain⟨rfl,rfl⟩:=trodVars_none Ky
 have b5:∀ x∈p,x.block < W.heap.size:=fun x an=>y5.lt x (by simpa using an)
 have mx:=nz.below
 have Yg:∀ x∈p,W.sameAt W' x:=fun x an=>mx.same (b5 x an)
 have ZX:∀ (b:Nat) (sp:Nat→Bool) (hd:Bool),DataW.TrodAll enc P W' b sp hd f.resultTypes.toList ((Value.bool true).resultList f.resultTypes.size) [.lit (.bool true)] []:=by
  intro b sp hd
  rw [aR]
  exact⟨[],[],shut_bool hb true,rfl,rfl⟩
 refine⟨ds,[],p ++ [],[],p,[],y5,?_,?_,?_,World.keptBut_mono (fun x an=> ?_) (mx.frame fun _=>False),fun h=>by cases h⟩
 ·rw [List.append_nil,hs]; exact ZX _ _ _
 ·rw [List.append_nil,hs]; exact L8 ao hp fY Yg (fun x an=>by simpa using b5 x an)
 ·rw [List.append_nil,hs,a0]; rfl
 ·exact an.elim
end Gv
namespace Gv
open Go Go.ChangeShapes Go.WideShapes Go.RowKit
theorem UP {P:Program} {fits:TypeId→Bool} {d:Nat} {e:TypeId} {count off n:Nat} (h:rowAt P fits d e count off n=true):off≤count * P.cellsOf e:=by
 cases d with
 | zero=>cases h
 | succ d=>
   unfold rowAt at h
   simp only at h
   split at h
   ·cases h
   ·rename_i hs
    have hp:0 < P.cellsOf e:=Nat.pos_of_ne_zero hs
    have acH:=Nat.div_add_mod off (P.cellsOf e)
    rw [Bool.or_eq_true] at h
    rcases h with h | h
    ·simp only [Bool.and_eq_true,beq_iff_eq,decide_eq_true_eq] at h
     have:P.cellsOf e * (off / P.cellsOf e)≤P.cellsOf e * count:=Nat.mul_le_mul_left _ (by omega)
     rw [Nat.mul_comm count]; omega
    ·simp only [Bool.and_eq_true,decide_eq_true_eq] at h
     have hm:=Nat.mod_lt off hp
     have:P.cellsOf e * (off / P.cellsOf e + 1)≤P.cellsOf e * count:=Nat.mul_le_mul_left _ (by omega)
     rw [Nat.mul_add] at this
     rw [Nat.mul_comm count]; omega
theorem L9 {P:Program} :∀ {d:Nat} {e:TypeId} {count off:Nat} {u:TypeId} {n:Nat},liesAt P d e count off u n=true→off≤count * P.cellsOf e
 | 0,_,_,_,_,_,h=>by cases h
 | d + 1,e,count,off,u,n,h=>by
   unfold liesAt at h
   rw [Bool.or_eq_true] at h
   rcases h with h | h
   ·exact UP h
   ·split at h
    ·exact L9 h
    ·cases h
structure tS (P:Program) (t:TypeId) (α:Type) [ai α]:Prop where
 top:∀ {H:Type} {enc:TypeId × Value→H} {W:World} {n b:Nat} {v:Value} {x:DataW H × List MemPlace},DataW.trod enc P W 0 (fun _=>true) true n t v.cells.toList=some x→Value.okWide P W .any b t v→ ∃ a:α,(I.of a).holds [] W v
variable {P:Program} {t e:TypeId}
theorem tS.of {α:Type} [ai α] (h:Arg P t α):tS P t α where
 top J ad:=let⟨a,aC⟩:=h.read J; ⟨a,h.form ad,aC⟩
theorem UQ {α:Type} [ai α] (hu:P.underlying t=some (.slice e)) (he:Arg P e α) (db:Nat.beq (ai.size α) 0=false) {H:Type} {enc:TypeId × Value→H} {W:World} {n b:Nat} {v:Value} {x:DataW H × List MemPlace}
 (h:DataW.trod enc P W 0 (fun _=>true) true n t [v]=some x) (hF:Cell.okWide P W .any b t v):∃ a:List α,(I.of a).holds [] W v:=by
 have kF:ai.size α≠0:=fun h=>by rw [h] at db; cases db
 rcases DataW.trod_slice hu h with⟨J,_⟩ | ⟨a,len,cap,elems,rest,m,_,J,_,_,acI,wi,Cg,ZY,acp,_⟩
 ·have:=List.singleton_inj.1 J
  subst this
  exact⟨[],m8.2 (.inl ⟨rfl,rfl⟩)⟩
 ·have:=List.singleton_inj.1 J
  subst this
  unfold Cell.okWide at hF
  simp only [hu] at hF
  unfold Cell.ok at hF
  rw [hu] at hF
  obtain⟨_,_,_,O2,row,cells,yN,ZZ⟩:=hF
  obtain⟨QR,sN,acJ⟩:=a
  simp only at O2
  subst O2
  unfold World.shape? at yN
  cases eG:W.heap[QR]? with
  | none=>rw [eG] at yN; cases yN
  | some j0=>
    rw [eG] at yN
    cases j0 <;> simp at yN
    rename_i rf T gX
    obtain⟨ac6,eE⟩:=yN
    have acu:sN≤rf.size:=by
     have a1:sN≤_:=L9 ZZ
     have bk:=Nat.div_mul_le_self cells (P.cellsOf row)
     omega
    have Yh:=he.cells
    have fS:∀ i,i < len→ ∃ a:α,ai.rep [] W ((rf.toList.drop (sN + i * ai.size α)).take (ai.size α)) a∧sN + (i + 1) * ai.size α≤rf.size:=fun i au=>by
     have a1:=ZY i au
     rw [List.getElem?_eq_getElem (by omega)] at a1
     obtain⟨dS,bk,cT⟩:=Option.bind_eq_some_iff.1 a1
     obtain⟨_,ao,ak⟩:=World.cells?_some bk
     rw [Yh] at ao ak bk
     have r5:∀ j,j < ai.size α→rf[sN + i * ai.size α + j]? =dS[j]? :=fun j aH=>by
      rw [← ak j aH,jb,jb]
      unfold World.cell?
      simp [eG]
     have heq:(rf.toList.drop (sN + i * ai.size α)).take (ai.size α)=dS:=by
      apply List.ext_getElem?
      intro j
      rw [List.getElem?_take]
      by_cases aH:j < ai.size α
      ·rw [if_pos aH,List.getElem?_drop,Array.getElem?_toList]; exact r5 j aH
      ·rw [if_neg aH]; symm; exact List.getElem?_eq_none (by omega)
     obtain⟨a,bj⟩:=he.read cT
     refine⟨a,by rw [heq]; exact bj,?_⟩
     have fa:=r5 (ai.size α - 1) (by omega)
     rw [List.getElem?_eq_getElem (show ai.size α - 1 < dS.length by omega)] at fa
     have:=(Array.getElem?_eq_some_iff.1 fa).1
     rw [Nat.add_mul]; omega
    have hex:∃ xs:List α,xs.length=len∧ ∀ i (h:i < xs.length),ai.rep [] W ((rf.toList.drop (sN + i * ai.size α)).take (ai.size α)) xs[i]:=by
     refine⟨List.ofFn fun i:Fin len=>(fS i.1 i.2).choose,by simp,fun i au=> ?_⟩
     have gR:i < len:=by simpa using au
     rw [List.getElem_ofFn]
     exact(fS i gR).choose_spec.1
    obtain⟨xs,Cd,aaO⟩:=hex
    have hbound:sN + xs.length * ai.size α≤rf.size:=by
     rw [Cd]
     rcases Nat.eq_zero_or_pos len with bI | bI
     ·rw [bI]; omega
     ·have:=(fS (len - 1) (by omega)).choose_spec.2
      rw [show len - 1 + 1=len by omega] at this
      exact this
    refine⟨xs,m8.2 (.inr ⟨QR,sN,cap,rf,T,gX,by rw [Cd],by simp,eG,by omega,by omega,hbound,?_,fun i au=> ?_⟩)⟩
    ·rw [List.length_take,List.length_drop]; simp; omega
    ·have hle:(i + 1) * ai.size α≤xs.length * ai.size α:=Nat.mul_le_mul_right _ au
     rw [Nat.succ_mul] at hle
     rw [uO _ _ _ _ _ hle]
     exact aaO i au
theorem tS.aaP {α:Type} [ai α] (hu:P.underlying t=some (.slice e)) (he:Arg P e α) (db:Nat.beq (ai.size α) 0=false):tS P t (List α) where
 top {H enc W n b v x} h hF:=by
  have yx:Cell.okWide P W .any b t v:=by
   unfold Value.okWide at hF
   simp only [hu] at hF
   exact hF
  have Z0:v.oneCell'=true:=by
   unfold Cell.okWide at yx
   simp only [hu] at yx
   unfold Cell.ok at yx
   rw [hu] at yx
   cases v <;> first | rfl | simp at yx
  rw [ot Z0] at h
  exact UQ hu he db h yx
theorem DK {H:Type} {enc:TypeId × Value→H} {W:World} {ht:List TypeId} {vs:List Value} {ds:List (DataW H)} {br:List MemPlace} {α:Type} [ai α] {b:Nat} (bj:tS P t α)
 (h:DataW.TrodAll enc P W 0 (fun _=>true) true (t :: ht) vs ds br) (hF:∀ (j:Nat) u v,(t :: ht)[j]? =some u→vs[j]? =some v→Value.okWide P W .any b u v):
 ∃ (a:α) (v:Value) (JB:List Value) (Qj:List (DataW H)) (nu:List MemPlace) (d:DataW H),vs=v :: JB∧ds=d :: Qj∧ (I.of a).holds [] W v∧DataW.TrodAll enc P W 0 (fun _=>true) true ht JB Qj nu∧
   (∀ (j:Nat) u w,ht[j]? =some u→JB[j]? =some w→Value.okWide P W .any b u w):=by
 obtain⟨v,Jz,d,JA,p,q,rfl,rfl,rfl,⟨n,J⟩,ad⟩:=trodAll_cons h
 obtain⟨a,aC⟩:=bj.top J (hF 0 t v rfl rfl)
 exact⟨a,v,Jz,JA,q,d,rfl,rfl,aC,ad,fun j u w aH hw=>hF (j + 1) u w (by simpa using aH) (by simpa using hw)⟩
end Gv
namespace Gv
open Go
theorem Tv {L' L:List aM} (h:L'.Sublist L):(aQ L').Sublist (aQ L):=by
 induction h with
 | slnil=>simp [aQ]
 | cons e _ bJ=>cases ay:e.key <;> simp only [aQ,ay] <;> first | exact bJ | exact bJ.cons _
 | cons_cons e _ bJ=>cases ay:e.key <;> simp only [aQ,ay] <;> first | exact bJ | exact bJ.cons_cons _
theorem aM.tj {e:aM} {A c5 W W'} (h:e.ok A W) (x:Ext A W c5 W') (hb:∀ p,e.key=some p→W'.heap[p]? =W.heap[p]?):e.ok c5 W':=by
 unfold aM.ok at *
 cases ay:e.key with
 | none=>rw [ay] at h; exact h
 | some p=>
   rw [ay] at h
   obtain⟨o,J,ad⟩:=h
   exact⟨o,by rw [hb p ay]; exact J,dB.mono _ x ad⟩
def j9 (X bT:List Nat) (iN:World) {δ:Type} (ρ:δ→I) (Lo:δ→List aM):Ending→World→Prop:=fun e W'=>
 ∃ v d,e= .returned v∧Fr X iN W'∧ (aQ (Lo d)).Nodup∧ (∀ k∈aQ (Lo d),k < W'.heap.size∧ (k < iN.heap.size→k∈X)∧k ∉ bT)∧ (∀ e∈Lo d,e.ok (aQ (Lo d) ++ bT) W')∧ (ρ d).holds (aQ (Lo d) ++ bT) W' v
def bM (P:Program) (f:FuncId) (τs:List I) (Lin:List aM) {δ:Type} (ρ:δ→I) (Lo:δ→List aM):Prop:=
 ∀ (A:List Nat) (W:World) (vs:List Value),(∀ k∈A,k < W.heap.size∧k ∉ aQ Lin)→ (aQ Lin).Nodup→ (∀ k∈aQ Lin,k < W.heap.size)→ (∀ e∈Lin,e.ok (aQ Lin ++ A) W)→gB (aQ Lin ++ A) W τs vs→
   Calls P f vs.toArray W (j9 (aQ Lin) A W ρ Lo)
theorem bM.of {P:Program} {f:FuncId} {fn:Func} {code:Code} {n:Nat} {τs:List I} {Lin:List aM} {δ:Type} {ρ:δ→I} {Lo:δ→List aM} (ba:P.funcs[f]? =some fn) (hb:fn.body=some code) (aO:fn.ntmps=n) (hlen:Nat.ble τs.length n=true)
 (h:∀ W A,ag ⟨P,n,W,aQ Lin,A,none,[]⟩ (bodyPost P fn (j9 (aQ Lin) A W ρ Lo)) code (params 0 τs) Lin):bM P f τs Lin ρ Lo:=by
 intro A W vs fY gu b5 hF a0
 refine calls_of_wp ba hb (wpIn_wide.1 (h W A _ _ ?_))
 have ao:=a0.length
 have hle:τs.length≤n:=Nat.le_of_ble_eq_true hlen
 exact
 {defers:=rfl
  size:=by simp [aO,ao]; omega
  env:=fun t τ kh=>by
   obtain⟨_,v,ad,aC⟩:=uS a0 0 t τ kh
   refine⟨v,?_,aC⟩
   have b5:t < vs.length:=(List.getElem?_eq_some_iff.1 ad).1
   rw [Array.getElem?_append_left (by simpa using b5)]
   simpa using ad
  dG:= .refl _ _
  own:=hF
  nodup:=gu
  lt:=b5
  fR:=fun k ay _=>ay
  eW:=fY }
section
variable {c:dd} {E:List (Nat × I)} {L:List aM} {ops:Array Oper} {Q:Exit→Act→World→Prop}
variable {d:Option Tmp} {ty:TypeId} {pos:String} {af:Array Edge} {g:Option (Nat × Bool)} {x y:Operand} {t t2:TypeId}
def uh (c:dd) (E:List (Nat × I)) (L:List aM) (r:ResultVar) (τ:I):Prop:=
 ∀ a W,bx c E L a W→ ∃ v,(vm a.tmps r).run c.P W= .ok v W∧τ.holds (aQ L ++ c.bT) W v
theorem dv {t:Nat} {τ:I} (h:look E t=some τ):uh c E L (.tmp t) τ:=fun a W s=>by
 obtain⟨v,J,ad⟩:=s.env t τ h
 exact⟨v,by simp [vm,J],ad⟩
theorem ju {t:Nat} {ty:TypeId} {i p:Nat} {α:Type} [ai α] {x:α} (eI:bw c.P ty α) (h:look E t=some (.eq (.pointer (some ⟨p,0,none⟩)))) (al:L[i]? =some ⟨some p,.var x⟩):uh c E L (.cell t ty) (.of x):=fun a W s=>by
 obtain⟨v,J,ad⟩:=s.env t _ h
 subst ad
 obtain⟨j0,eG,cs,T,rfl,fS⟩:=s.own _ (List.mem_of_getElem? al)
 have ao:cs.toList.length=ai.size α:=ai.len fS
 have eE:cs.size=ai.size α:=by simpa using ao
 obtain⟨v,aC,aU⟩:=uK (A:=aQ L ++ c.bT) (off:=0) eI eG (by omega) (by rw [List.drop_zero,← ao,List.take_length]; exact fS)
 exact⟨v,by simp [vm,J,asAddr,aC],aU⟩
theorem bx.ends {a:Act} {W:World} (s:bx c E L a W) {δ:Type} {ρ:δ→I} {Lo:δ→List aM} (a7:δ) (hs:(Lo a7).Sublist L) {v:Value} (a0:(ρ a7).holds (aQ L ++ c.bT) W v):j9 c.X c.bT c.iN ρ Lo (.returned v) W:=by
 have kZ:=Tv hs
 have ay:∀ k∈aQ (Lo a7),k∈aQ L:=fun k ay=>kZ.subset ay
 have hg:Ext (aQ L ++ c.bT) W (aQ (Lo a7) ++ c.bT) W:= .drop fun k hm=>by
  rcases List.mem_append.1 hm with hm | hm
  ·exact List.mem_append.2 (.inl (ay k hm))
  ·exact List.mem_append.2 (.inr hm)
 exact⟨v,a7,rfl,s.dG,s.nodup.sublist kZ,fun k hm=>⟨s.lt k (ay k hm),s.fR k (ay k hm),fun bj=>(s.eW k bj).2 (ay k hm)⟩,
  fun e he=>aM.tj (s.own e (hs.subset he)) hg fun _ _=>rfl,I.mono _ hg a0⟩
theorem ae.fi {fn:Func} {r:ResultVar} {τ:I} {δ:Type} {ρ:δ→I} {Lo:δ→List aM} (a7:δ) (hs:(Lo a7).Sublist L) (aR:fn.results= #[r]) (sA:ρ a7=τ) (h:uh c E L r τ) (hM:c.ds= []:=by rfl):ae c (bodyPost c.P fn (j9 c.X c.bT c.iN ρ Lo)) .ret E L:=fun a W s=>by
 subst sA
 obtain⟨v,J,ad⟩:=h a W s
 exact⟨s.u3 hM,v,by simp [uU,aR,J],s.ends a7 hs ad⟩
theorem ae.ky {fn:Func} {r gx:ResultVar} {τ n9:I} {δ:Type} {ρ:δ→I} {Lo:δ→List aM} (a7:δ) (hs:(Lo a7).Sublist L) (aR:fn.results= #[r,gx]) (sA:ρ a7= .ed [τ,n9]) (h:uh c E L r τ) (ad:uh c E L gx n9) (hM:c.ds= []:=by rfl):ae c (bodyPost c.P fn (j9 c.X c.bT c.iN ρ Lo)) .ret E L:=fun a W s=>by
 obtain⟨v,aC,aU⟩:=h a W s
 obtain⟨v2,a1,bk⟩:=ad a W s
 exact⟨s.u3 hM,.tuple #[v,v2],by simp [uU,aR,aC,a1],s.ends a7 hs (by rw [sA]; exact⟨_,rfl,.cons aU (.cons bk .nil)⟩)⟩
theorem ae.Iz {fn:Func} {r gx oe:ResultVar} {τ n9 B8:I} {δ:Type} {ρ:δ→I} {Lo:δ→List aM} (a7:δ) (hs:(Lo a7).Sublist L) (aR:fn.results= #[r,gx,oe]) (sA:ρ a7= .ed [τ,n9,B8]) (h:uh c E L r τ) (ad:uh c E L gx n9) (aC:uh c E L oe B8) (hM:c.ds= []:=by rfl):ae c (bodyPost c.P fn (j9 c.X c.bT c.iN ρ Lo)) .ret E L:=fun a W s=>by
 obtain⟨v,av,f1⟩:=h a W s
 obtain⟨v2,aX,f2⟩:=ad a W s
 obtain⟨y3,c4,f3⟩:=aC a W s
 exact⟨s.u3 hM,.tuple #[v,v2,y3],by simp [uU,aR,av,aX,c4],s.ends a7 hs (by rw [sA]; exact⟨_,rfl,.cons f1 (.cons f2 (.cons f3 .nil))⟩)⟩
theorem tc:∀ {L:List aM} {i:Nat} {e:aM},L[i]? =some e→L.Perm (e :: L.eraseIdx i)
 | [],i,e,h=>by simp at h
 | x :: r,0,e,h=>by simp only [List.getElem?_cons_zero,Option.some.injEq] at h; subst h; exact .refl _
 | x :: r,i + 1,e,h=>by
   simp only [List.getElem?_cons_succ] at h
   exact((tc h).cons x).trans (.swap e x _)
theorem bx.bz {a:Act} {W:World} (s:bx c E L a W) {i:Nat} {e:aM} (h:L[i]? =some e):bx c E (e :: L.eraseIdx i) a W:=s.perm (tc h)
theorem ah.bz {l:List Oper} (i:Nat) {e:aM} (h:L[i]? =some e) (k:ah c ops Q l E (e :: L.eraseIdx i)):ah c ops Q l E L:=fun a W s=>k a W (s.bz h)
theorem ae.bz {z:Exit} (i:Nat) {e:aM} (h:L[i]? =some e) (k:ae c Q z E (e :: L.eraseIdx i)):ae c Q z E L:=fun a W s=>k a W (s.bz h)
theorem bx.after {a:Act} {W W':World} {Lin Lr:List aM} (s:bx c E (Lin ++ Lr) a W) {Lo:List aM} (ba:Fr (aQ Lin) W W') (gu:(aQ Lo).Nodup)
 (ay:∀ k∈aQ Lo,k < W'.heap.size∧ (k < W.heap.size→k∈aQ Lin)∧k ∉ aQ Lr ++ c.bT) (hF:∀ e∈Lo,e.ok (aQ Lo ++ (aQ Lr ++ c.bT)) W'):bx c E (Lo ++ Lr) a W':=by
 have hg:Ext (aQ (Lin ++ Lr) ++ c.bT) W (aQ (Lo ++ Lr) ++ c.bT) W':=
  ⟨ba.size,fun k b5 bj=>ba.block k b5 fun hm=>bj (by rw [eS]; simp [hm]),fun k hm b5=>by
   rw [eS] at hm ⊢
   simp only [List.mem_append] at hm ⊢
   rcases hm with(hm | hm) | hm
   ·exact .inl (.inl ((ay k hm).2.1 b5))
   ·exact .inl (.inr hm)
   ·exact .inr hm⟩
 have ml:=s.nodup
 rw [eS] at ml
 obtain⟨nv,oO,qd⟩:=List.nodup_append.1 ml
 have yC:∀ k∈aQ Lr,k < W.heap.size∧k ∉ aQ Lin:=fun k hm=>⟨s.lt k (by rw [eS]; exact List.mem_append.2 (.inr hm)),fun h=>qd k h k hm rfl⟩
 exact
 {defers:=s.defers
  size:=s.size
  env:=fun t τ ao=>let⟨v,J,ad⟩:=s.env t τ ao; ⟨v,J,τ.mono hg ad⟩
  dG:=⟨ba.os.trans s.dG.os,ba.tape.trans s.dG.tape,ba.output.trans s.dG.output,Nat.le_trans s.dG.size ba.size,fun k b5 an=>
   (ba.block k (Nat.lt_of_lt_of_le b5 s.dG.size) fun hm=>an (s.fR k (by rw [eS]; exact List.mem_append.2 (.inl hm)) b5)).trans (s.dG.block k b5 an)⟩
  own:=fun e he=>by
   rcases List.mem_append.1 he with he | he
   ·have:=hF e he
    refine aM.tj this (.drop fun k hm=> ?_) fun _ _=>rfl
    rw [eS] at hm
    simp only [List.mem_append] at hm ⊢
    rcases hm with(hm | hm) | hm
    ·exact .inl hm
    ·exact .inr (.inl hm)
    ·exact .inr (.inr hm)
   ·exact aM.tj (s.own e (List.mem_append.2 (.inr he))) hg fun p hp=>by
     have:=yC p (ln.2 ⟨e,he,hp⟩)
     exact ba.block p this.1 this.2
  nodup:=by
   rw [eS]
   exact List.nodup_append.2 ⟨gu,oO,fun k J j ad e=>by subst e; exact(ay k J).2.2 (List.mem_append.2 (.inl ad))⟩
  lt:=fun k hm=>by
   rw [eS] at hm
   rcases List.mem_append.1 hm with hm | hm
   ·exact(ay k hm).1
   ·exact Nat.lt_of_lt_of_le (yC k hm).1 ba.size
  fR:=fun k hm bI=>by
   rw [eS] at hm
   have b5:k < W.heap.size:=Nat.lt_of_lt_of_le bI s.dG.size
   rcases List.mem_append.1 hm with hm | hm
   ·exact s.fR k (by rw [eS]; exact List.mem_append.2 (.inl ((ay k hm).2.1 b5))) bI
   ·exact s.fR k (by rw [eS]; exact List.mem_append.2 (.inr hm)) bI
  eW:=fun k hm=>by
   obtain⟨J,ad⟩:=s.eW k hm
   refine⟨Nat.lt_of_lt_of_le J ba.size,fun h=> ?_⟩
   rw [eS] at h ad
   rcases List.mem_append.1 h with h | h
   ·exact(ay k h).2.2 (List.mem_append.2 (.inr hm))
   ·exact ad (List.mem_append.2 (.inr h)) }
theorem hJ.NQ {xs:List Operand} {τs:List I} (h:hJ c E L xs τs) {a:Act} {W:World} (s:bx c E L a W):gB (aQ L ++ c.bT) W τs (xs.map a.eval):=h.holds a W s
theorem Al {a:Act} {W:World} {f:FuncId} {xs:List Operand} {ats:Array TypeId} {τs:List I} {Lin Lr:List aM} {δ:Type} {ρ:δ→I} {Lo:δ→List aM} (ej:bH c.P f) (h:bM c.P f τs Lin ρ Lo)
 (s:bx c E (Lin ++ Lr) a W) (an:gB (aQ (Lin ++ Lr) ++ c.bT) W τs (xs.map a.eval)):
 gD c.P ⟨d,.call ⟨.value (.func f),xs.toArray,ats⟩,ty,pos,af,g⟩ a W fun v W'=> ∃ a7,bx c E (Lo a7 ++ Lr) a W'∧ (ρ a7).holds (aQ (Lo a7 ++ Lr) ++ c.bT) W' v:=by
 have ml:=s.nodup
 rw [eS] at ml
 obtain⟨nv,oO,qd⟩:=List.nodup_append.1 ml
 have kd:Ext (aQ (Lin ++ Lr) ++ c.bT) W (aQ Lin ++ (aQ Lr ++ c.bT)) W:= .drop fun k hm=>by
  rw [eS]
  simp only [List.mem_append] at hm ⊢
  rcases hm with hm | hm | hm
  ·exact .inl (.inl hm)
  ·exact .inl (.inr hm)
  ·exact .inr hm
 have fY:∀ k∈aQ Lr ++ c.bT,k < W.heap.size∧k ∉ aQ Lin:=fun k hm=>by
  rcases List.mem_append.1 hm with hm | hm
  ·exact⟨s.lt k (by rw [eS]; exact List.mem_append.2 (.inr hm)),fun h=>qd k h k hm rfl⟩
  ·obtain⟨J,ad⟩:=s.eW k hm
   exact⟨J,fun h=>ad (by rw [eS]; exact List.mem_append.2 (.inl h))⟩
 have b5:∀ k∈aQ Lin,k < W.heap.size:=fun k hm=>s.lt k (by rw [eS]; exact List.mem_append.2 (.inl hm))
 refine .u4 (f:=f) (args:=(xs.map a.eval).toArray) (W':=W) (by simp [execOp,resolve,Deferred.ofValue,Act.eval,invoke,ej.run]) ?_
 refine(h (aQ Lr ++ c.bT) W (xs.map a.eval) fY nv b5 (fun e he=>aM.tj (s.own e (List.mem_append.2 (.inl he))) kd fun _ _=>rfl) (an.mono kd)).mono fun e W' ⟨v,a7,he,ba,J,ad,aC,aU⟩=> ?_
 refine⟨v,he,a7,s.after ba J ad aC,(ρ a7).mono (.drop fun k hm=> ?_) aU⟩
 rw [eS] at hm
 simp only [List.mem_append] at hm ⊢
 rcases hm with(hm | hm) | hm
 ·exact .inl hm
 ·exact .inr (.inl hm)
 ·exact .inr (.inr hm)
theorem ah.lP {rest:List Oper} {a7:Nat} {f:FuncId} {xs:List Operand} {ats:Array TypeId} {τs:List I} {Lin Lr:List aM} {δ:Type} {ρ:δ→I} {Lo:δ→List aM} (ej:bH c.P f) (h:bM c.P f τs Lin ρ Lo)
 (an:hJ c E (Lin ++ Lr) xs τs) (aO:Nat.blt a7 c.n=true) (k:∀ q,ah c ops Q rest ((a7,ρ q) :: E) (Lo q ++ Lr)):
 ah c ops Q (⟨some a7,.call ⟨.value (.func f),xs.toArray,ats⟩,ty,pos,af,none⟩ :: rest) E (Lin ++ Lr):=fun a W s=>
 hy rfl (Al ej h s (an.holds a W s)) fun v W' ⟨q,b6,a0⟩=>k q _ _ (b6.put (by simpa using aO) a0)
end
def en {α:Type} (xs:List α) (k:Nat) (v:α):List α:=xs.set k v
section
variable {c:dd} {E:List (Nat × I)} {L:List aM} {ops:Array Oper} {Q:Exit→Act→World→Prop}
variable {d:Option Tmp} {ty:TypeId} {pos:String} {af:Array Edge} {g:Option (Nat × Bool)} {x y:Operand} {t t2:TypeId}
theorem bx.rowAt {a:Act} {W:World} (s:bx c E L a W) {i:Nat} {key:Option Nat} {T cap:Nat} {α:Type} [ai α] {xs:List α} (al:L[i]? =some ⟨key,.row T xs cap⟩) (an:0 < xs.length):
 ∃ p cs,key=some p∧W.heap[p]? =some (.cells cs T (0,0))∧cs.size=cap * ai.size α∧xs.length≤cap∧cap≤maxLen∧gC (aQ L ++ c.bT) W (cs.toList.take (xs.length * ai.size α)) xs:=by
 have bb:=s.own _ (List.mem_of_getElem? al)
 cases key with
 | none=>have:xs= []:=bb.1; subst this; simp at an
 | some p=>
   obtain⟨o,eG,cs,rfl,J,ad,aC,aU⟩:=bb
   exact⟨p,cs,rfl,eG,J,ad,aC,aU⟩
theorem lp {e i k T cap:Nat} {key:Option Nat} {α:Type} [ai α] {xs:List α} {z:Int} (hu:c.P.underlying t=some (.slice e)) (eJ:bw c.P e α) (an:a9 c E L x (.eq (a2 key xs.length cap))) (a5:a9 c E L y (.of z))
 (al:L[i]? =some ⟨key,.row T xs cap⟩) (ay:k < xs.length∧z=k):bS c E L ⟨d,.indexAddr t x y,ty,pos,af,g⟩ (.eq (.pointer (some ⟨key.getD 0,k * ai.size α,none⟩))):= .pure fun a W s=>by
 obtain⟨bk,rfl⟩:=ay
 obtain⟨p,cs,rfl,_⟩:=s.rowAt al (by omega)
 have J:a.eval x=_:=an a W s
 have a1:=of_int.1 (a5 a W s)
 obtain⟨fZ,eo,eE⟩:=eJ.info
 exact⟨_,by simp [execOp,Instr.indexAt,asIntOf,run_underlying hu,J,a1,bk,Go.sizeOf,typeInfo,eo,eE,jb,a2]; rfl,by simp [I.eq]⟩
theorem x4 {k n s:Nat} (h:k < n):k * s + s≤n * s:=by rw [← Nat.succ_mul]; exact Nat.mul_le_mul_right _ h
theorem o5 {i k T cap o:Nat} {key:Option Nat} {α γ:Type} [ai α] [Inhabited α] [ai γ] {xs:List α} (l:aN α γ) {r:γ} (eI:bw c.P t γ) (an:a9 c E L x (.eq (.pointer (some ⟨key.getD 0,o,none⟩))))
 (al:L[i]? =some ⟨key,.row T xs cap⟩) (ay:k < xs.length) (bb:o=k * ai.size α + l.off) (aR:l.get (aE xs k)=r):bS c E L ⟨d,.load t x,ty,pos,af,g⟩ (.of r):= .pure fun a W s=>by
 subst bb; subst aR
 obtain⟨p,cs,rfl,eG,J,ad,aC,aU⟩:=s.rowAt al (by omega)
 have eu:=x4 (s:=ai.size α) ay
 have ao:=l.gv
 have hle:xs.length * ai.size α≤cap * ai.size α:=Nat.mul_le_mul_right _ ad
 have fS:=l.iv (aU.2 k ay)
 rw [uO _ _ _ _ _ l.gv,List.drop_take,List.take_take,Nat.min_eq_left (by omega)] at fS
 rw [ew xs ay]
 obtain⟨v,a1,bk⟩:=uK (A:=aQ L ++ c.bT) eI eG (off:=k * ai.size α + l.off) (by omega) fS
 have cT:a.eval x=_:=an a W s
 simp only [Option.getD_some] at cT
 exact⟨v,by simp [execOp,Instr.loadAt,Instr.sureAddr,cT,a1],bk⟩
theorem ah.vj {rest:List Oper} {i k T cap o:Nat} {key:Option Nat} {α γ:Type} [ai α] [Inhabited α] [ai γ] {xs r:List α} {v:γ} (l:aN α γ) (eI:bw c.P t γ) (an:a9 c E L x (.eq (.pointer (some ⟨key.getD 0,o,none⟩)))) (a5:a9 c E L y (.of v))
 (al:L[i]? =some ⟨key,.row T xs cap⟩) (ay:k < xs.length) (bb:o=k * ai.size α + l.off) (aR:en xs k (l.set (aE xs k) v)=r)
 (k':ah c ops Q rest E (L.set i ⟨key,.row T r cap⟩)):ah c ops Q (⟨none,.store t x y,ty,pos,af,none⟩ :: rest) E L:=fun a W s=>by
 subst bb; subst aR
 obtain⟨p,cs,rfl,eG,J,ad,aC,aU⟩:=s.rowAt al (by omega)
 have eu:=x4 (s:=ai.size α) ay
 have ao:=l.gv
 have hle:xs.length * ai.size α≤cap * ai.size α:=Nat.mul_le_mul_right _ ad
 have a0:=a5 a W s
 have qe:(a.eval y).cells.toList.length=ai.size γ:=ai.len a0.2
 have a1:=z2 (A:=aQ L ++ c.bT) eI eG (off:=k * ai.size α + l.off) (by omega) a0
 have cT:a.eval x=_:=an a W s
 simp only [Option.getD_some] at cT
 refine hy rfl (R:=fun v W'=>W'=W.setRow p (fW cs.toList (k * ai.size α + l.off) (a.eval y).cells.toList).toArray) (.xT ?_ rfl) fun u W' hw=> ?_
 ·simp [execOp,Instr.storeAt,Instr.sureAddr,cT,a1]
 ·subst hw
  refine k' _ _ (s.store al eG ?_)
  have mv:cs.toList.length=cap * ai.size α:=by simpa using J
  have mr:(fW cs.toList (k * ai.size α + l.off) (a.eval y).cells.toList).length=cs.toList.length:=by
   simp only [fW,List.length_append,List.length_take,List.length_drop,qe]; omega
  refine⟨_,rfl,by simpa [mv] using mr,by simpa [en] using ad,aC,?_⟩
  have aq:=aU.2 k ay
  have bd:=l.lj aq a0.2
  have bN:=Hg aU ay bd
  have re:(cs.toList.take (xs.length * ai.size α)).length=xs.length * ai.size α:=by rw [List.length_take]; omega
  rw [L6 _ _ _ _ _ _ l.gv (by omega)] at bN
  have hlen:(en xs k (l.set (aE xs k) v)).length=xs.length:=by simp [en]
  rw [hlen,List.toList_toArray]
  have e:(fW cs.toList (k * ai.size α + l.off) (a.eval y).cells.toList).take (xs.length * ai.size α)=
   (cs.toList.take (xs.length * ai.size α)).take (k * ai.size α + l.off) ++ (a.eval y).cells.toList ++ (cs.toList.take (xs.length * ai.size α)).drop (k * ai.size α + l.off + ai.size γ):=by
   have av:(cs.toList.take (k * ai.size α + l.off)).length=k * ai.size α + l.off:=by rw [List.length_take]; omega
   have aX:(cs.toList.take (k * ai.size α + l.off) ++ (a.eval y).cells.toList).length=k * ai.size α + l.off + ai.size γ:=by rw [List.length_append,av,qe]
   rw [fW,qe,List.take_append,aX,List.take_of_length_le (by omega),List.take_take,Nat.min_eq_left (by omega),List.drop_take]
  rw [e,show en xs k (l.set (aE xs k) v)=xs.set k (l.set xs[k] v) by rw [en,ew xs ay]]
  exact bN
def hQ (key:Option Nat) (lo n cap size:Nat):Value:=match key with
 | some p=> .slice (some (if cap=lo then⟨p,0,none⟩ else⟨p,lo * size,none⟩)) n (cap - lo)
 | none=> .slice none 0 0
theorem Ao {key:Option Nat} {n cap size:Nat} :hQ key 0 n cap size=a2 key n cap:=by
 cases key <;> simp [hQ,a2]
theorem DW {i T cap:Nat} {key:Option Nat} {α:Type} [ai α] {xs:List α} {e:TypeId} {lo au:Option Operand} {m n:Nat} {CJ CK:Int} (hu:c.P.underlying t=some (.slice e)) (eJ:bw c.P e α) (an:a9 c E L x (.eq (a2 key xs.length cap)))
 (al:L[i]? =some ⟨key,.row T xs cap⟩) (fU:uv c E L lo CJ 0) (dr:uv c E L au CK xs.length) (hm:CJ=m) (aO:CK=n) (h:m≤n∧n≤xs.length):
 bS c E L ⟨d,.slice t x lo au none,ty,pos,af,g⟩ (.eq (hQ key m (n - m) cap (ai.size α))):= .pure fun a W s=>by
 subst hm; subst aO
 obtain⟨q6,k6⟩:=h
 obtain⟨fZ,eo,eE⟩:=eJ.info
 have J:a.eval x=_:=an a W s
 have bb:=s.own _ (List.mem_of_getElem? al)
 cases key with
 | none=>
   have hE:xs= []:=bb.1
   subst hE
   have ra:n=0:=by simpa using k6
   have gI:m=0:=by omega
   subst ra
   subst gI
   refine⟨.slice none 0 0,?_,rfl⟩
   have al:(match lo.map a.eval with | some v=>Instr.sliceBound v 0 .sliceB | none=>pure 0:Sem Nat).run c.P W= .ok 0 W:=by
    cases fU with
    | none=>rfl
    | some ao=>exact o3 (Nat.le_refl _) (of_int.1 (ao a W s))
   have jI:(match au.map a.eval,(none:Option Value) with | some v,some _=>Instr.sliceBound v 0 .slice3B | some v,none=>Instr.sliceBound v 0 .sliceAcap | none,none=>pure 0 | none,some _=>stuck "Slice: max without high" :Sem Nat).run c.P W= .ok 0 W:=by
    cases dr with
    | none=>rfl
    | some ao=>exact o3 (Nat.le_refl _) (of_int.1 (ao a W s))
   cases fU <;> cases dr
   all_goals
    simp only [a2,execOp,Instr.sliceAt,Instr.slice,Instr.sliceBounds,J,Sem.run_bind,run_underlying hu,Result.andThen_ok,Option.map_none,Option.map_some,Option.isSome_none,Bool.false_eq_true,if_false,if_true,Sem.run_pure] at al jI ⊢
    try simp only [al,jI,Result.andThen_ok,Go.sizeOf,typeInfo,Sem.run_bind,run_program,eo,Sem.run_pure]
    try simp [eo]
 | some p=>
   obtain⟨o,eG,cs,rfl,aq,bd,bN,dq⟩:=bb
   refine⟨_,?_,rfl⟩
   simp only [hQ]
   have al:∀ v,v=Value.int .i64 m→ (Instr.sliceBound v n .sliceB).run c.P W= .ok m W:=fun v a0=>o3 q6 a0
   have jI:∀ v,v=Value.int .i64 n→ (Instr.sliceBound v cap .sliceAcap).run c.P W= .ok n W:=fun v a0=>o3 (by omega) a0
   generalize eu:(n:Int)=QM at dr
   generalize Cc:(m:Int)=QN at fU
   generalize Cd:(xs.length:Int)=QO at dr
   generalize Qg:(0:Int)=QP at fU
   cases fU with
   | none=>
     have gI:m=0:=by omega
     cases dr with
     | none=>
       have k6:n=xs.length:=by omega
       subst k6
       subst gI
       simp [execOp,Instr.sliceAt,Instr.slice,Instr.sliceBounds,J,a2,run_underlying hu,Go.sizeOf,typeInfo,eo,eE,jb]
     | some b3=>
       subst eu
       subst gI
       simp [execOp,Instr.sliceAt,Instr.slice,Instr.sliceBounds,J,a2,run_underlying hu,Go.sizeOf,typeInfo,eo,eE,jb,jI _ (of_int.1 (b3 a W s))]
   | some ao=>
     subst Cc
     cases dr with
     | none=>
       have k6:n=xs.length:=by omega
       subst k6
       simp [execOp,Instr.sliceAt,Instr.slice,Instr.sliceBounds,J,a2,run_underlying hu,Go.sizeOf,typeInfo,eo,eE,jb,al _ (of_int.1 (ao a W s))]
       split <;> rfl
     | some b3=>
       subst eu
       simp [execOp,Instr.sliceAt,Instr.slice,Instr.sliceBounds,J,a2,run_underlying hu,Go.sizeOf,typeInfo,eo,eE,jb,al _ (of_int.1 (ao a W s)),jI _ (of_int.1 (b3 a W s))]
       split <;> rfl
theorem bx.again {a:Act} {W:World} (s:bx c E L a W) {i:Nat} {key:Option Nat} {cp cp':dB} (al:L[i]? =some ⟨key,cp⟩) (h:∀ A W o,cp.holds A W o→cp'.holds A W o) (aO:cp.mJ→cp'.mJ):bx c E (L.set i ⟨key,cp'⟩) a W:=by
 have hh:aQ (L.set i ⟨key,cp'⟩)=aQ L:=x2 (e:=⟨key,cp⟩) (cp:=cp') al
 exact
 {defers:=s.defers
  size:=s.size
  env:=fun t τ ao=>by rw [hh]; exact s.env t τ ao
  dG:=s.dG
  own:=fun e he=>by
   rw [hh]
   obtain⟨j,aH⟩:=List.mem_iff_getElem?.1 he
   rw [List.getElem?_set] at aH
   split at aH
   ·split at aH
    ·simp only [Option.some.injEq] at aH
     subst aH
     have bb:=s.own _ (List.mem_of_getElem? al)
     cases key with
     | none=>exact aO bb
     | some p=>obtain⟨o,J,ad⟩:=bb; exact⟨o,J,h _ _ _ ad⟩
    ·cases aH
   ·exact s.own e (List.mem_of_getElem? aH)
  nodup:=by rw [hh]; exact s.nodup
  lt:=by rw [hh]; exact s.lt
  fR:=by rw [hh]; exact s.fR
  eW:=by rw [hh]; exact s.eW }
theorem Hb {T cap n:Nat} {α:Type} [ai α] {xs:List α} (aO:n≤xs.length) {A W o} (h:(dB.row T xs cap).holds A W o):(dB.row T (xs.take n) cap).holds A W o:=by
 obtain⟨cs,rfl,J,ad,aC,aU⟩:=h
 have ao:(xs.take n).length=n:=by rw [List.length_take]; omega
 have hle:n * ai.size α≤xs.length * ai.size α:=Nat.mul_le_mul_right _ aO
 have E5:xs.length * ai.size α≤cap * ai.size α:=Nat.mul_le_mul_right _ ad
 refine⟨cs,rfl,J,by omega,aC,?_⟩
 rw [ao]
 have mv:cs.toList.length=cap * ai.size α:=by simpa using J
 refine⟨by rw [List.length_take,ao]; omega,fun i au=> ?_⟩
 have gR:i < n:=by omega
 have eu:=x4 (s:=ai.size α) gR
 have:=aU.2 i (by omega)
 rw [List.drop_take,List.take_take,Nat.min_eq_left (by omega)] at this ⊢
 rw [List.getElem_take]
 exact this
end
def qP {α:Type} [Inhabited α] (xs:List α) (lo n:Nat):List α:=xs.take lo ++ List.replicate n default ++ xs.drop (lo + n)
theorem Ma {α:Type} [ai α] {A W} {cs ds:List Value} {xs ys:List α} {lo:Nat} (h:gC A W cs xs) (c0:gC A W ds ys) (ay:lo + ys.length≤xs.length):
 gC A W (cs.take (lo * ai.size α) ++ ds ++ cs.drop (lo * ai.size α + ds.length)) (xs.take lo ++ ys ++ xs.drop (lo + ys.length)):=by
 have ao:=h.1
 have hle:lo * ai.size α≤xs.length * ai.size α:=Nat.mul_le_mul_right _ (by omega)
 have t1:gC A W (cs.take (lo * ai.size α)) (xs.take lo):=by
  have e:(xs.take lo).length=lo:=by rw [List.length_take]; omega
  refine⟨by rw [List.length_take,e]; omega,fun i au=> ?_⟩
  have gR:i < lo:=by omega
  have:=h.2 i (by omega)
  have eu:=x4 (s:=ai.size α) gR
  rw [List.drop_take,List.take_take,Nat.min_eq_left (by omega),List.getElem_take]
  exact this
 have t3:gC A W (cs.drop (lo * ai.size α + ds.length)) (xs.drop (lo + ys.length)):=by
  have e:lo * ai.size α + ds.length=(lo + ys.length) * ai.size α:=by rw [c0.1,Nat.add_mul]
  rw [e]
  refine⟨by rw [List.length_drop,List.length_drop,ao,← Nat.sub_mul],fun i au=> ?_⟩
  rw [List.length_drop] at au
  have:=h.2 (lo + ys.length + i) (by omega)
  rw [List.drop_drop,← Nat.add_mul,List.getElem_drop]
  exact this
 exact ta (ta t1 c0) t3
section
variable {c:dd} {E:List (Nat × I)} {L:List aM} {ops:Array Oper} {Q:Exit→Act→World→Prop}
variable {d:Option Tmp} {ty:TypeId} {pos:String} {af:Array Edge} {g:Option (Nat × Bool)} {x y:Operand} {t t2:TypeId}
theorem ah.clear {rest:List Oper} {i e T cap lo n:Nat} {key:Option Nat} {α:Type} [ai α] [Inhabited α] {xs r:List α} (hu:c.P.underlying t=some (.slice e)) (eJ:bw c.P e α) (gL:cF c.P e (default:α)) (eE:Nat.beq (ai.size α) 0=false)
 (an:a9 c E L x (.eq (hQ key lo n cap (ai.size α)))) (al:L[i]? =some ⟨key,.row T xs cap⟩) (aO:lo + n≤xs.length) (aR:qP xs lo n=r)
 (k:ah c ops Q rest E (L.set i ⟨key,.row T r cap⟩)):ah c ops Q (⟨none,.call ⟨.builtin .clear,#[x],#[t]⟩,ty,pos,af,none⟩ :: rest) E L:=fun a W s=>by
 subst aR
 have J:a.eval x=_:=an a W s
 have bb:=s.own _ (List.mem_of_getElem? al)
 have kd:∀ cp,L.set i ⟨key,cp⟩=L.set i ⟨key,cp⟩:=fun _=>rfl
 by_cases bI:n=0∨key=none
 ·have hE:qP xs lo n=xs:=by
   rcases bI with bI | bI
   ·subst bI; simp [qP]
   ·subst bI
    have:xs= []:=bb.1
    subst this
    have:n=0:=by simp at aO; omega
    subst this; simp [qP]
  have h5:(execOp a.eval ⟨none,.call ⟨.builtin .clear,#[x],#[t]⟩,ty,pos,af,none⟩).run c.P W= .ok (.value (.tuple #[])) W:=by
   rcases bI with bI | bI
   ·subst bI
    cases key <;> simp [execOp,resolve,invoke,builtin,Builtin.clear_,J,hQ,run_underlying hu]
   ·subst bI
    simp [execOp,resolve,invoke,builtin,Builtin.clear_,J,hQ,run_underlying hu]
  refine hy rfl (R:=fun v W'=>W'=W) (.kx h5 rfl) fun v W' hw=> ?_
  subst hw
  rw [hE] at k
  have:L.set i ⟨key,.row T xs cap⟩=L:=by
   apply List.ext_getElem?
   intro j
   rw [List.getElem?_set]
   split
   ·rename_i ft; subst ft
    have:=(List.getElem?_eq_some_iff.1 al).1
    rw [if_pos this,al]
   ·rfl
  rw [this] at k
  exact k _ _ s
 ·have ra:0 < n:=by
   rcases Nat.eq_zero_or_pos n with h | h
   ·exact absurd (.inl h) bI
   ·exact h
  obtain⟨p,cs,rfl,eG,aq,bd,bN,dq⟩:=s.rowAt al (by omega)
  obtain⟨fZ,ee,eo,db,JC⟩:=gL.zero
  have FA:=JC (aQ L ++ c.bT) W
  have Qk:ee.cells.toList.length=ai.size α:=ai.len FA.2
  have kF:ai.size α≠0:=fun h=>by rw [h] at eE; cases eE
  have Ch:=Ar FA n kF
  have wC:ee.cells.size=ai.size α:=by simpa using Qk
  have JD:Builtin.zeroCells ee.cells n=(Array.range (n * ai.size α)).map (ee.cells[· % ee.cells.size]!):=by rw [Builtin.zeroCells,wC]
  rw [← JD] at Ch
  generalize lb:(Builtin.zeroCells ee.cells n).toList=D at Ch
  have acK:D.length=n * ai.size α:=by rw [Ch.1]; simp
  have fU:cap≠lo:=by omega
  have hle:(lo + n) * ai.size α≤cap * ai.size α:=Nat.mul_le_mul_right _ (by omega)
  rw [Nat.add_mul] at hle
  have ki:=run_storeCells_at (P:=c.P) p (lo * ai.size α) _ D 0 cs W eG (by omega) Ch.one
  have h5:(execOp a.eval ⟨none,.call ⟨.builtin .clear,#[x],#[t]⟩,ty,pos,af,none⟩).run c.P W= .ok (.value (.tuple #[])) (W.setRow p (fW cs.toList (lo * ai.size α) D).toArray):=by
   obtain⟨m,rfl⟩:∃ m,n=m + 1:=⟨n - 1,by omega⟩
   simp only [Nat.add_zero] at ki
   simp [execOp,resolve,invoke,builtin,Builtin.clear_,J,hQ,run_underlying hu,fU,zeroValue,typeInfo,run_program,eo,db,lb,ki,fW]
  refine hy rfl (R:=fun v W'=>W'=W.setRow p (fW cs.toList (lo * ai.size α) D).toArray) (.kx h5 rfl) fun v W' hw=> ?_
  subst hw
  refine k _ _ (s.store al eG ?_)
  have mv:cs.toList.length=cap * ai.size α:=by simpa using aq
  have hlen:(qP xs lo n).length=xs.length:=by simp [qP]; omega
  have re:(cs.toList.take (xs.length * ai.size α)).length=xs.length * ai.size α:=by
   rw [List.length_take]
   have:xs.length * ai.size α≤cap * ai.size α:=Nat.mul_le_mul_right _ bd
   omega
  have Z1:(lo + n) * ai.size α≤xs.length * ai.size α:=Nat.mul_le_mul_right _ aO
  rw [Nat.add_mul] at Z1
  have acv:xs.length * ai.size α≤cap * ai.size α:=Nat.mul_le_mul_right _ bd
  refine⟨_,rfl,?_,by rw [hlen]; exact bd,bN,?_⟩
  ·simp only [List.size_toArray,fW,List.length_append,List.length_take,List.length_drop]; omega
  ·rw [hlen,List.toList_toArray]
   have k9:=Ma (lo:=lo) dq Ch (by simpa using aO)
   have e:(fW cs.toList (lo * ai.size α) D).take (xs.length * ai.size α)=(cs.toList.take (xs.length * ai.size α)).take (lo * ai.size α) ++ D ++ (cs.toList.take (xs.length * ai.size α)).drop (lo * ai.size α + D.length):=by
    have av:(cs.toList.take (lo * ai.size α)).length=lo * ai.size α:=by rw [List.length_take]; omega
    have aX:(cs.toList.take (lo * ai.size α) ++ D).length=lo * ai.size α + D.length:=by rw [List.length_append,av]
    rw [fW,List.take_append,aX,List.take_of_length_le (by omega),List.take_take,Nat.min_eq_left (by omega),List.drop_take]
   rw [e]
   simpa [qP] using k9
theorem bx.share {a:Act} {W:World} (s:bx c E L a W) {i fo p:Nat} {α:Type} [ai α] {z:α} (ao:look E fo=some (.eq (.pointer (some ⟨p,0,none⟩)))) (al:L[i]? =some ⟨some p,.var z⟩):bx c ((fo,.ptr z) :: E) (L.set i ⟨none,.dead⟩) a W:=by
 have ay:=s.kill i
 refine { ay with env:=fun t τ e1=> ?_ }
 simp only [look] at e1
 by_cases e:Nat.beq fo t=true
 ·rw [e] at e1
  simp only [cond_true,Option.some.injEq] at e1
  subst e1
  have:=eh.1 e
  subst this
  obtain⟨v,J,ad⟩:=s.env fo _ ao
  have kj:v=_:=ad
  subst kj
  obtain⟨o,eG,cs,T,rfl,aR⟩:=s.own _ (List.mem_of_getElem? al)
  have hlen:cs.toList.length=ai.size α:=ai.len aR
  refine⟨_,J,p,0,cs,T,(0,0),rfl,s.AB al,eG,by simp at hlen; omega,?_⟩
  rw [List.drop_zero,← hlen,List.take_length]
  have kZ:=xA (L:=L) (i:=i) (cp:= .dead)
  exact ai.mono (.drop fun k hm=>by
   rcases List.mem_append.1 hm with hm | hm
   ·exact List.mem_append.2 (.inl (kZ.subset hm))
   ·exact List.mem_append.2 (.inr hm)) aR
 ·simp only [Bool.not_eq_true] at e
  rw [e] at e1
  exact ay.env t τ e1
theorem ah.share {l:List Oper} {p:Nat} {α:Type} [ai α] {z:α} (i fo:Nat) (ao:look E fo=some (.eq (.pointer (some ⟨p,0,none⟩)))) (al:L[i]? =some ⟨some p,.var z⟩) (k:ah c ops Q l ((fo,.ptr z) :: E) (L.set i ⟨none,.dead⟩)):ah c ops Q l E L:=
 fun a W s=>k a W (s.share ao al)
theorem ag.share {code:Code} {p:Nat} {α:Type} [ai α] {z:α} (i fo:Nat) (ao:look E fo=some (.eq (.pointer (some ⟨p,0,none⟩)))) (al:L[i]? =some ⟨some p,.var z⟩) (k:ag c Q code ((fo,.ptr z) :: E) (L.set i ⟨none,.dead⟩)):ag c Q code E L:=
 fun a W s=>k a W (s.share ao al)
theorem Em {α β:Type} [ai α] [ai β] {F:α→Option β} {f:FuncId} {xs:List Operand} {τs:List I} (ej:bH c.P f) (an:hJ c E L xs τs) (h:∀ x r,F x=some r→bK c.P f (.of x :: τs) (.of r)):
 bS c E L ⟨d,.makeFunc (.func f) #[] xs.toArray,ty,pos,af,g⟩ (.we c.P F):= .pure fun a W s=>by
 have b3:=an.holds a W s
 refine⟨.func (.func f) #[] (xs.map a.eval).toArray,by simp [execOp,Instr.makeFunc],f,_,_,rfl,ej,fun c5 W' e fY x r oU nz a0=> ?_⟩
 simpa using h x r nz c5 W' (oU :: xs.map a.eval) fY (.cons a0 (b3.mono e))
def I.Flat (τ:I):Prop:= ∀ A W c5 W' v,τ.holds A W v→τ.holds c5 W' v
theorem Ap {b:Bool} :(I.of b).Flat:=fun _ _ _ _ _ h=>h
theorem uZ {b:Int} :(I.of b).Flat:=fun _ _ _ _ _ h=>h
theorem bS.Zc {o:Oper} {τ:I} {T cap:Nat} {key:Option Nat} {α:Type} [ai α] {xs:List α} (i s:Nat) (ao:look E s=some (.eq (a2 key xs.length cap))) (al:L[i]? =some ⟨key,.row T xs cap⟩) (ba:τ.Flat)
 (h:bS c ((s,.of xs) :: E) (L.set i ⟨none,.dead⟩) o τ):bS c E L o τ:=fun a W st=>by
 have:=h a W (st.freeze ao al)
 unfold gD at this ⊢
 exact Oper.wp_mono (fun gw W' ⟨v,J,ad,aC⟩=>⟨v,J,ad,ba _ _ _ _ _ aC⟩) this
def I.PS {α:Type} (xs:List α):I where
 holds _ _ v:= ∃ b:Bool,v= .bool b∧ (b=true→xs= [])
 mono _ h:=h
theorem LP {P:Program} {e:TypeId} (W:World) (d:Nat) {t:TypeId} (a:Option Addr) (l cp:Nat) (h:P.underlying t=some (.slice e)):(Op.equalIn (d + 1) t (.slice a l cp) (.slice none 0 0)).run P W= .ok a.isNone W:=by
 cases a <;> simp [Op.equalIn,run_underlying h]
theorem Of {α:Type} [ai α] {xs:List α} {e:TypeId} (hu:c.P.underlying t=some (.slice e)) (an:a9 c E L x (.of xs)):bS c E L ⟨d,.binOp .eql t x (.const (.slice none 0 0)) t2,ty,pos,af,g⟩ (.PS xs):= .pure fun a W s=>by
 have aO:a.eval (.const (.slice none 0 0))= .slice none 0 0:=rfl
 rcases m8.1 (an a W s) with⟨J,rfl⟩ | ⟨b,off,cap,cur,T,gX,J,ad⟩
 ·exact⟨.bool true,by
   simp only [execOp,eqGuard,binOp,J,aO,Op.equal,Op.maxDepth]
   simp [LP W 9999 none 0 0 hu],true,rfl,fun _=>rfl⟩
 ·exact⟨.bool false,by
   simp only [execOp,eqGuard,binOp,J,aO,Op.equal,Op.maxDepth]
   simp [LP W 9999 (some ⟨b,off,none⟩) xs.length cap hu],false,rfl,fun h=>by cases h⟩
theorem ag.Og {α:Type} {y z:Code} {xs:List α} (ao:a9 c E L x (.PS xs)) (bL:xs= []→ag c Q y E L) (ba:ag c Q z E L):ag c Q (.cond x y z) E L:=fun a W s=>by
 obtain⟨b,J,ad⟩:=ao a W s
 exact wpIn_cond_split J (fun h=>bL (ad h) a W s) (fun _=>ba a W s)
end
def c9 (c:dd) (ops:Array Oper) (Q:Exit→Act→World→Prop) (f:Nat) (a4:Array Bool) (E:List (Nat × I)) (L:List aM):Prop:=
 ∀ a W,bx c E L a W→wpAnyIn c.F 9 c.P .any ops Q f a4 a W
def sO (K:Act→World→Prop) (Q:Exit→Act→World→Prop):Exit→Act→World→Prop
 | .normal,a,W=>K a W
 | x,a,W=>Q x a W
section
variable {c:dd} {E:List (Nat × I)} {L:List aM} {ops:Array Oper} {Q:Exit→Act→World→Prop}
theorem Oper.T9 {F:Fence} {n:Nat} {P:Program} {o:Oper} {a:Act} {K:Act→World→Prop} {r:Result Next} (h:o.uponIn F n P a K (sO K Q) r):o.uponIn F n P a K Q r:=by
 cases r with
 | ok m qs=>
   cases m <;> simp only [Oper.uponIn] at h ⊢ <;>
    first
     | exact h
     | exact⟨h.1,CallsIn.mono h.2 (fun e ub he=>by cases e <;> exact he)⟩
     | exact⟨h.1,RoundIn.mono h.2 (fun e ub he=>by cases e <;> exact he)⟩
 | halt x qs=>cases x <;> simp only [Oper.uponIn] at h ⊢ <;> exact h
theorem Ae {i:Nat} {o:Oper} {K:Act→World→Prop} {a:Act} {W:World} (au:ops[i]? =some o) (h:c.pq ops (sO K Q) [o] a W):wpOpIn c.F 9 c.P ops Q i K a W:=by
 unfold wpOpIn
 simp only [au]
 simp only [dd.pq,wpListIn] at h
 split
 ·rename_i hw
  rw [if_pos hw] at h
  exact⟨h.1,Oper.T9 h.2⟩
 ·rename_i hw
  rw [if_neg hw] at h
  exact h
def Bg (c:dd) (ops:Array Oper) (Q:Exit→Act→World→Prop) (f:Nat) (a4:Array Bool) (E:List (Nat × I)) (L:List aM):List Nat→Prop
 | []=>True
 | i :: r=>(∃ o,ops[i]? =some o∧ah c ops (sO (wpAnyIn c.F 9 c.P .any ops Q f (a4.setIfInBounds i true)) Q) [o] E L)∧Bg c ops Q f a4 E L r
theorem Bg.get {f:Nat} {a4:Array Bool} :∀ {y6:List Nat},Bg c ops Q f a4 E L y6→ ∀ i∈y6,∃ o,ops[i]? =some o∧ah c ops (sO (wpAnyIn c.F 9 c.P .any ops Q f (a4.setIfInBounds i true)) Q) [o] E L
 | _ :: _,h,i,au=>by
   rcases List.mem_cons.1 au with rfl | au
   ·exact h.1
   ·exact Bg.get h.2 i au
theorem c9.step {f:Nat} {a4:Array Bool} (y6:List Nat) (aR:Region.ready .any ops a4=y6) (c6:y6.isEmpty=false) (h:Bg c ops Q f a4 E L y6):c9 c ops Q (f + 1) a4 E L:=fun a W s=>
 ⟨fun bI=>(by rw [← aR,bI] at c6; exact absurd c6 (by simp)),fun i au=>(by
  rw [aR] at au
  obtain⟨o,J,ad⟩:=h.get i au
  exact Ae J (ad a W s))⟩
theorem c9.le {f:Nat} {a4:Array Bool} {E':List (Nat × I)} (h:hG E E') (k:c9 c ops Q f a4 E' L):c9 c ops Q f a4 E L:=fun a W s=>k a W (s.less h.look)
theorem ae.any {f:Nat} {a4 AM:Array Bool} (ao:a4=AM) (k:c9 c ops Q f AM E L):ae c (sO (wpAnyIn c.F 9 c.P .any ops Q f a4) Q) .normal E L:=fun a W s=>by
 subst ao
 exact k a W s
theorem c9.cut {γ:Type} (y7:Nat) (AM:Array Bool) (E':γ→List (Nat × I)) (L':γ→List aM) {f:Nat} {a4:Array Bool} (J:∀ g,c9 c ops Q y7 AM (E' g) (L' g))
 (ad:(∀ g,c9 c ops Q y7 AM (E' g) (L' g))→c9 c ops Q f a4 E L):c9 c ops Q f a4 E L:=ad J
theorem ag.XU {oN:Nat} {l:List Oper} (hm:c.P.follows .mixedOrders=true) (n:Nat) (ls:Array Bool) (aO:l.length=n) (Ci:Array.replicate n false=ls) (h:c9 c l.toArray Q n ls E L):ag c Q (.region oN l.toArray true) E L:=fun a W s=>by
 subst aO Ci
 refine wpIn_region_any hm ?_
 have:=h a W.drew (s.world (Fr.drew W))
 simpa using this
theorem ae.perm {x:Exit} {L':List aM} (h:L.Perm L') (k:ae c Q x E L'):ae c Q x E L:=fun a W s=>k a W (s.perm h)
end
section
variable {c:dd} {E:List (Nat × I)} {L:List aM} {ops:Array Oper} {Q:Exit→Act→World→Prop}
variable {d:Option Tmp} {ty:TypeId} {pos:String} {af:Array Edge} {g:Option (Nat × Bool)} {x y:Operand} {t t2:TypeId}
theorem ah.q2 {α:Type} [ai α] {rest:List Oper} {a7 e n:Nat} {z:α} {r:List α} {br:List (Nat × Operand)} (hu:c.P.underlying t=some (.slice e)) (eJ:bw c.P e α) (gL:cF c.P e z) (hs:Nat.beq (ai.size α) 0=false) (aO:Nat.ble (n * ai.size α) 16777216=true)
 (ba:nS c E L (List.replicate n z) br r) (kM:Nat.blt a7 c.n=true) (k:∀ p,ah c ops Q rest ((a7,.eq (a2 p r.length n)) :: E) (⟨p,.row e r n⟩ :: L)):
 ah c ops Q (⟨some a7,.buildSlice t n br.toArray,ty,pos,af,none⟩ :: rest) E L:=fun a W s=>by
 obtain⟨fZ,ee,eo,db,rb⟩:=gL.zero
 have ng:fZ.size=ai.size α:=by
  obtain⟨i2,J,ad⟩:=eJ.info
  rw [eo] at J; cases J; exact ad
 have e0:ai.size α≠0:=fun h=>by rw [h] at hs; cases hs
 have qc:=Ar (rb (aQ L ++ c.bT) W) n e0
 obtain⟨dS,aC,aU,a1⟩:=ba.run a W s _ qc
 have hlen:r.length=n:=by rw [a1]; simp
 have hm:(br.toArray.map fun(x:Nat × Operand)=>(x.1,a.eval x.2)).toList=br.map fun(i,x)=>(i,a.eval x):=by simp
 have ZW:=Nat.le_of_ble_eq_true aO
 refine hy rfl (R:=fun v W'=>v= .slice (some ⟨W.heap.size,0,none⟩) n n∧W'=W.alloc (.cells dS e)) (.kx (v:= .slice (some ⟨W.heap.size,0,none⟩) n n) (W':=W.alloc (.cells dS e)) ?_ ⟨rfl,rfl⟩) fun v W' ⟨J,ad⟩=> ?_
 ·simp only [execOp,Instr.buildSlice,Sem.run_bind,run_underlying hu,Result.andThen_ok,Go.sizeOf,typeInfo,run_program,eo,Sem.run_pure,ng]
  rw [if_neg (by omega)]
  try simp only [Sem.run_pure,Result.andThen_ok,Sem.run_bind]
  by_cases bI:n * ai.size α=0
  ·have ra:n=0:=by
    rcases Nat.mul_eq_zero.1 bI with h | h
    ·exact h
    ·exact absurd h e0
   subst ra
   simp only [Nat.zero_mul,if_true,Sem.run_pure,Result.andThen_ok]
   try simp only [Nat.zero_mul] at aC
   have iZ:((Array.range 0).map (fun x=>(#[]:Array Value)[x % (#[]:Array Value).size]!))=((Array.range 0).map (ee.cells[· % ee.cells.size]!)):=by simp
   simp only [pure_bind]
   rw [iZ,hm,aC]
   simp [newRow]
  ·simp only [bI,if_false,Sem.run_bind,zeroValue,typeInfo,run_program,Result.andThen_ok,eo,db,Sem.run_pure]
   rw [hm,aC]
   simp [newRow]
 ·subst J ad
  have tJ:n≤maxLen:=by
   have:n * 1≤n * ai.size α:=Nat.mul_le_mul_left _ (by omega)
   have:maxLen=9223372036854775807:=rfl
   omega
  have eE:dS.size=n * ai.size α:=by have:=aU.1; rw [hlen] at this; simpa using this
  have b6:=s.alloc (o:= .cells dS e) (cp:= .row e r n) ⟨dS,rfl,eE,by omega,tJ,by
   have bk:=aU.1
   rw [← bk,List.take_length]
   exact aU⟩
  refine k (some W.heap.size) _ _ (b6.put (τ:= .eq (a2 (some W.heap.size) r.length n)) (by simpa using kM) ?_)
  show _=_
  rw [hlen]; rfl
theorem ah.ik {l:List Oper} {key:Option Nat} {n m cap:Nat} (fo:Nat) (ao:look E fo=some (.eq (a2 key n cap))) (aO:n=m) (k:ah c ops Q l ((fo,.eq (a2 key m cap)) :: E) L):ah c ops Q l E L:=fun a W s=>by
 subst aO
 refine k a W (s.less fun t τ h=> ?_)
 simp only [look] at h
 by_cases e:Nat.beq fo t=true
 ·rw [e] at h
  simp only [cond_true] at h
  have:=eh.1 e
  subst this
  exact⟨τ,by rw [ao,h],fun _ _ _ h=>h⟩
 ·simp only [Bool.not_eq_true] at e
  rw [e] at h
  exact⟨τ,h,fun _ _ _ h=>h⟩
end
theorem j3 {α:Type} {xs r:List α} {k:Nat} {v:α} (h:en xs k v=r):xs.length=r.length:=by rw [← h]; simp [en]
theorem L3 {α:Type} {b:Nat} {r:List α} (h:((hA b [] ([]:List α)).bind fun y=>some y)=some r):r= []:=by
 obtain⟨y,J,ad⟩:=bind_some h
 obtain⟨_,_,aC⟩:=L7 J
 rw [aC] at ad
 exact(aI ad).symm
end Gv
