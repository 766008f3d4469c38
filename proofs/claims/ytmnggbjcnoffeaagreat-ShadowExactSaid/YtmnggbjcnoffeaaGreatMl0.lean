/-
  The library of the decompiler, as far as it is needed here. Conditions: none.
-/
import Derived.WalkKit
import Derived.StillTail
import Derived.OwnWalkIn
import Derived.RangeFuncNested
import Derived.RangeFuncLeaves
import Derived.RangeFuncCalls
import Derived.ChangeSame
import Derived.OpenShut
import Derived.Carry
import Derived.DataReads
namespace Gv
open Go
theorem zy (w:World) (o:Obj) (i:Nat) (h:i < w.heap.size):(w.alloc o).heap[i]? =w.heap[i]? :=by
 show(w.heap.push o)[i]? =w.heap[i]?
 rw [Array.getElem?_push,if_neg (Nat.ne_of_lt h)]
theorem GM (w:World) (o:Obj):(w.alloc o).heap[w.heap.size]? =some o:=by
 show(w.heap.push o)[w.heap.size]? =some o
 simp
structure Fr (X:List Nat) (W W':World):Prop where
 os:W'.os=W.os
 tape:W'.tape=W.tape
 output:W'.output=W.output
 size:W.heap.size≤W'.heap.size
 block:∀ k,k < W.heap.size→k ∉ X→W'.heap[k]? =W.heap[k]?
theorem Fr.refl (X:List Nat) (W:World):Fr X W W:=⟨rfl,rfl,rfl,Nat.le_refl _,fun _ _ _=>rfl⟩
theorem Fr.trans {X:List Nat} {A B C:World} (h:Fr X A B) (k:Fr X B C):Fr X A C:=
 ⟨k.os.trans h.os,k.tape.trans h.tape,k.output.trans h.output,Nat.le_trans h.size k.size,
   fun i an aq=>(k.block i (Nat.lt_of_lt_of_le an h.size) aq).trans (h.block i an aq)⟩
theorem Fr.weaken {X Y:List Nat} {A B:World} (h:Fr X A B) (s:∀ k∈X,k∈Y):Fr Y A B:=
 ⟨h.os,h.tape,h.output,h.size,fun i an aq=>h.block i an fun hm=>aq (s _ hm)⟩
theorem Fr.nil {X:List Nat} {A B:World} (h:Fr [] A B):Fr X A B:=h.weaken (by simp)
theorem Fr.only {X Y:List Nat} {A B:World} (h:Fr X A B) (s:∀ k∈X,k < A.heap.size→k∈Y):Fr Y A B:=
 ⟨h.os,h.tape,h.output,h.size,fun i an aq=>h.block i an fun hm=>aq (s _ hm an)⟩
theorem Fr.alloc {X:List Nat} (W:World) (o:Obj):Fr X W (W.alloc o):=
 ⟨rfl,rfl,rfl,by simp,fun k av _=>zy W o k av⟩
theorem Fr.drew {X:List Nat} (W:World):Fr X W W.drew:=⟨rfl,rfl,rfl,Nat.le_refl _,fun _ _ _=>rfl⟩
theorem Fr.setRow {X:List Nat} (W:World) (g:Nat) (cs:Array Value) (h:g∈X):Fr X W (W.setRow g cs):=
 ⟨rfl,rfl,rfl,by simp,fun k _ aq=>setRow_other W g k cs (fun e=>aq (e ▸ h))⟩
structure Ext (A:List Nat) (W:World) (c7:List Nat) (W':World):Prop where
 size:W.heap.size≤W'.heap.size
 block:∀ k,k < W.heap.size→k ∉ A→W'.heap[k]? =W.heap[k]?
 new:∀ k∈c7,k < W.heap.size→k∈A
theorem Ext.refl (A:List Nat) (W:World):Ext A W A W:=⟨Nat.le_refl _,fun _ _ _=>rfl,fun _ h _=>h⟩
theorem Ext.trans {A B C:List Nat} {U V W:World} (h:Ext A U B V) (k:Ext B V C W):Ext A U C W:=
 ⟨Nat.le_trans h.size k.size,
  fun i an bn=>(k.block i (Nat.lt_of_lt_of_le an h.size) (fun hb=>bn (h.new i hb an))).trans (h.block i an bn),
  fun i ar an=>h.new i (k.new i ar (Nat.lt_of_lt_of_le an h.size)) an⟩
theorem Ext.Wz {A X:List Nat} {W W':World} (h:Fr X W W') (s:∀ k∈X,k∈A):Ext A W A W':=
 ⟨h.size,fun k av bn=>h.block k av fun aq=>bn (s k aq),fun _ h _=>h⟩
theorem Ext.dD {A:List Nat} {W W':World} (h:Fr [] W W'):Ext A W A W':= .Wz h (by simp)
theorem Ext.drop {A c7:List Nat} {W:World} (s:∀ k∈c7,k∈A):Ext A W c7 W:=⟨Nat.le_refl _,fun _ _ _=>rfl,fun k h _=>s k h⟩
structure I where
 holds:List Nat→World→Value→Prop
 mono:∀ {A W c7 W' v},Ext A W c7 W'→holds A W v→holds c7 W' v
class ai (α:Type) where
 size:Nat
 agg:Bool
 rep:List Nat→World→List Value→α→Prop
 len:∀ {A W cs x},rep A W cs x→cs.length=size
 one:∀ {A W cs x},rep A W cs x→ ∀ v∈cs,v.oneCell'=true
 flat:agg=false→size=1
 mono:∀ {A W c7 W' cs x},Ext A W c7 W'→rep A W cs x→rep c7 W' cs x
def shaped (b:Bool) (v:Value):Prop:=if b=true then ∃ cs,v= .agg cs else v.oneCell'=true
theorem nG {v:Value} (h:v.oneCell'=true):v.cells= #[v]:=by cases v <;> first | rfl | simp [Value.oneCell'] at h
def I.of {α:Type} [ai α] (x:α):I where
 holds A W v:=shaped (ai.agg α) v∧ai.rep A W v.cells.toList x
 mono e h:=⟨h.1,ai.mono e h.2⟩
def I.eq (u:Value):I where
 holds _ _ v:=v=u
 mono _ h:=h
def I.cond (c:Prop) (τ:I):I where
 holds A W v:=(c→τ.holds A W v)∧ (¬ c→v=undef)
 mono e h:=⟨fun ar=>τ.mono e (h.1 ar),h.2⟩
def I.any:I where
 holds _ _ _:=True
 mono _ h:=h
inductive gq (A:List Nat) (W:World):List I→List Value→Prop
 | nil:gq A W [] []
 | cons {τ v τs vs} :τ.holds A W v→gq A W τs vs→gq A W (τ :: τs) (v :: vs)
theorem gq.mono {A W c7 W'} (e:Ext A W c7 W'):∀ {τs vs},gq A W τs vs→gq c7 W' τs vs
 | _,_,.nil=> .nil
 | _,_,.cons h r=> .cons (I.mono _ e h) (r.mono e)
theorem gq.length {A W} :∀ {τs vs},gq A W τs vs→vs.length=τs.length
 | _,_,.nil=>rfl
 | _,_,.cons _ r=>by simp [r.length]
def I.cN (τs:List I):I where
 holds A W v:= ∃ vs:Array Value,v= .tuple vs∧gq A W τs vs.toList
 mono e h:=let⟨vs,aX,cC⟩:=h; ⟨vs,aX,cC.mono e⟩
def I.ptr {α:Type} [ai α] (x:α):I where
 holds A W v:= ∃ b off cur T gP,v= .pointer (some ⟨b,off,none⟩)∧b ∉ A∧W.heap[b]? =some (.cells cur T gP)∧off + ai.size α≤cur.size∧ai.rep A W ((cur.toList.drop off).take (ai.size α)) x
 mono e h:=by
  obtain⟨b,off,cur,T,gP,rfl,hb,cC,hs,aQ⟩:=h
  have cw:b < _:=(Array.getElem?_eq_some_iff.1 cC).1
  exact⟨b,off,cur,T,gP,rfl,fun hm=>hb (e.new b hm cw),by rw [e.block b cw hb]; exact cC,hs,ai.mono e aQ⟩
structure dM where
 holds:List Nat→World→Obj→Prop
 nf:Prop
 mono:∀ {A W c7 W' o},Ext A W c7 W'→holds A W o→holds c7 W' o
def dM.var {α:Type} [ai α] (x:α):dM where
 holds A W o:= ∃ cs T,o= .cells cs T (0,0)∧ai.rep A W cs.toList x
 nf:=False
 mono e h:=let⟨cs,T,bp,aQ⟩:=h; ⟨cs,T,bp,ai.mono e aQ⟩
def gv {α:Type} [ai α] (A:List Nat) (W:World) (cs:List Value) (xs:List α):Prop:=
 cs.length=xs.length * ai.size α∧ ∀ i (h:i < xs.length),ai.rep A W ((cs.drop (i * ai.size α)).take (ai.size α)) xs[i]
theorem gv.mono {α:Type} [ai α] {A W c7 W'} {cs:List Value} {xs:List α} (e:Ext A W c7 W') (h:gv A W cs xs):gv c7 W' cs xs:=
 ⟨h.1,fun i an=>ai.mono e (h.2 i an)⟩
def dM.row {α:Type} [ai α] (T:TypeId) (xs:List α) (cap:Nat):dM where
 holds A W o:= ∃ cs,o= .cells cs T (0,0)∧cs.size=cap * ai.size α∧xs.length≤cap∧cap≤maxLen∧gv A W (cs.toList.take (xs.length * ai.size α)) xs
 nf:=xs= []∧cap=0
 mono e h:=let⟨cs,aa,ae,aD,aV,a1⟩:=h; ⟨cs,aa,ae,aD,aV,a1.mono e⟩
def dM.dead:dM where
 holds _ _ _:=True
 nf:=True
 mono _ h:=h
structure aO where
 key:Option Nat
 cp:dM
def aO.ok (A:List Nat) (W:World) (e:aO):Prop:=
 match e.key with
 | some p=> ∃ o,W.heap[p]? =some o∧e.cp.holds A W o
 | none=>e.cp.nf
def aP:List aO→List Nat
 | []=> []
 | e :: r=>match e.key with
   | some p=>p :: aP r
   | none=>aP r
theorem kG {L:List aO} {k:Nat} :k∈aP L↔ ∃ e∈L,e.key=some k:=by
 induction L with
 | nil=>simp [aP]
 | cons e r b1=>
   cases av:e.key with
   | none=>simp [aP,av,b1]
   | some p=>simp [aP,av,b1,eq_comm]
structure dh where
 P:Program
 n:Nat
 iw:World
 X:List Nat
 b5:List Nat
 rd:Option Nat
 ds:List Nat
def DT (D:Nat):Deferred:= { target:= .collected D,args:= #[] }
abbrev dh.F (c:dh):Fence:= { fn:=fun _=>True,depth:=none,alive:=false,round:=c.rd }
abbrev dh.wp (c:dh) (y:Code) (Q:Exit→Act→World→Prop):Act→World→Prop:=y.wpIn c.F 9 c.P Q
abbrev dh.rA (c:dh) (ops:Array Oper) (Q:Exit→Act→World→Prop):List Oper→Act→World→Prop:=wpListIn c.F 9 c.P ops Q
def look:List (Nat × I)→Nat→Option I
 | [],_=>none
 | (s,τ) :: r,t=>bif Nat.beq s t then some τ else look r t
structure bS (c:dh) (E:List (Nat × I)) (L:List aO) (a:Act) (W:World):Prop where
 defers:a.defers=c.ds.map DT
 size:a.tmps.size=c.n
 env:∀ t τ,look E t=some τ→ ∃ v,a.tmps[t]? =some v∧τ.holds (aP L ++ c.b5) W v
 dD:Fr c.X c.iw W
 own:∀ e∈L,e.ok (aP L ++ c.b5) W
 nodup:(aP L).Nodup
 lt:∀ k∈aP L,k < W.heap.size
 fY:∀ k∈aP L,k < c.iw.heap.size→k∈c.X
 eU:∀ k∈c.b5,k < W.heap.size∧k ∉ aP L
theorem fc {s t:Nat} :Nat.beq s t=true↔s=t:=by
 constructor
 ·exact Nat.eq_of_beq_eq_true
 ·rintro rfl; exact Nat.beq_refl s
theorem bS.Da {c E L a W} (h:bS c E L a W):∀ k∈aP L ++ c.b5,k < W.heap.size:=by
 intro k av
 rcases List.mem_append.1 av with av | av
 ·exact h.lt k av
 ·exact(h.eU k av).1
theorem bS.world {c E L a W W'} (h:bS c E L a W) (f:Fr [] W W'):bS c E L a W' where
 defers:=h.defers
 size:=h.size
 env t τ ao:=let⟨v,aa,ae⟩:=h.env t τ ao; ⟨v,aa,τ.mono (.dD f) ae⟩
 dD:=h.dD.trans f.nil
 own e he:=by
  have aa:=h.own e he
  unfold aO.ok at *
  split at aa
  ·rename_i p hp
   obtain⟨o,bp,cC⟩:=aa
   have cw:=h.lt p (kG.2 ⟨e,he,hp⟩)
   exact⟨o,by rw [f.block p cw (by simp)]; exact bp,dM.mono _ (.dD f) cC⟩
  ·exact aa
 nodup:=h.nodup
 lt k av:=Nat.lt_of_lt_of_le (h.lt k av) f.size
 fY:=h.fY
 eU k av:=⟨Nat.lt_of_lt_of_le (h.eU k av).1 f.size,(h.eU k av).2⟩
theorem bS.put {c E L a W} (h:bS c E L a W) {d:Nat} (hd:d < c.n) {v:Value} {τ:I} (aX:τ.holds (aP L ++ c.b5) W v):
 bS c ((d,τ) :: E) L (a.put (some d) v) W where
 defers:=h.defers
 size:=by simp [Act.put,h.size]
 env t mh ao:=by
  simp only [look] at ao
  simp only [Act.put]
  by_cases e:Nat.beq d t=true
  ·rw [e] at ao
   simp only [cond_true,Option.some.injEq] at ao
   subst ao
   have:=fc.1 e
   subst this
   exact⟨v,by simp [h.size,hd],aX⟩
  ·simp only [Bool.not_eq_true] at e
   rw [e] at ao
   simp only [cond_false] at ao
   obtain⟨u,aa,ae⟩:=h.env t mh ao
   have dz:d≠t:=fun h=>by rw [fc.2 h] at e; cases e
   exact⟨u,by rw [Array.getElem?_setIfInBounds_ne dz]; exact aa,ae⟩
 dD:=h.dD
 own:=h.own
 nodup:=h.nodup
 lt:=h.lt
 fY:=h.fY
 eU:=h.eU
theorem bS.tM {c E L a W} (s:bS c E L a W) (h:c.ds= []):a.defers= []:=by rw [s.defers,h]; rfl
theorem bS.less {c E E' L a W} (h:bS c E L a W) (aH:∀ t τ,look E' t=some τ→ ∃ σ,look E t=some σ∧ ∀ A W v,σ.holds A W v→τ.holds A W v):bS c E' L a W:=
 {h with env:=fun t τ ao=>let⟨_,aa,ae⟩:=aH t τ ao; let⟨v,aD,aV⟩:=h.env t _ aa; ⟨v,aD,ae _ _ _ aV⟩ }
theorem bS.alloc {c E L a W} (h:bS c E L a W) {o:Obj} {cp:dM} (ar:cp.holds (aP L ++ c.b5) W o):
 bS c E (⟨some W.heap.size,cp⟩ :: L) a (W.alloc o):=by
 have Ax:W.heap.size ∉ aP L:=fun hm=>Nat.lt_irrefl _ (h.lt _ hm)
 have g1:Ext (aP L ++ c.b5) W (aP (⟨some W.heap.size,cp⟩ :: L) ++ c.b5) (W.alloc o):=
  ⟨by simp,fun k av _=>zy W o k av,fun k av cw=>by
   simp only [aP,List.cons_append,List.mem_cons] at av
   rcases av with rfl | av
   ·exact absurd cw (Nat.lt_irrefl _)
   ·exact av⟩
 exact
 {defers:=h.defers
  size:=h.size
  env:=fun t τ ao=>let⟨v,aa,ae⟩:=h.env t τ ao; ⟨v,aa,τ.mono g1 ae⟩
  dD:=h.dD.trans (Fr.alloc W o)
  own:=fun e he=>by
   rcases List.mem_cons.1 he with rfl | he
   ·exact⟨o,GM W o,cp.mono g1 ar⟩
   ·have aa:=h.own e he
    unfold aO.ok at *
    split at aa
    ·rename_i p hp
     obtain⟨o',bp,cC⟩:=aa
     exact⟨o',by rw [zy W o p (h.lt p (kG.2 ⟨e,he,hp⟩))]; exact bp,dM.mono _ g1 cC⟩
    ·exact aa
  nodup:=by simp only [aP]; exact List.nodup_cons.2 ⟨Ax,h.nodup⟩
  lt:=fun k av=>by
   simp only [aP,List.mem_cons] at av
   rw [World.size_alloc]
   rcases av with rfl | av
   ·omega
   ·have:=h.lt k av; omega
  fY:=fun k av cw=>by
   simp only [aP,List.mem_cons] at av
   rcases av with rfl | av
   ·have:=h.dD.size; omega
   ·exact h.fY k av cw
  eU:=fun k av=>by
   obtain⟨aa,ae⟩:=h.eU k av
   refine⟨by rw [World.size_alloc]; omega,fun hm=> ?_⟩
   simp only [aP,List.mem_cons] at hm
   rcases hm with rfl | hm
   ·omega
   ·exact ae hm }
theorem bS.sub {c E L ay a W} (h:bS c E L a W) (au:∀ e∈ay,e∈L) (aR:(aP ay).Nodup):bS c E ay a W:=by
 have av:∀ k∈aP ay,k∈aP L:=fun k av=>by
  obtain⟨e,he,ae⟩:=kG.1 av
  exact kG.2 ⟨e,au e he,ae⟩
 have g1:Ext (aP L ++ c.b5) W (aP ay ++ c.b5) W:= .drop fun k hm=>by
  rcases List.mem_append.1 hm with hm | hm
  ·exact List.mem_append.2 (.inl (av k hm))
  ·exact List.mem_append.2 (.inr hm)
 exact
 {defers:=h.defers
  size:=h.size
  env:=fun t τ ao=>let⟨v,aa,ae⟩:=h.env t τ ao; ⟨v,aa,τ.mono g1 ae⟩
  dD:=h.dD
  own:=fun e he=>by
   have aa:=h.own e (au e he)
   unfold aO.ok at *
   split at aa
   ·obtain⟨o',bp,cC⟩:=aa
    exact⟨o',bp,dM.mono _ g1 cC⟩
   ·exact aa
  nodup:=aR
  lt:=fun k hm=>h.lt k (av k hm)
  fY:=fun k hm=>h.fY k (av k hm)
  eU:=fun k hm=>⟨(h.eU k hm).1,fun ae=>(h.eU k hm).2 (av k ae)⟩ }
theorem e6 (L R:List aO):aP (L ++ R)=aP L ++ aP R:=by
 induction L with
 | nil=>rfl
 | cons e r b1=>cases av:e.key <;> simp [aP,av,b1]
theorem wh {L:List aO} {i:Nat} {e:aO} {cp:dM} (an:L[i]? =some e):aP (L.set i ⟨e.key,cp⟩)=aP L:=by
 induction L generalizing i with
 | nil=>simp at an
 | cons x r b1=>
   cases i with
   | zero=>simp only [List.getElem?_cons_zero,Option.some.injEq] at an; subst an; simp [aP]
   | succ i=>simp only [List.getElem?_cons_succ] at an; simp [aP,b1 an]
theorem GN {L:List aO} (aR:(aP L).Nodup) {i j:Nat} {e f:aO} {p:Nat} (an:L[i]? =some e) (aE:L[j]? =some f) (he:e.key=some p) (a8:f.key=some p):i=j:=by
 induction L generalizing i j with
 | nil=>simp at an
 | cons x r b1=>
   have aQ:(aP r).Nodup:=by
    cases aq:x.key with
    | none=>simpa [aP,aq] using aR
    | some q=>simp only [aP,aq] at aR; exact(List.nodup_cons.1 aR).2
   have qb:∀ q,x.key=some q→q ∉ aP r:=fun q aq=>by simp only [aP,aq] at aR; exact(List.nodup_cons.1 aR).1
   cases i with
   | zero=>
     simp only [List.getElem?_cons_zero,Option.some.injEq] at an
     subst an
     cases j with
     | zero=>rfl
     | succ j=>
       simp only [List.getElem?_cons_succ] at aE
       exact absurd (kG.2 ⟨f,List.mem_of_getElem? aE,a8⟩) (qb p he)
   | succ i=>
     simp only [List.getElem?_cons_succ] at an
     cases j with
     | zero=>
       simp only [List.getElem?_cons_zero,Option.some.injEq] at aE
       subst aE
       exact absurd (kG.2 ⟨e,List.mem_of_getElem? an,he⟩) (qb p a8)
     | succ j=>
       simp only [List.getElem?_cons_succ] at aE
       rw [b1 aQ an aE]
theorem bS.store {c E L a W} (h:bS c E L a W) {i p:Nat} {cp cp':dM} (an:L[i]? =some ⟨some p,cp⟩) {cs dK:Array Value} {T:TypeId}
 (bp:W.heap[p]? =some (.cells cs T (0,0))) (ar:cp'.holds (aP L ++ c.b5) W (.cells dK T (0,0))):
 bS c E (L.set i ⟨some p,cp'⟩) a (W.setRow p dK):=by
 have g5:aP (L.set i ⟨some p,cp'⟩)=aP L:=wh (cp:=cp') an
 have hp:p∈aP L:=kG.2 ⟨_,List.mem_of_getElem? an,rfl⟩
 have g1:Ext (aP L ++ c.b5) W (aP L ++ c.b5) (W.setRow p dK):=
  ⟨by simp,fun k _ bn=>setRow_other W p k dK (fun e=>bn (e ▸ List.mem_append.2 (.inl hp))),fun _ h _=>h⟩
 exact
 {defers:=h.defers
  size:=h.size
  env:=fun t τ ao=>by rw [g5]; exact let⟨v,aa,ae⟩:=h.env t τ ao; ⟨v,aa,τ.mono g1 ae⟩
  dD:=⟨h.dD.os,h.dD.tape,h.dD.output,by simpa using h.dD.size,fun k av aq=>by
   rw [setRow_other W p k dK (fun e=>aq (e ▸ h.fY p hp (e ▸ av)))]
   exact h.dD.block k av aq⟩
  own:=fun e he=>by
   rw [g5]
   obtain⟨j,aE⟩:=List.mem_iff_getElem?.1 he
   rw [List.getElem?_set] at aE
   split at aE
   ·rename_i fz
    subst fz
    split at aE
    ·simp only [Option.some.injEq] at aE
     subst aE
     exact⟨_,setRow_heap W p cs dK T (0,0) bp,cp'.mono g1 ar⟩
    ·cases aE
   ·rename_i fz
    have aa:=h.own e (List.mem_of_getElem? aE)
    unfold aO.ok at *
    split at aa
    ·rename_i q hq
     obtain⟨o',rB,cC⟩:=aa
     have dz:q≠p:=fun e'=>fz (GN h.nodup an aE rfl (e' ▸ hq))
     exact⟨o',by rw [setRow_other W p q dK dz]; exact rB,dM.mono _ g1 cC⟩
    ·exact aa
  nodup:=by rw [g5]; exact h.nodup
  lt:=by rw [g5]; simpa using h.lt
  fY:=by rw [g5]; exact h.fY
  eU:=by rw [g5]; simpa using h.eU }
end Gv
namespace Gv
open Go
abbrev ai.scalar {α:Type} (val:α→Value) (h:∀ x,(val x).oneCell'=true):ai α where
 size:=1
 agg:=false
 rep _ _ cs x:=cs= [val x]
 len h:=by rw [h]; rfl
 one aQ:=by subst aQ; intro v aX; rw [List.mem_singleton.1 aX]; exact h _
 flat _:=rfl
 mono _ h:=h
instance:ai Bool:= .scalar Value.bool fun _=>rfl
instance:ai Int:= .scalar (Value.int .i64) fun _=>rfl
instance:ai (BitVec 64):= .scalar (fun x=>Value.int .u64 (x.toNat:Int)) fun _=>rfl
instance:ai (BitVec 32):= .scalar (fun x=>Value.int .u32 (x.toNat:Int)) fun _=>rfl
instance:ai (BitVec 16):= .scalar (fun x=>Value.int .u16 (x.toNat:Int)) fun _=>rfl
instance:ai (BitVec 8):= .scalar (fun x=>Value.int .u8 (x.toNat:Int)) fun _=>rfl
instance:ai ByteArray:= .scalar Value.string fun _=>rfl
theorem nF {v u:Value} (h:v.oneCell'=true) (e:v.cells.toList= [u]):v=u:=by
 rw [nG h] at e
 simpa using e
theorem of_bool {A W v} {b:Bool} :(I.of b).holds A W v↔v= .bool b:=
 ⟨fun h=>nF h.1 h.2,fun h=>by subst h; exact⟨rfl,rfl⟩⟩
theorem of_int {A W v} {x:Int} :(I.of x).holds A W v↔v= .int .i64 x:=
 ⟨fun h=>nF h.1 h.2,fun h=>by subst h; exact⟨rfl,rfl⟩⟩
theorem fK {A W v} {x:BitVec 64} :(I.of x).holds A W v↔v= .int .u64 (x.toNat:Int):=
 ⟨fun h=>nF h.1 h.2,fun h=>by subst h; exact⟨rfl,rfl⟩⟩
theorem DD {A W v} {x:BitVec 8} :(I.of x).holds A W v↔v= .int .u8 (x.toNat:Int):=
 ⟨fun h=>nF h.1 h.2,fun h=>by subst h; exact⟨rfl,rfl⟩⟩
theorem MN {A W v} {x:ByteArray} :(I.of x).holds A W v↔v= .string x:=
 ⟨fun h=>nF h.1 h.2,fun h=>by subst h; exact⟨rfl,rfl⟩⟩
def bc (c:dh) (E:List (Nat × I)) (L:List aO) (x:Operand) (τ:I):Prop:= ∀ a W,bS c E L a W→τ.holds (aP L ++ c.b5) W (a.eval x)
section
variable {c:dh} {E:List (Nat × I)} {L:List aO}
theorem ab {t:Nat} {τ:I} (h:look E t=some τ):bc c E L (.tmp t) τ:=fun a W s=>by
 obtain⟨v,aa,ae⟩:=s.env t τ h
 have:a.eval (.tmp t)=v:=by simp [Act.eval,aa]
 rw [this]; exact ae
theorem ct {t:Nat} {τ:I} {p:Prop} (h:look E t=some (.cond p τ)) (hp:p):bc c E L (.tmp t) τ:=fun a W s=>(ab h a W s).1 hp
theorem C7 (v:Value):bc c E L (.const v) (.eq v):=fun _ _ _=>rfl
theorem bK (k:Int):bc c E L (.const (.int .i64 k)) (.of k):=fun _ _ _=>of_int.2 rfl
theorem fP (b:Bool):bc c E L (.const (.bool b)) (.of b):=fun _ _ _=>of_bool.2 rfl
theorem gb (x:BitVec 64) {k:Int} (h:(x.toNat:Int)=k):bc c E L (.const (.int .u64 k)) (.of x):=fun _ _ _=>fK.2 (by rw [h]; rfl)
theorem dC (s:ByteArray):bc c E L (.const (.string s)) (.of s):=fun _ _ _=>MN.2 rfl
def gw (P:Program) (o:Oper) (a:Act) (W:World) (R:Value→World→Prop):Prop:=
 o.wp P a W (fun ie W'=> ∃ v,ie=a.put o.dst v∧R v W') (fun _ _ _=>False)
theorem CallsIn.Gi {rd:Option Nat} {n:Nat} {P:Program} {f:FuncId} {args:Array Value} {w:World} {R:Ending→World→Prop}
 (h:Calls P f args w R):CallsIn { fn:=fun _=>True,depth:=none,alive:=false,round:=rd } n P f args w R:=
 (callsIn_wide (n:=n)).2 h
theorem RowsIn.UF {rd:Option Nat} {n:Nat} {P:Program} {row:String} {args:Array Value} {w:World} {R:Value→World→Prop}
 (h:Rows P row args w R):RowsIn { fn:=fun _=>True,depth:=none,alive:=false,round:=rd } n P row args w R:=
 fun c cs _=>let⟨v,u9,r,s⟩:=h c cs; ⟨v,u9,r,stepsIn_wide.2 s⟩
theorem gw.wp {P:Program} {o:Oper} {a:Act} {W:World} {R:Value→World→Prop} {next:Act→World→Prop} {Q:Exit→Act→World→Prop}
 (h:gw P o a W R) (av:∀ v W',R v W'→next (a.put o.dst v) W'):o.wp P a W next Q:=by
 unfold gw Oper.wp at *
 generalize (execOp a.eval o).run P W=r at *
 cases r with
 | ok n W'=>
   cases n <;> simp only [Oper.upon] at h ⊢
   case value v=>obtain⟨u,aa,ae⟩:=h; rw [aa]; exact av _ _ ae
   case skip=>obtain⟨u,aa,ae⟩:=h; rw [aa]; exact av _ _ ae
   case defer d=>obtain⟨u,aa,ae⟩:=h; rw [aa]; exact av _ _ ae
   case enter f args=>
    refine h.mono fun e sV he=> ?_
    cases e with
    | returned v=>obtain⟨u,aa,ae⟩:=he; simp only at aa ⊢; rw [aa]; exact av _ _ ae
    | panicked Jp=>exact he.elim
    | outgrown=>obtain⟨_,_,aa⟩:=he; exact aa.elim
   case row row args=>exact h.mono fun v sV ⟨u,aa,ae⟩=>by rw [aa]; exact av _ _ ae
 | halt x W'=>cases x <;> simp only [Oper.upon] at h
theorem gw.S9 {P:Program} {o:Oper} {a:Act} {W:World} {R:Value→World→Prop} (h:gw P o a W R):∀ c,o.op≠ .defer c:=by
 intro c bp
 unfold gw Oper.wp execOp at h
 rw [bp] at h
 simp only [Sem.run_bind] at h
 generalize (resolve a.eval c o.type).run P W=r at h
 cases r with
 | ok d W'=>
   simp only [Result.andThen,Sem.run_pure,Oper.upon] at h
   obtain⟨v,aa,_⟩:=h
   have:=congrArg Act.defers aa
   cases hd:o.dst <;> simp [Act.put,hd] at this
 | halt x W'=>cases x <;> simp only [Result.andThen,Oper.upon] at h
theorem gw.wpIn {c:dh} {n:Nat} {o:Oper} {a:Act} {W:World} {R:Value→World→Prop} {next:Act→World→Prop} {Q:Exit→Act→World→Prop}
 (h:gw c.P o a W R) (av:∀ v W',R v W'→next (a.put o.dst v) W'):o.wpIn c.F n c.P a W next Q:=by
 refine⟨fun _ _=>trivial,?_⟩
 rw [Oper.semAt_eq _ _ _ h.S9]
 unfold gw Oper.wp at h
 generalize (execOp a.eval o).run c.P W=r at *
 cases r with
 | ok m W'=>
   cases m <;> simp only [Oper.upon,Oper.uponIn] at h ⊢
   case value v=>obtain⟨u,aa,ae⟩:=h; rw [aa]; exact av _ _ ae
   case skip=>obtain⟨u,aa,ae⟩:=h; rw [aa]; exact av _ _ ae
   case defer d=>obtain⟨u,aa,ae⟩:=h; rw [aa]; exact av _ _ ae
   case enter f args=>
    refine⟨fun h=>by simp at h,CallsIn.Gi ?_⟩
    refine h.mono fun e sV he=> ?_
    cases e with
    | returned v=>obtain⟨u,aa,ae⟩:=he; simp only at aa ⊢; rw [aa]; exact av _ _ ae
    | panicked Jp=>exact he.elim
    | outgrown=>obtain⟨_,_,aa⟩:=he; exact aa.elim
   case row row args=>
    refine⟨fun h=>by simp at h,RowsIn.UF ?_⟩
    exact h.mono fun v sV ⟨u,aa,ae⟩=>by rw [aa]; exact av _ _ ae
 | halt x W'=>cases x <;> simp only [Oper.upon] at h
theorem Rt {c:dh} {n:Nat} {o:Oper} {a:Act} {W W':World} {v:Value} {next:Act→World→Prop} {Q:Exit→Act→World→Prop}
 (h:(execOp a.eval o).run c.P W= .ok (.value v) W') (av:next (a.put o.dst v) W'):o.wpIn c.F n c.P a W next Q:=
 gw.wpIn (R:=fun u U=>u=v∧U=W') (by unfold gw Oper.wp; rw [h]; exact⟨v,rfl,rfl,rfl⟩) fun u U ⟨aa,ae⟩=>by subst aa; subst ae; exact av
theorem Ks {c:dh} {n:Nat} {o:Oper} {a:Act} {W W':World} {next:Act→World→Prop} {Q:Exit→Act→World→Prop}
 (h:(execOp a.eval o).run c.P W= .ok .skip W') (av:next (a.put o.dst undef) W'):o.wpIn c.F n c.P a W next Q:=
 gw.wpIn (R:=fun u U=>u=undef∧U=W') (by unfold gw Oper.wp; rw [h]; exact⟨undef,rfl,rfl,rfl⟩) fun u U ⟨aa,ae⟩=>by subst aa; subst ae; exact av
theorem Fg {F:Fence} {n:Nat} {P:Program} {md:Region.Mode} {ops:Array Oper} {xp:Exit→Act→World→Prop} :∀ (l:List Oper) (k:Nat) (b4:Array Bool) (a:Act) (w:World),(∀ j,l[j]? =ops[k + j]?)→
 Region.seqB md ops l.length k b4=true→wpListIn F n P ops xp l a w→wpAnyIn F n P md ops xp l.length b4 a w
 | [],_,_,_,_,_,jc,h=>⟨by simpa [Region.seqB] using jc,h⟩
 | o :: l,k,b4,a,w,ao,jc,h=>by
   have bW:ops[k]? =some o:=by simpa using (ao 0).symm
   simp only [List.length_cons,Region.seqB,Bool.and_eq_true,decide_eq_true_eq] at jc
   refine⟨fun aa=>(by rw [jc.1] at aa; cases aa),fun i an=> ?_⟩
   rw [jc.1] at an
   have j6:i=k:=by simpa using an
   subst j6
   have hw:wpOpIn F n P ops xp i (wpListIn F n P ops xp l) a w:=by unfold wpOpIn; simp only [bW]; exact h
   exact wpOpIn_mono (fun ie u9 cZ=>Fg l (i + 1) _ ie u9 (fun j=>by have:=ao (j + 1); simpa [Nat.add_assoc,Nat.add_comm 1 j] using this) jc.2 cZ) hw
theorem gw.l5 {P:Program} {o:Oper} {a:Act} {W W':World} {R:Value→World→Prop} {v:Value}
 (h:(execOp a.eval o).run P W= .ok (.value v) W') (aQ:R v W'):gw P o a W R:=by
 unfold gw Oper.wp
 rw [h]
 exact⟨v,rfl,aQ⟩
theorem gw.v8 {P:Program} {o:Oper} {a:Act} {W W':World} {R:Value→World→Prop}
 (h:(execOp a.eval o).run P W= .ok .skip W') (aQ:R undef W'):gw P o a W R:=by
 unfold gw Oper.wp
 rw [h]
 exact⟨undef,rfl,aQ⟩
theorem gw.tN {P:Program} {o:Oper} {a:Act} {W W':World} {R:Value→World→Prop} {f:FuncId} {args:Array Value}
 (h:(execOp a.eval o).run P W= .ok (.enter f args) W') (aQ:Calls P f args W' fun e sV=> ∃ v,e= .returned v∧R v sV):gw P o a W R:=by
 unfold gw Oper.wp
 rw [h]
 exact aQ.mono fun e sV ⟨v,he,ae⟩=>by subst he; exact⟨v,rfl,ae⟩
def b7 (c:dh) (E:List (Nat × I)) (L:List aO) (o:Oper) (τ:I):Prop:=
 ∀ a W,bS c E L a W→gw c.P o a W fun v W'=>Fr [] W W'∧τ.holds (aP L ++ c.b5) W' v
theorem b7.pure {o:Oper} {τ:I} (h:∀ a W,bS c E L a W→ ∃ v,(execOp a.eval o).run c.P W= .ok (.value v) W∧τ.holds (aP L ++ c.b5) W v):b7 c E L o τ:=
 fun a W s=>let⟨_,aa,ae⟩:=h a W s; .l5 aa ⟨.refl _ _,ae⟩
variable {ops:Array Oper} {Q:Exit→Act→World→Prop}
def aj (c:dh) (ops:Array Oper) (Q:Exit→Act→World→Prop) (l:List Oper) (E:List (Nat × I)) (L:List aO):Prop:=
 ∀ a W,bS c E L a W→c.rA ops Q l a W
def ad (c:dh) (Q:Exit→Act→World→Prop) (x:Exit) (E:List (Nat × I)) (L:List aO):Prop:= ∀ a W,bS c E L a W→Q x a W
theorem aj.nil (h:ad c Q .normal E L):aj c ops Q [] E L:=fun a W s=>wpListIn_nil (h a W s)
theorem h6 {c:dh} {o:Oper} {rest:List Oper} {a:Act} {W:World} (bP:o.guard=none) {R:Value→World→Prop} (h:gw c.P o a W R)
 (av:∀ v W',R v W'→c.rA ops Q rest (a.put o.dst v) W'):c.rA ops Q (o :: rest) a W:=
 wpListIn_plain bP fun _ tf=>h.wpIn fun v W' aQ=>tf _ _ (av v W' aQ)
theorem aj.v {o:Oper} {rest:List Oper} {d:Nat} {τ:I} (h:b7 c E L o τ) (bP:o.guard=none) (hd:o.dst=some d) (aR:Nat.blt d c.n=true)
 (k:aj c ops Q rest ((d,τ) :: E) L):aj c ops Q (o :: rest) E L:=fun a W s=>
 h6 bP (h a W s) fun v W' ⟨f,aX⟩=>by
  rw [hd]
  exact k _ _ ((s.world f).put (by simpa using aR) aX)
theorem aj.x {o:Oper} {rest:List Oper} {τ:I} (h:b7 c E L o τ) (bP:o.guard=none) (hd:o.dst=none)
 (k:aj c ops Q rest E L):aj c ops Q (o :: rest) E L:=fun a W s=>
 h6 bP (h a W s) fun v W' ⟨f,_⟩=>by
  rw [hd]
  exact k _ _ (s.world f)
theorem CB {j g:Nat} {b:Bool} (aE:(ops[j]?).bind (·.dst)=some g) (ao:look E g=some (.of b)) {a:Act} {W:World} (s:bS c E L a W):
 yielded ops a.tmps j=some b:=by
 obtain⟨v,aa,ae⟩:=s.env g _ ao
 unfold yielded
 rw [aE]
 simp only [Option.bind_some,aa,of_bool.1 ae]
theorem aj.g {o:Oper} {rest:List Oper} {d j g:Nat} {b want:Bool} {τ:I} (h:b=want→b7 c E L o τ) (bP:o.guard=some (j,want)) (aE:(ops[j]?).bind (·.dst)=some g)
 (ao:look E g=some (.of b)) (hd:o.dst=some d) (aR:Nat.blt d c.n=true)
 (k:aj c ops Q rest ((d,.cond (b=want) τ) :: E) L):aj c ops Q (o :: rest) E L:=fun a W s=>by
 have a6:=CB aE ao s
 unfold dh.rA wpListIn
 by_cases hb:b=want
 ·rw [if_pos (by simp [Region.wanted,bP,a6,hb])]
  refine((h hb a W s).wpIn fun v W' ⟨f,aX⟩=> ?_)
  rw [hd]
  exact k _ _ ((s.world f).put (by simpa using aR) ⟨fun _=>aX,fun h=>absurd hb h⟩)
 ·rw [if_neg (by simp [Region.wanted,bP,a6,hb])]
  rw [hd]
  exact⟨fun _ _=>trivial,k _ _ (s.put (by simpa using aR) ⟨fun h=>absurd h hb,fun _=>rfl⟩)⟩
theorem Kt {j g:Nat} {p:Prop} {b:Bool} (aE:(ops[j]?).bind (·.dst)=some g) (ao:look E g=some (.cond p (.of b))) {a:Act} {W:World} (s:bS c E L a W):
 (p→yielded ops a.tmps j=some b)∧ (¬ p→yielded ops a.tmps j=none):=by
 obtain⟨v,aa,ae,aD⟩:=s.env g _ ao
 unfold yielded
 rw [aE]
 simp only [Option.bind_some,aa]
 exact⟨fun hp=>by simp only [of_bool.1 (ae hp)],fun hp=>by simp only [aD hp]; rfl⟩
theorem aj.gg {o:Oper} {rest:List Oper} {d j g:Nat} {p:Prop} {b want:Bool} {τ:I} (h:p∧b=want→b7 c E L o τ) (bP:o.guard=some (j,want)) (aE:(ops[j]?).bind (·.dst)=some g)
 (ao:look E g=some (.cond p (.of b))) (hd:o.dst=some d) (aR:Nat.blt d c.n=true)
 (k:aj c ops Q rest ((d,.cond (p∧b=want) τ) :: E) L):aj c ops Q (o :: rest) E L:=fun a W s=>by
 have a6:=Kt aE ao s
 unfold dh.rA wpListIn
 by_cases hb:p∧b=want
 ·rw [if_pos (by simp [Region.wanted,bP,a6.1 hb.1,hb.2])]
  refine((h hb a W s).wpIn fun v W' ⟨f,aX⟩=> ?_)
  rw [hd]
  exact k _ _ ((s.world f).put (by simpa using aR) ⟨fun _=>aX,fun h=>absurd hb h⟩)
 ·have hw:Region.wanted o (yielded ops a.tmps)=false:=by
   by_cases hp:p
   ·have: ¬ (b=want):=fun h=>hb ⟨hp,h⟩
    simp [Region.wanted,bP,a6.1 hp,this]
   ·simp [Region.wanted,bP,a6.2 hp]
  rw [if_neg (by simp [hw])]
  refine⟨fun _ _=>trivial,?_⟩
  rw [hd]
  exact k _ _ (s.put (by simpa using aR) ⟨fun h=>absurd h hb,fun _=>rfl⟩)
def sub:List (Nat × I)→List Nat→List (Nat × I)
 | _,[]=> []
 | E,t :: r=>match look E t with
   | some τ=>(t,τ) :: sub E r
   | none=>sub E r
inductive hv (E:List (Nat × I)):List (Nat × I)→Prop
 | nil:hv E []
 | cons {t τ σ r} :look E t=some σ→ (∀ A W v,σ.holds A W v→τ.holds A W v)→hv E r→hv E ((t,τ) :: r)
theorem hv.same {t:Nat} {τ:I} {r:List (Nat × I)} (h:look E t=some τ) (k:hv E r):hv E ((t,τ) :: r):= .cons h (fun _ _ _ h=>h) k
theorem hv.look:∀ {E':List (Nat × I)},hv E E'→ ∀ t τ,Gv.look E' t=some τ→ ∃ σ,Gv.look E t=some σ∧ ∀ A W v,σ.holds A W v→τ.holds A W v
 | _,.nil,t,τ,h=>by simp [Gv.look] at h
 | _,.cons (t:=s) (σ:=σ) aa ae r,t,τ,h=>by
   simp only [Gv.look] at h
   by_cases e:Nat.beq s t=true
   ·rw [e] at h
    simp only [cond_true,Option.some.injEq] at h
    subst h
    rw [fc.1 e] at aa
    exact⟨σ,aa,ae⟩
   ·simp only [Bool.not_eq_true] at e
    rw [e] at h
    exact r.look t τ h
theorem ad.le {x:Exit} {E':List (Nat × I)} (h:hv E E') (k:ad c Q x E' L):ad c Q x E L:=fun a W s=>k a W (s.less h.look)
theorem aj.le {l:List Oper} {E':List (Nat × I)} (h:hv E E') (k:aj c ops Q l E' L):aj c ops Q l E L:=fun a W s=>k a W (s.less h.look)
def ah (c:dh) (Q:Exit→Act→World→Prop) (code:Code) (E:List (Nat × I)) (L:List aO):Prop:= ∀ a W,bS c E L a W→c.wp code Q a W
theorem ah.le {code:Code} {E':List (Nat × I)} (h:hv E E') (k:ah c Q code E' L):ah c Q code E L:=fun a W s=>k a W (s.less h.look)
theorem ah.cn {id:Nat} {l:List Oper} (h:aj c l.toArray Q l E L):ah c Q (.region id l.toArray false) E L:=fun a W s=>wpIn_region_lit (h a W s)
theorem ah.seq {x y:Code} (h:ah c (Exit.then (c.wp y Q) Q) x E L):ah c Q (.seq x y) E L:=fun a W s=>wpIn_seq (h a W s)
theorem ad.next {y:Code} (h:ah c Q y E L):ad c (Exit.then (c.wp y Q) Q) .normal E L:=fun a W s=>h a W s
theorem ad.exit {y:Act→World→Prop} {id:Nat} (h:ad c Q (.exit id) E L):ad c (Exit.then y Q) (.exit id) E L:=fun a W s=>h a W s
theorem ad.ret {y:Act→World→Prop} (h:ad c Q .ret E L):ad c (Exit.then y Q) .ret E L:=fun a W s=>h a W s
theorem ah.block {id:Nat} {x:Code} (h:ah c (Exit.inBlock id Q) x E L):ah c Q (.block id x) E L:=fun a W s=>wpIn_block (h a W s)
theorem ad.dG {id:Nat} (h:ad c Q .normal E L):ad c (Exit.inBlock id Q) .normal E L:=fun a W s=>h a W s
theorem ad.eT {id:Nat} (h:ad c Q .normal E L):ad c (Exit.inBlock id Q) (.exit id) E L:=fun a W s=>by
 show(if id=id then Q .normal a W else Q (.exit id) a W)
 rw [if_pos rfl]; exact h a W s
theorem ad.UA {id AR:Nat} (dz:Nat.beq AR id=false) (h:ad c Q (.exit AR) E L):ad c (Exit.inBlock id Q) (.exit AR) E L:=fun a W s=>by
 show(if AR=id then Q .normal a W else Q (.exit AR) a W)
 rw [if_neg (fun e=>by rw [e,Nat.beq_refl] at dz; cases dz)]; exact h a W s
theorem ad.dQ {id:Nat} (h:ad c Q .ret E L):ad c (Exit.inBlock id Q) .ret E L:=fun a W s=>h a W s
theorem ah.skip (h:ad c Q .normal E L):ah c Q .skip E L:=fun a W s=>wpIn_skip (h a W s)
theorem ah.exit {id:Nat} (h:ad c Q (.exit id) E L):ah c Q (.exit id) E L:=fun a W s=>wpIn_exit (h a W s)
theorem ah.ret (h:ad c Q .ret E L):ah c Q .ret E L:=fun a W s=>wpIn_ret (h a W s)
theorem ah.cond {x:Operand} {b:Bool} {y z:Code} (ao:bc c E L x (.of b)) (cj:b=true→ah c Q y E L) (a8:b=false→ah c Q z E L):ah c Q (.cond x y z) E L:=
 fun a W s=>wpIn_cond_split (of_bool.1 (ao a W s)) (fun h=>cj h a W s) (fun h=>a8 h a W s)
def ei {σ ε:Type} :Nat→ (σ→Option (σ ⊕ ε))→σ→Option ε
 | 0,_,_=>none
 | n + 1,b,s=>match b s with
   | none=>none
   | some (.inl ca)=>ei n b ca
   | some (.inr e)=>some e
def Pu {σ ε:Type} (c:dh) (E:σ→List (Nat × I)) (L:σ→List aO) (xs:ε→Exit) (fJ:ε→List (Nat × I)) (Lx:ε→List aO):σ ⊕ ε→Exit→Act→World→Prop
 | .inl s,x,a,W=>x= .normal∧bS c (E s) (L s) a W
 | .inr e,x,a,W=>x≠ .normal∧x=xs e∧bS c (fJ e) (Lx e) a W
theorem ad.round {σ ε:Type} {E':σ→List (Nat × I)} {ay:σ→List aO} {xs:ε→Exit} {fJ:ε→List (Nat × I)} {Lx:ε→List aO} {s:σ}
 (h:∀ a W,bS c E L a W→bS c (E' s) (ay s) a W):ad c (Pu c E' ay xs fJ Lx (.inl s)) .normal E L:=fun a W st=>⟨rfl,h a W st⟩
theorem K2 {F:Fence} {n:Nat} {P:Program} {body:Code} {σ ε:Type} (b:σ→Option (σ ⊕ ε)) (fB:σ→Act→World→Prop) (X:ε→Exit→Act→World→Prop)
 (ot:∀ s r,b s=some r→ ∀ a W,fB s a W→body.wpIn F n P (fun x a W=>match r with | .inl ca=>x= .normal∧fB ca a W | .inr e=>x≠ .normal∧X e x a W) a W)
 (Q:Exit→Act→World→Prop) (e:ε) (nN:∀ x a W,X e x a W→Q x a W) {cd:σ} {N:Nat} (ao:ei N b cd=some e) {fM:Act} {iw:World} (bW:fB cd fM iw):
 (Code.loop body).wpIn F n P Q fM iw:=by
 intro dD k cs xa hb aQ
 have key:∀ N s,ei N b s=some e→ ∀ a W,fB s a W→
  ∃ x ie W',Q x ie W'∧ArrivesIn (Machine.fenced P F) P (lone (dD.atR a (.code body :: .inLoop body :: k)) cs W) dD k cs x ie W':=by
  intro N
  induction N with
  | zero=>intro s h; simp [ei] at h
  | succ N b1=>
    intro s h a W kA
    simp only [ei] at h
    split at h
    ·cases h
    ·rename_i ca hs
     obtain⟨x,wV,wW,hq,qc⟩:=ot s _ hs a W kA dD (.inLoop body :: k) cs xa hb aQ
     obtain⟨aq,Ig⟩:=hq
     subst aq
     obtain⟨HL,HM,HN,Hk,Gj⟩:=b1 ca h wV wW Ig
     exact⟨HL,HM,HN,Hk,.of_steps (StepsIn.trans qc (.one (fenced_calm hb aQ rfl) stepR_inLoop)) Gj⟩
    ·rename_i e' hs
     simp only [Option.some.injEq] at h
     subst h
     obtain⟨x,wV,wW,hq,qc⟩:=ot s _ hs a W kA dD (.inLoop body :: k) cs xa hb aQ
     obtain⟨aq,Jq⟩:=hq
     exact⟨x,wV,wW,nN _ _ _ Jq,.pass (x:= .inLoop body) rfl (fun _ _=> .inl aq) qc⟩
 obtain⟨x,ie,W',hq,qc⟩:=key N cd ao fM iw bW
 exact⟨x,ie,W',hq,.of_steps (.one (fenced_calm hb aQ rfl) stepR_loop) qc⟩
theorem ah.loop {σ ε:Type} {body:Code} {N:Nat} {b:σ→Option (σ ⊕ ε)} {cd:σ} {e:ε} (ao:ei N b cd=some e)
 (E:σ→List (Nat × I)) (L:σ→List aO) (xs:ε→Exit) (fJ:ε→List (Nat × I)) (Lx:ε→List aO)
 (q9:∀ s r,b s=some r→ah c (Pu c E L xs fJ Lx r) body (E s) (L s))
 (nN:ad c Q (xs e) (fJ e) (Lx e)):ah c Q (.loop body) (E cd) (L cd):=fun a W st=>
 K2 b (fun s a W=>bS c (E s) (L s) a W) (fun e x a W=>x=xs e∧bS c (fJ e) (Lx e) a W)
  (fun s r hs a W kA=>wpIn_mono (q9 s r hs a W kA) (fun x a W h=>by
   cases r with
   | inl ca=>exact h
   | inr e'=>exact⟨h.1,h.2⟩)) Q e (fun x a W ⟨aq,hs⟩=>by subst aq; exact nN a W hs) ao st
def bw (P:Program) (f:FuncId) (τs:List I) (ρ:I):Prop:=
 ∀ (A:List Nat) (W:World) (vs:List Value),(∀ k∈A,k < W.heap.size)→gq A W τs vs→
   Calls P f vs.toArray W fun e W'=> ∃ v,e= .returned v∧Fr [] W W'∧ρ.holds A W' v
def params:Nat→List I→List (Nat × I)
 | _,[]=> []
 | k,τ :: r=>(k,τ) :: params (k + 1) r
theorem tE {A:List Nat} {W:World} {τs:List I} {vs:List Value} (h:gq A W τs vs):∀ (k t:Nat) (τ:I),look (params k τs) t=some τ→k≤t∧ ∃ v,vs[t - k]? =some v∧τ.holds A W v:=by
 induction h with
 | nil=>intro k t τ h; simp [params,look] at h
 | cons aa r b1=>
   intro k t τ ao
   simp only [params,look] at ao
   by_cases e:Nat.beq k t=true
   ·rw [e] at ao
    simp only [cond_true,Option.some.injEq] at ao
    subst ao
    rw [fc.1 e]
    exact⟨Nat.le_refl _,_,by simp,aa⟩
   ·simp only [Bool.not_eq_true] at e
    rw [e] at ao
    have dz:k≠t:=fun h=>by rw [fc.2 h] at e; cases e
    obtain⟨ae,v,aD,aV⟩:=b1 (k + 1) t τ ao
    refine⟨by omega,v,?_,aV⟩
    rw [show t - k=(t - (k + 1)) + 1 by omega,List.getElem?_cons_succ]
    exact aD
theorem bw.enter {P:Program} {f:FuncId} {fn:Func} {code:Code} {n:Nat} {τs:List I} {ρ:I} (a8:P.funcs[f]? =some fn) (hb:fn.body=some code) (aR:fn.ntmps=n) (hlen:Nat.ble τs.length n=true)
 (h:∀ W A,ah ⟨P,n,W,[],A,none,[]⟩ (bodyPost P fn fun e W'=> ∃ v,e= .returned v∧Fr [] W W'∧ρ.holds A W' v) code (params 0 τs) []):bw P f τs ρ:=by
 intro A W vs fV aX
 refine calls_of_wp a8 hb (wpIn_wide.1 (h W A _ _ ?_))
 have ao:=aX.length
 have hle:τs.length≤n:=Nat.le_of_ble_eq_true hlen
 exact
 {defers:=rfl
  size:=by simp [aR,ao]; omega
  env:=fun t τ ld=>by
   obtain⟨_,v,ae,aD⟩:=tE aX 0 t τ ld
   refine⟨v,?_,aD⟩
   have cw:t < vs.length:=(List.getElem?_eq_some_iff.1 ae).1
   rw [Array.getElem?_append_left (by simpa using cw)]
   simpa using ae
  dD:= .refl _ _
  own:=by simp
  nodup:=by simp [aP]
  lt:=by simp [aP]
  fY:=by simp [aP]
  eU:=fun k av=>⟨fV k av,by simp [aP]⟩ }
theorem KM {ρ:I} {A B:List Nat} {W:World} {v:Value} (h:ρ.holds (B ++ A) W v):ρ.holds A W v:=ρ.mono (.drop fun _ h=>List.mem_append.2 (.inr h)) h
end
end Gv
namespace Gv
open Go
set_option linter.unusedVariables false
section
variable {c:dh} {E:List (Nat × I)} {L:List aO} {ops:Array Oper} {Q:Exit→Act→World→Prop}
def kb (c:dh) (ops:Array Oper) (E:List (Nat × I)) (L:List aO) (o:Oper) (τ:I):Prop:=
 ∀ a W,bS c E L a W→
   (Region.wanted o (yielded ops a.tmps)=true→gw c.P o a W fun v W'=>Fr [] W W'∧τ.holds (aP L ++ c.b5) W' v)∧
   (Region.wanted o (yielded ops a.tmps)=false→τ.holds (aP L ++ c.b5) W undef)
theorem kb.v {o:Oper} {τ:I} (h:b7 c E L o τ) (bP:o.guard=none):kb c ops E L o τ:=fun a W s=>
 ⟨fun _=>h a W s,fun hw=>by simp [Region.wanted,bP] at hw⟩
theorem kb.g {o:Oper} {j g:Nat} {b want:Bool} {τ:I} (h:b=want→b7 c E L o τ) (bP:o.guard=some (j,want)) (aE:(ops[j]?).bind (·.dst)=some g) (ao:look E g=some (.of b)):
 kb c ops E L o (.cond (b=want) τ):=fun a W s=>by
 have a6:=CB aE ao s
 constructor
 ·intro hw
  have hb:b=want:=by simpa [Region.wanted,bP,a6] using hw
  refine gw.wp (h hb a W s) fun v W' ⟨f,aX⟩=>⟨v,rfl,f,fun _=>aX,fun h=>absurd hb h⟩
 ·intro hw
  exact⟨fun hb=>by simp [Region.wanted,bP,a6,hb] at hw,fun _=>rfl⟩
theorem kb.gg {o:Oper} {j g:Nat} {p:Prop} {b want:Bool} {τ:I} (h:p∧b=want→b7 c E L o τ) (bP:o.guard=some (j,want)) (aE:(ops[j]?).bind (·.dst)=some g) (ao:look E g=some (.cond p (.of b))):
 kb c ops E L o (.cond (p∧b=want) τ):=fun a W s=>by
 have a6:=Kt aE ao s
 have sW:Region.wanted o (yielded ops a.tmps)=true→p∧b=want:=by
  intro hw
  by_cases hp:p
  ·exact⟨hp,by simpa [Region.wanted,bP,a6.1 hp] using hw⟩
  ·simp [Region.wanted,bP,a6.2 hp] at hw
 constructor
 ·intro hw
  refine gw.wp (h (sW hw) a W s) fun v W' ⟨f,aX⟩=>⟨v,rfl,f,fun _=>aX,fun h=>absurd (sW hw) h⟩
 ·intro hw
  exact⟨fun hb=>by simp [Region.wanted,bP,a6.1 hb.1,hb.2] at hw,fun _=>rfl⟩
inductive fh
 | val (τ:I)
 | new (cp:dM)
 | j3 (i:Nat) (cp:dM)
 | lK (j:Nat) (cp:dM)
def fh.ng:fh→Bool
 | .j3 _ _ | .lK _ _=>true
 | _=>false
def fh.qu (p:Nat):fh→Option I
 | .val τ=>some τ
 | .new _=>some (.eq (.pointer (some ⟨p,0,none⟩)))
 | _=>none
def he (bq:Nat→Nat) (ed:List (Option Nat)) (hs:List fh) (E:List (Nat × I)):List Nat→List (Nat × I)
 | []=>E
 | j :: r=>match ed[j]?,hs[j]? with
   | some (some s),some h=>match h.qu (bq j) with
     | some τ=>(s,τ) :: he bq ed hs E r
     | none=>he bq ed hs E r
   | _,_=>he bq ed hs E r
def wL:List aO→Nat→dM→List aO
 | [],_,_=> []
 | e :: r,0,cp=>⟨e.key,cp⟩ :: r
 | e :: r,i + 1,cp=>e :: wL r i cp
theorem SD {L:List aO} {i:Nat} {e:aO} {cp:dM} (h:L[i]? =some e):wL L i cp=L.set i ⟨e.key,cp⟩:=by
 induction L generalizing i with
 | nil=>simp at h
 | cons x r b1=>
   cases i with
   | zero=>simp only [List.getElem?_cons_zero,Option.some.injEq] at h; subst h; rfl
   | succ i=>simp only [List.getElem?_cons_succ] at h; simp [wL,b1 h]
def dS (L:List aO):List fh→List aO
 | []=>L
 | .j3 i cp :: r=>dS (wL L i cp) r
 | _ :: r=>dS L r
def ia (j:Nat) (cp:dM):List fh→dM
 | []=>cp
 | .lK i cp' :: r=>ia j (bif Nat.beq i j then cp' else cp) r
 | _ :: r=>ia j cp r
theorem KN (L:List aO) (r:List fh) (h:fh):dS L (r ++ [h])=dS (dS L r) [h]:=by
 induction r generalizing L with
 | nil=>rfl
 | cons x r b1=>cases x <;> simp only [List.cons_append,dS] <;> exact b1 _
theorem Fm (j:Nat) (cp:dM) (r:List fh) (h:fh):ia j cp (r ++ [h])=ia j (ia j cp r) [h]:=by
 induction r generalizing cp with
 | nil=>rfl
 | cons x r b1=>cases x <;> simp only [List.cons_append,ia] <;> exact b1 _
theorem CJ {L:List aO} :∀ {r:List fh},(∀ h∈r,h.ng=false)→dS L r=L
 | [],_=>rfl
 | h :: r,cC=>by
   have:=cC h (by simp)
   have b1:=CJ (L:=L) (r:=r) (fun x aq=>cC x (by simp [aq]))
   cases h <;> first | exact b1 | cases this
theorem CC {j:Nat} {cp:dM} :∀ {r:List fh},(∀ h∈r,h.ng=false)→ia j cp r=cp
 | [],_=>rfl
 | h :: r,cC=>by
   have:=cC h (by simp)
   have b1:=CC (j:=j) (cp:=cp) (r:=r) (fun x aq=>cC x (by simp [aq]))
   cases h <;> first | exact b1 | cases this
def oz (w:Nat→Bool) (i:Nat):Nat→List fh→Bool
 | _,[]=>true
 | k,.j3 j _ :: r=>(!(Nat.beq j i) || w k) && oz w i (k + 1) r
 | k,.val _ :: r=>oz w i (k + 1) r
 | k,.new _ :: r=>oz w i (k + 1) r
 | k,.lK _ _ :: r=>oz w i (k + 1) r
theorem RL {L:List aO} {i j:Nat} {cp:dM} (h:i≠j):(wL L i cp)[j]? =L[j]? :=by
 induction L generalizing i j with
 | nil=>rfl
 | cons e r b1=>
   cases i with
   | zero=>cases j with
     | zero=>exact absurd rfl h
     | succ j=>rfl
   | succ i=>cases j with
     | zero=>rfl
     | succ j=>simp only [wL,List.getElem?_cons_succ]; exact b1 (by omega)
theorem yP {L:List aO} {i:Nat} {w:Nat→Bool} :∀ {r:List fh} (b k:Nat),oz w i k r=true→ (∀ q,q < b→ (∃ j cp,r[q]? =some (.j3 j cp))→w (k + q)=false)→ (dS L (r.take b))[i]? =L[i]?
 | [],b,_,_,_=>by simp [dS]
 | h :: r,0,_,_,_=>by simp [dS]
 | .j3 j cp :: r,b + 1,k,h,hw=>by
   simp only [oz,Bool.and_eq_true,Bool.or_eq_true,Bool.not_eq_true'] at h
   have YJ:w k=false:=by simpa using hw 0 (by omega) ⟨j,cp,by simp⟩
   have dz:j≠i:=fun e=>by
    rw [e,Nat.beq_refl,YJ] at h
    rcases h.1 with h | h <;> cases h
   rw [List.take_succ_cons,dS,yP b (k + 1) h.2 (fun q hq aq=>by have:=hw (q + 1) (by omega) (by simpa using aq); rw [← this]; congr 1; omega),RL dz]
 | .val _ :: r,b + 1,k,h,hw=>by rw [List.take_succ_cons]; exact yP (r:=r) b (k + 1) h (fun q hq aq=>by have:=hw (q + 1) (by omega) (by simpa using aq); rw [← this]; congr 1; omega)
 | .new _ :: r,b + 1,k,h,hw=>by rw [List.take_succ_cons]; exact yP (r:=r) b (k + 1) h (fun q hq aq=>by have:=hw (q + 1) (by omega) (by simpa using aq); rw [← this]; congr 1; omega)
 | .lK _ _ :: r,b + 1,k,h,hw=>by rw [List.take_succ_cons]; exact yP (r:=r) b (k + 1) h (fun q hq aq=>by have:=hw (q + 1) (by omega) (by simpa using aq); rw [← this]; congr 1; omega)
def Jr (P:Program) (o:Oper) (cp:dM):Prop:=
 o.guard=none∧ ∃ jy,(∀ A W,cp.holds A W jy)∧ ∀ (a:Act) W,(execOp a.eval o).run P W= .ok (.value (.pointer (some ⟨W.heap.size,0,none⟩))) (W.alloc jy)
def Bx (c:dh) (E:List (Nat × I)) (L:List aO) (o:Oper) (p:Nat) (cp:dM):Prop:=
 o.guard=none∧o.dst=none∧ ∀ a W,bS c E L a W→ ∃ cs dK T,W.heap[p]? =some (.cells cs T (0,0))∧ (execOp a.eval o).run c.P W= .ok .skip (W.setRow p dK)∧cp.holds (aP L ++ c.b5) W (.cells dK T (0,0))
def p3 (c:dh) (ops:Array Oper) (bq:Nat→Nat) (ed:List (Option Nat)) (all:List fh) (E:List (Nat × I)) (L:List aO):Nat→List Oper→List fh→List (List Nat)→Prop
 | _,_,[],_=>True
 | i,o :: os,.val τ :: hs,d :: ds=>(∀ ay:List aO,(∀ (j:Nat) (e:aO),L[j]? =some e→oz (fun k=>Region.waitsFor .any ops k i) j 0 all=true→ay[j]? =some e)→kb c ops (he bq ed all E d) ay o τ)∧p3 c ops bq ed all E L (i + 1) os hs ds
 | i,o :: os,.new cp :: hs,_ :: ds=>Jr c.P o cp∧p3 c ops bq ed all E L (i + 1) os hs ds
 | i,o :: os,.j3 k cp :: hs,d :: ds=>(∃ (p:Nat) (mN:dM),(dS L (all.take i))[k]? =some ⟨some p,mN⟩∧ ∀ ay:List aO,(∀ (j:Nat) (e:aO),(dS L (all.take i))[j]? =some e→ay[j]? =some e)→Bx c (he bq ed all E d) ay o p cp)∧p3 c ops bq ed all E L (i + 1) os hs ds
 | i,o :: os,.lK k cp :: hs,d :: ds=>(d.contains k=true∧ ∃ mN:dM,all[k]? =some (.new mN)∧ ∀ (ay:List aO) (q:Nat),ay[q]? =some ⟨some (bq k),ia k mN (all.take i)⟩→Bx c (he bq ed all E d) ay o (bq k) cp)∧p3 c ops bq ed all E L (i + 1) os hs ds
 | _,_,_,_=>False
def DE (ops:Array Oper) (n:Nat) (ed:List (Option Nat)) (rn:List (List Nat)) (AS:List Bool) (ZR:Nat):Bool:=
 decide (ed.length=n) && decide (n≤ops.size) && (ed.filterMap id).all (Nat.blt · ZR) && decide (ed.filterMap id).Nodup &&
 ((List.range n).all fun i=>((ops[i]?).map fun o=>(some o.dst ==ed[i]?) && (o.after.all fun e=> !Region.binds .any e || decide (e.on < i))).getD false) &&
 ((List.range n).all fun i=>(rn.getD i []).all fun j=>decide (j < n) && Region.waitsFor .any ops i j) &&
 ((List.range n).all fun i=> !(AS.getD i false) || ((List.range i).all fun j=> !(AS.getD j false) || Region.waitsFor .any ops i j)) &&
 (decide (n=ops.size) || (Region.sinkB .any ops n && Region.chainB .any ops n)) &&
 Region.seqB .any ops (ops.size - n) n ((List.range n).foldl (fun l i=>l.setIfInBounds i true) (Array.replicate ops.size false))
def Ay (E:List (Nat × I)) (ed:List Nat):Bool:=match E with
 | []=>true
 | e :: r=> !(ed.contains e.1) && Ay r ed
theorem FG {ed:List Nat} :∀ {E:List (Nat × I)},Ay E ed=true→ ∀ t τ,look E t=some τ→t ∉ ed
 | [],_,t,τ,h=>by simp [look] at h
 | (s,σ) :: r,hd,t,τ,h=>by
   simp only [Ay,Bool.and_eq_true,Bool.not_eq_true'] at hd
   simp only [look] at h
   by_cases e:Nat.beq s t=true
   ·have:=fc.1 e
    subst this
    simpa using hd.1
   ·simp only [Bool.not_eq_true] at e
    rw [e] at h
    exact FG hd.2 t τ h
theorem MO (f g:Nat→Bool) (i:Nat) (a8:f i=true) (bP:g i=false) (h:∀ j,g j=true→f j=true):∀ n,i < n→ ((List.range n).filter g).length < ((List.range n).filter f).length:=by
 have le:∀ n,((List.range n).filter g).length≤ ((List.range n).filter f).length:=by
  intro n
  induction n with
  | zero=>simp
  | succ n b1=>
    rw [List.range_succ,List.filter_append,List.filter_append,List.length_append,List.length_append]
    have:([n].filter g).length≤ ([n].filter f).length:=by
     cases rC:g n with
     | false=>simp [rC]
     | true=>simp [rC,h n rC]
    omega
 intro n
 induction n with
 | zero=>omega
 | succ n b1=>
   intro cw
   rw [List.range_succ,List.filter_append,List.filter_append,List.length_append,List.length_append]
   by_cases e:i=n
   ·subst e
    have:=le i
    simp [a8,bP]
    omega
   ·have aa:=b1 (by omega)
    have:([n].filter g).length≤ ([n].filter f).length:=by
     cases rC:g n with
     | false=>simp [rC]
     | true=>simp [rC,h n rC]
    omega
theorem FH {bq:Nat→Nat} {ed:List (Option Nat)} {all:List fh} :∀ {k:Nat} {os:List Oper} {hs:List fh} {ds:List (List Nat)},p3 c ops bq ed all E L k os hs ds→
 ∀ (i:Nat) h,hs[i]? =some h→ ∃ o,os[i]? =some o∧ (match h with
   | .val τ=> ∀ ay:List aO,(∀ (j:Nat) (e:aO),L[j]? =some e→oz (fun q=>Region.waitsFor .any ops q (k + i)) j 0 all=true→ay[j]? =some e)→kb c ops (he bq ed all E (ds.getD i [])) ay o τ
   | .new cp=>Jr c.P o cp
   | .j3 q cp=> ∃ (p:Nat) (mN:dM),(dS L (all.take (k + i)))[q]? =some ⟨some p,mN⟩∧ ∀ ay:List aO,(∀ (j:Nat) (e:aO),(dS L (all.take (k + i)))[j]? =some e→ay[j]? =some e)→Bx c (he bq ed all E (ds.getD i [])) ay o p cp
   | .lK q cp=>(ds.getD i []).contains q=true∧ ∃ mN:dM,all[q]? =some (.new mN)∧ ∀ (ay:List aO) (r:Nat),ay[r]? =some ⟨some (bq q),ia q mN (all.take (k + i))⟩→Bx c (he bq ed all E (ds.getD i [])) ay o (bq q) cp)
 | k,os,[],ds,_,i,h,an=>by simp at an
 | k,[],h :: hs,ds,cC,_,_,_=>by cases h <;> simp [p3] at cC
 | k,o :: os,h :: hs,[],cC,_,_,_=>by cases h <;> simp [p3] at cC
 | k,o :: os,bW :: hs,d :: ds,cC,i,h,an=>by
   have hd:p3 c ops bq ed all E L (k + 1) os hs ds:=by cases bW <;> exact cC.2
   cases i with
   | zero=>
     simp only [List.getElem?_cons_zero,Option.some.injEq] at an
     subst an
     refine⟨o,by simp,?_⟩
     cases bW <;> exact cC.1
   | succ i=>
     simp only [List.getElem?_cons_succ] at an
     obtain⟨o',aa,ae⟩:=FH hd i h an
     refine⟨o',by simpa using aa,?_⟩
     rw [show k + (i + 1)=k + 1 + i by omega]
     cases h <;> exact ae
theorem L8 {bq:Nat→Nat} {ed:List (Option Nat)} {hs:List fh} {t:Nat} {τ:I} :∀ {ds:List Nat},look (he bq ed hs E ds) t=some τ→ (∃ j∈ds,ed[j]? =some (some t)∧ ∃ h,hs[j]? =some h∧h.qu (bq j)=some τ)∨look E t=some τ
 | [],h=> .inr h
 | j :: r,h=>by
   have rest:look (he bq ed hs E r) t=some τ→ (∃ k∈j :: r,ed[k]? =some (some t)∧ ∃ h,hs[k]? =some h∧h.qu (bq k)=some τ)∨look E t=some τ:=fun h=>by
    rcases L8 h with⟨k,av,aa⟩ | aa
    ·exact .inl ⟨k,List.mem_cons_of_mem _ av,aa⟩
    ·exact .inr aa
   simp only [he] at h
   split at h
   ·rename_i s av sX AT
    split at h
    ·rename_i σ lf
     simp only [look] at h
     by_cases e:Nat.beq s t=true
     ·rw [e] at h
      simp only [cond_true,Option.some.injEq] at h
      subst h
      exact .inl ⟨j,by simp,by rw [sX,fc.1 e],av,AT,lf⟩
     ·simp only [Bool.not_eq_true] at e
      rw [e] at h
      exact rest h
    ·exact rest h
   ·exact rest h
def sQ (bq:Nat→Nat) (E:List (Nat × I)):Nat→List (Option Nat)→List fh→List (Nat × I)
 | i,some s :: h4,.val τ :: hs=>(s,τ) :: sQ bq E (i + 1) h4 hs
 | i,some s :: h4,.new _ :: hs=>(s,.eq (.pointer (some ⟨bq i,0,none⟩))) :: sQ bq E (i + 1) h4 hs
 | i,_ :: h4,_ :: hs=>sQ bq E (i + 1) h4 hs
 | _,_,_=>E
def lA (bq:Nat→Nat) (all:List fh) (L:List aO):Nat→List fh→List aO
 | i,.new cp :: hs=>⟨some (bq i),ia i cp all⟩ :: lA bq all L (i + 1) hs
 | i,_ :: hs=>lA bq all L (i + 1) hs
 | _,[]=>L
theorem K3 {bq:Nat→Nat} {t:Nat} {τ:I} :∀ {ed:List (Option Nat)} {hs:List fh} (k:Nat),look (sQ bq E k ed hs) t=some τ→
 (∃ j:Nat,ed[j]? =some (some t)∧ ∃ h,hs[j]? =some h∧h.qu (bq (k + j))=some τ)∨look E t=some τ
 | [],hs,k,h=> .inr (by cases hs <;> exact h)
 | s :: h4,[],k,h=> .inr (by cases s <;> exact h)
 | s :: h4,x :: hs,k,h=>by
   have rest:look (sQ bq E (k + 1) h4 hs) t=some τ→ (∃ j:Nat,(s :: h4)[j]? =some (some t)∧ ∃ h,(x :: hs)[j]? =some h∧h.qu (bq (k + j))=some τ)∨look E t=some τ:=fun h=>by
    rcases K3 (k + 1) h with⟨j,aa,ae⟩ | aa
    ·refine .inl ⟨j + 1,by simpa using aa,?_⟩
     rw [show k + (j + 1)=k + 1 + j by omega]
     simpa using ae
    ·exact .inr aa
   have one:∀ (ca:Nat) (σ:I),s=some ca→x.qu (bq k)=some σ→look ((ca,σ) :: sQ bq E (k + 1) h4 hs) t=some τ→ (∃ j:Nat,(s :: h4)[j]? =some (some t)∧ ∃ h,(x :: hs)[j]? =some h∧h.qu (bq (k + j))=some τ)∨look E t=some τ:=fun ca σ fr lf h=>by
    simp only [look] at h
    by_cases e:Nat.beq ca t=true
    ·rw [e] at h
     simp only [cond_true,Option.some.injEq] at h
     subst h
     exact .inl ⟨0,by simp [fr,fc.1 e],x,by simp,by simpa using lf⟩
    ·simp only [Bool.not_eq_true] at e
     rw [e] at h
     exact rest h
   cases s with
   | none=>cases x <;> exact rest h
   | some ca=>
     cases x with
     | val σ=>exact one ca σ rfl rfl h
     | new cp=>exact one ca _ rfl rfl h
     | j3 i cp=>exact rest h
     | lK i cp=>exact rest h
theorem R5 {n:Nat} {b4:Array Bool} (inv:HeadInv .any ops n b4) (aR:n≤ops.size) (jG:∀ i,i < n→b4.getD i true=true):
 b4=(List.range n).foldl (fun l i=>l.setIfInBounds i true) (Array.replicate ops.size false):=by
 have key:∀ m,m≤ops.size→ ((List.range m).foldl (fun l i=>l.setIfInBounds i true) (Array.replicate ops.size false)).size=ops.size∧
  ∀ j (d:Bool),j < ops.size→ ((List.range m).foldl (fun l i=>l.setIfInBounds i true) (Array.replicate ops.size false)).getD j d=decide (j < m):=by
  intro m
  induction m with
  | zero=>intro _; exact⟨by simp,fun j d aE=>by simp [aE]⟩
  | succ m b1=>
    intro hm
    obtain⟨aa,ae⟩:=b1 (by omega)
    rw [List.range_succ,List.foldl_append]
    simp only [List.foldl_cons,List.foldl_nil]
    refine⟨by simpa using aa,fun j d aE=> ?_⟩
    by_cases e:m=j
    ·subst e
     simp [aa,aE]
    ·rw [getD_set_ne d e,ae j d aE]
     by_cases aD:j < m
     ·simp [aD]; omega
     ·simp [aD]; omega
 obtain⟨aa,ae⟩:=key n aR
 apply Array.ext
 ·rw [inv.size,aa]
 ·intro i OL YK
  have an:i < ops.size:=by rw [← inv.size]; exact OL
  have aD:=ae i true an
  have aA:b4.getD i true=b4[i]:=by simp [OL]
  have aU:((List.range n).foldl (fun l i=>l.setIfInBounds i true) (Array.replicate ops.size false)).getD i true=((List.range n).foldl (fun l i=>l.setIfInBounds i true) (Array.replicate ops.size false))[i]:=by
   simp [YK]
  rw [← aU,aD,← aA]
  by_cases aV:i < n
  ·rw [jG i aV]; simp [aV]
  ·rw [inv.tail i (by omega) an]; simp [aV]
theorem vL (bq:Nat→Nat) (all:List fh) (L:List aO):∀ (hs:List fh) (i:Nat),lA bq all L i hs=lA bq all [] i hs ++ L
 | [],_=>rfl
 | .new cp :: hs,i=>by simp only [lA]; rw [vL bq all L hs (i + 1)]; rfl
 | .val _ :: hs,i=>vL bq all L hs (i + 1)
 | .j3 _ _ :: hs,i=>vL bq all L hs (i + 1)
 | .lK _ _ :: hs,i=>vL bq all L hs (i + 1)
theorem FI {bq:Nat→Nat} {all:List fh} {e:aO} :∀ {hs:List fh} {i:Nat},e∈lA bq all [] i hs→ ∃ (j:Nat) (cp:dM),hs[j]? =some (.new cp)∧e=⟨some (bq (i + j)),ia (i + j) cp all⟩
 | [],_,h=>by simp [lA] at h
 | x :: hs,i,h=>by
   have rest:e∈lA bq all [] (i + 1) hs→ ∃ (j:Nat) (cp:dM),(x :: hs)[j]? =some (.new cp)∧e=⟨some (bq (i + j)),ia (i + j) cp all⟩:=fun h=>by
    obtain⟨j,cp,aa,ae⟩:=FI (hs:=hs) (i:=i + 1) h
    refine⟨j + 1,cp,by simpa using aa,?_⟩
    rw [show i + (j + 1)=i + 1 + j by omega]; exact ae
   cases x with
   | new cp=>
     rcases List.mem_cons.1 h with h | h
     ·exact⟨0,cp,by simp,by simpa using h⟩
     ·exact rest h
   | val _=>exact rest h
   | j3 _ _=>exact rest h
   | lK _ _=>exact rest h
theorem Kg {bq:Nat→Nat} {all:List fh} :∀ (hs:List fh) (i:Nat),(∀ (j k:Nat) (u v:dM),hs[j]? =some (.new u)→hs[k]? =some (.new v)→bq (i + j)=bq (i + k)→j=k)→ (aP (lA bq all [] i hs)).Nodup
 | [],_,_=>by simp [lA,aP]
 | x :: hs,i,h=>by
   have aQ:(aP (lA bq all [] (i + 1) hs)).Nodup:=Kg hs (i + 1) fun j k u v aa ae aD=>by
    have:=h (j + 1) (k + 1) u v (by simpa using aa) (by simpa using ae) (by rw [show i + (j + 1)=i + 1 + j by omega,show i + (k + 1)=i + 1 + k by omega]; exact aD)
    omega
   cases x with
   | val _=>exact aQ
   | j3 _ _=>exact aQ
   | lK _ _=>exact aQ
   | new cp=>
     simp only [lA,aP]
     refine List.nodup_cons.2 ⟨fun hm=> ?_,aQ⟩
     obtain⟨e,he,av⟩:=kG.1 hm
     obtain⟨j,u,aa,ae⟩:=FI he
     rw [ae] at av
     simp only [Option.some.injEq] at av
     have:=h 0 (j + 1) cp u (by simp) (by simpa using aa) (by rw [show i + (j + 1)=i + 1 + j by omega]; simpa using av.symm)
     omega
def fk (bq:Nat→Nat) (all:List fh) (b:Nat) (dq:List Nat):List aO:=dq.map fun j=>⟨some (bq j),match all[j]? with | some (.new cp)=>ia j cp (all.take b) | _=> .dead⟩
theorem y8 (bq:Nat→Nat) (all:List fh) (b:Nat):∀ (dq:List Nat),aP (fk bq all b dq)=dq.map bq
 | []=>rfl
 | j :: dq=>by
   have:=y8 bq all b dq
   simp only [fk,List.map_cons,aP] at this ⊢
   rw [this]
structure xb (c:dh) (n:Nat) (ed:List (Option Nat)) (hs:List fh) (E:List (Nat × I)) (L:List aO) (b4:Array Bool) (bq:Nat→Nat) (dq:List Nat) (b:Nat) (a:Act) (W:World):Prop where
 st:bS c E (dS L (hs.take b) ++ fk bq hs b dq) a W
 done:∀ (j:Nat) s h τ,j < n→b4.getD j false=true→ed[j]? =some (some s)→hs[j]? =some h→h.qu (bq j)=some τ→ ∃ v,a.tmps[s]? =some v∧τ.holds (aP (dS L (hs.take b) ++ fk bq hs b dq) ++ c.b5) W v
 news:∀ (j:Nat),j∈dq↔ (j < n∧b4.getD j false=true∧ ∃ cp,hs[j]? =some (.new cp))
 stored:∀ (j:Nat) h,hs[j]? =some h→h.ng=true→ (b4.getD j false=true↔j < b)
 ble:b≤n
theorem Ta {hs:List fh} {b i:Nat} {h:fh} (hb:b≤i) (an:hs[i]? =some h) (aR:∀ (j:Nat) x,b≤j→j < i→hs[j]? =some x→x.ng=false):
 ∃ r,hs.take i=hs.take b ++ r∧ ∀ x∈r,x.ng=false:=by
 refine⟨(hs.drop b).take (i - b),?_,fun x aq=> ?_⟩
 ·rw [← List.take_add]; congr 1; omega
 ·obtain⟨j,aE⟩:=List.mem_iff_getElem?.1 aq
  rw [List.getElem?_take] at aE
  split at aE
  ·rw [List.getElem?_drop] at aE
   exact aR (b + j) x (by omega) (by omega) aE
  ·cases aE
theorem Gk (L:List aO) (r s:List fh):dS L (r ++ s)=dS (dS L r) s:=by
 induction r generalizing L with
 | nil=>rfl
 | cons x r b1=>cases x <;> simp only [List.cons_append,dS] <;> exact b1 _
theorem FT (j:Nat) (cp:dM) (r s:List fh):ia j cp (r ++ s)=ia j (ia j cp r) s:=by
 induction r generalizing cp with
 | nil=>rfl
 | cons x r b1=>cases x <;> simp only [List.cons_append,ia] <;> exact b1 _
theorem tQ {L R:List aO} (h:L.Perm R):(aP L).Perm (aP R):=by
 induction h with
 | nil=>exact .nil
 | cons x _ b1=>cases av:x.key <;> simp only [aP,av] <;> first | exact b1 | exact b1.cons _
 | swap x y l=>
   cases aq:x.key <;> cases a6:y.key <;> simp only [aP,aq,a6]
   all_goals first | exact .refl _ | exact .swap _ _ _
 | trans _ _ aa ae=>exact aa.trans ae
theorem bS.perm {E L ay a W} (h:bS c E L a W) (p:L.Perm ay):bS c E ay a W:=
 h.sub (fun e he=>p.mem_iff.2 he) ((tQ p).nodup_iff.1 h.nodup)
theorem yL {j:Nat} {cp:dM} :∀ {r:List fh},(∀ q x,fh.lK q x∈r→q≠j)→ia j cp r=cp
 | [],_=>rfl
 | .lK q x :: r,h=>by
   have aa:=h q x (by simp)
   have e:Nat.beq q j=false:=by
    cases hb:Nat.beq q j with
    | false=>rfl
    | true=>exact absurd (fc.1 hb) aa
   simp only [ia,e,cond_false]
   exact yL fun q x hm=>h q x (by simp [hm])
 | .val _ :: r,h=>yL (r:=r) fun q x hm=>h q x (by simp [hm])
 | .new _ :: r,h=>yL (r:=r) fun q x hm=>h q x (by simp [hm])
 | .j3 _ _ :: r,h=>yL (r:=r) fun q x hm=>h q x (by simp [hm])
theorem Ku (f:Nat→Nat):∀ (l:List Nat),(l.map f).Nodup→l.Nodup
 | [],_=>by simp
 | x :: r,h=>by
   simp only [List.map_cons] at h
   obtain⟨aa,ae⟩:=List.nodup_cons.1 h
   exact List.nodup_cons.2 ⟨fun hm=>aa (List.mem_map.2 ⟨x,hm,rfl⟩),Ku f r ae⟩
theorem TV {bq mO:Nat→Nat} {all:List fh} {b:Nat} {dq:List Nat} (h:∀ j∈dq,mO j=bq j):fk mO all b dq=fk bq all b dq:=by
 unfold fk
 exact List.map_congr_left fun j aE=>by rw [h j aE]
theorem SE {n:Nat} {ed:List (Option Nat)} {hs:List fh} {rn:List (List Nat)} (jc:DE ops n ed rn (hs.map fh.ng) c.n=true) (aH:Ay E (ed.filterMap id)=true) (hlen:hs.length=n)
 (cC:∀ bq,p3 c ops bq ed hs E L 0 ops.toList hs rn) (cj:∀ bq,aj c ops Q (ops.toList.drop n) (sQ bq E 0 ed hs) (lA bq hs (dS L hs) 0 hs)):
 ∀ m (b4:Array Bool) (bq:Nat→Nat) (dq:List Nat) (b:Nat) (a:Act) (W:World),((List.range n).filter fun i=> !b4.getD i true).length≤m→HeadInv .any ops n b4→xb c n ed hs E L b4 bq dq b a W→
   wpAnyIn c.F 9 c.P .any ops Q (m + (ops.size - n)) b4 a W:=by
 simp only [DE,Bool.and_eq_true,decide_eq_true_eq,Bool.or_eq_true] at jc
 obtain⟨⟨⟨⟨⟨⟨⟨⟨lN,aR⟩,cw⟩,iM⟩,X1⟩,NP⟩,X2⟩,WA⟩,HO⟩:=jc
 have xc:∀ i,i < n→ ∃ o,ops[i]? =some o∧ed[i]? =some o.dst∧ ∀ e∈o.after,Region.binds .any e=true→e.on < i:=by
  intro i an
  have aa:=List.all_eq_true.1 X1 i (List.mem_range.2 an)
  cases bp:ops[i]? with
  | none=>simp [bp] at aa
  | some o=>
    simp only [bp,Option.map_some,Option.getD_some,Bool.and_eq_true,beq_iff_eq] at aa
    refine⟨o,rfl,aa.1.symm,fun e he hb=> ?_⟩
    have:=Array.all_eq_true_iff_forall_mem.1 aa.2 e he
    simp [hb] at this
    exact this
 have DU:∀ (i s:Nat),ed[i]? =some (some s)→s < c.n:=fun i s h=>by
  have:s∈ed.filterMap id:=List.mem_filterMap.2 ⟨some s,List.mem_of_getElem? h,rfl⟩
  have:=List.all_eq_true.1 cw s this
  simpa using this
 have Ol:∀ (i j s:Nat),ed[i]? =some (some s)→ed[j]? =some (some s)→i=j:=by
  have key:∀ (l:List (Option Nat)),(l.filterMap id).Nodup→ ∀ (i j s:Nat),l[i]? =some (some s)→l[j]? =some (some s)→i=j:=by
   intro l
   induction l with
   | nil=>intro _ i j s h; simp at h
   | cons x r b1=>
     intro iM i j s an aE
     have aQ:(r.filterMap id).Nodup:=by
      cases x with
      | none=>simpa using iM
      | some y=>simp only [List.filterMap_cons_some (f:=id) (a:=some y) (b:=y) rfl] at iM; exact(List.nodup_cons.1 iM).2
     have qb:x=some s→s ∉ r.filterMap id:=fun e=>by
      subst e
      simp only [List.filterMap_cons_some (f:=id) (a:=some s) (b:=s) rfl] at iM
      exact(List.nodup_cons.1 iM).1
     cases i with
     | zero=>
       simp only [List.getElem?_cons_zero,Option.some.injEq] at an
       cases j with
       | zero=>rfl
       | succ j=>
         simp only [List.getElem?_cons_succ] at aE
         exact absurd (List.mem_filterMap.2 ⟨some s,List.mem_of_getElem? aE,rfl⟩:s∈r.filterMap id) (qb an)
     | succ i=>
       simp only [List.getElem?_cons_succ] at an
       cases j with
       | zero=>
         simp only [List.getElem?_cons_zero,Option.some.injEq] at aE
         exact absurd (List.mem_filterMap.2 ⟨some s,List.mem_of_getElem? an,rfl⟩:s∈r.filterMap id) (qb aE)
       | succ j=>
         simp only [List.getElem?_cons_succ] at aE
         rw [b1 aQ i j s an aE]
  exact key ed iM
 intro m
 induction m with
 | zero=>
   intro b4 bq dq b a W hm inv mid
   have jG:∀ i,i < n→b4.getD i true=true:=by
    intro i an
    cases h:b4.getD i true with
    | true=>rfl
    | false=>
      have:i∈ (List.range n).filter fun i=> !b4.getD i true:=List.mem_filter.2 ⟨List.mem_range.2 an,by rw [h]; rfl⟩
      rw [List.length_eq_zero_iff.1 (Nat.le_zero.1 hm)] at this
      cases this
   have ao:=R5 inv aR jG
   rw [← ao] at HO
   have nh:(ops.toList.drop n).length=ops.size - n:=by simp
   rw [Nat.zero_add,← nh]
   rw [← nh] at HO
   refine Fg (ops.toList.drop n) n b4 a W (fun j=>by simp) HO (cj bq a W ?_)
   have sq:∀ j,j < n→b4.getD j false=true:=fun j pq=>by
    have aD:=jG j pq
    have aV:j < b4.size:=by rw [inv.size]; omega
    simpa [aV] using aD
   have pq:∀ (j:Nat) (h:fh),hs[j]? =some h→j < n:=fun j h aE=>by have:=(List.getElem?_eq_some_iff.1 aE).1; omega
   have MP:∀ x∈hs.drop b,x.ng=false:=fun x aq=>by
    obtain⟨j,aE⟩:=List.mem_iff_getElem?.1 aq
    rw [List.getElem?_drop] at aE
    cases iF:x.ng with
    | false=>rfl
    | true=>
      have:=(mid.stored (b + j) x aE iF).1 (sq _ (pq _ _ aE))
      omega
   have Om:dS L hs=dS L (hs.take b):=by
    conv=>lhs; rw [← List.take_append_drop b hs]
    rw [Gk,CJ MP]
   have Ih:∀ (j:Nat) cp,ia j cp hs=ia j cp (hs.take b):=fun j cp=>by
    conv=>lhs; rw [← List.take_append_drop b hs]
    rw [FT,CC MP]
   have Hl:(dq.map bq).Nodup:=by
    have:=mid.st.nodup
    rw [e6,y8] at this
    exact(List.nodup_append.1 this).2.1
   have X3:∀ (j k:Nat),j∈dq→k∈dq→bq j=bq k→j=k:=by
    have key:∀ (l:List Nat),(l.map bq).Nodup→ ∀ j k:Nat,j∈l→k∈l→bq j=bq k→j=k:=by
     intro l
     induction l with
     | nil=>intro _ j k h; cases h
     | cons x r YL=>
       intro aR j k aE av e
       simp only [List.map_cons] at aR
       obtain⟨aa,ae⟩:=List.nodup_cons.1 aR
       rcases List.mem_cons.1 aE with aD | aE
       ·rcases List.mem_cons.1 av with aV | av
        ·rw [aD,aV]
        ·exact absurd (List.mem_map.2 ⟨k,av,by rw [← e,aD]⟩) aa
       ·rcases List.mem_cons.1 av with aV | av
        ·exact absurd (List.mem_map.2 ⟨j,aE,by rw [e,aV]⟩) aa
        ·exact YL ae j k aE av e
    exact key dq Hl
   have Ii:∀ (j:Nat) cp,hs[j]? =some (.new cp)→j∈dq:=fun j cp aE=>(mid.news j).2 ⟨pq j _ aE,sq j (pq j _ aE),cp,aE⟩
   have Hm:∀ e∈lA bq hs [] 0 hs,e∈fk bq hs b dq:=fun e he=>by
    obtain⟨j,cp,aa,ae⟩:=FI he
    rw [Nat.zero_add] at ae
    refine List.mem_map.2 ⟨j,Ii j cp aa,?_⟩
    simp only [aa]
    rw [ae,Ih]
   have OM:bS c E (lA bq hs (dS L hs) 0 hs) a W:=by
    rw [vL,Om]
    refine mid.st.sub (fun e he=> ?_) ?_
    ·rcases List.mem_append.1 he with he | he
     ·exact List.mem_append.2 (.inr (Hm e he))
     ·exact List.mem_append.2 (.inl he)
    ·rw [e6]
     have gK:=mid.st.nodup
     rw [e6,y8] at gK
     obtain⟨aa,ae,aD⟩:=List.nodup_append.1 gK
     refine List.nodup_append.2 ⟨Kg hs 0 fun j k u v aA aU cL=> ?_,aa,fun x aq y a6 e=> ?_⟩
     ·simp only [Nat.zero_add] at cL
      exact X3 j k (Ii j u aA) (Ii k v aU) cL
     ·subst e
      obtain⟨e,he,sY⟩:=kG.1 aq
      have:x∈aP (fk bq hs b dq):=kG.2 ⟨e,Hm e he,sY⟩
      rw [y8] at this
      exact aD x a6 x this rfl
   have kJ:∀ k∈aP (lA bq hs (dS L hs) 0 hs) ++ c.b5,k∈aP (dS L (hs.take b) ++ fk bq hs b dq) ++ c.b5:=fun k av=>by
    rw [vL,e6,Om] at av
    rw [e6]
    simp only [List.mem_append] at av ⊢
    rcases av with(av | av) | av
    ·obtain⟨e,he,sY⟩:=kG.1 av
     exact .inl (.inr (kG.2 ⟨e,Hm e he,sY⟩))
    ·exact .inl (.inl av)
    ·exact .inr av
   refine { OM with env:=fun t τ ej=> ?_ }
   rcases K3 0 ej with⟨j,aa,h,ae,aD⟩ | aa
   ·rw [Nat.zero_add] at aD
    obtain⟨v,aV,a1⟩:=mid.done j t h τ (pq j h ae) (sq j (pq j h ae)) aa ae aD
    exact⟨v,aV,τ.mono (.drop kJ) a1⟩
   ·exact OM.env t τ aa
 | succ m b1=>
   intro b4 bq dq b a W hm inv mid
   by_cases jG:∀ i,i < n→b4.getD i true=true
   ·have bW:((List.range n).filter fun i=> !b4.getD i true).length≤m:=by
     have:((List.range n).filter fun i=> !b4.getD i true)= []:=List.filter_eq_nil_iff.2 fun i an=>by simp [jG i (List.mem_range.1 an)]
     rw [this]; simp
    have aa:=b1 b4 bq dq b a W bW inv mid
    have more:∀ f (b4:Array Bool) a W,wpAnyIn c.F 9 c.P .any ops Q f b4 a W→wpAnyIn c.F 9 c.P .any ops Q (f + 1) b4 a W:=by
     intro f
     induction f with
     | zero=>intro b4 a W h; exact⟨fun _=>h.2,fun i an=>by rw [h.1] at an; cases an⟩
     | succ f YM=>intro b4 a W h; exact⟨h.1,fun i an=>wpOpIn_mono (fun ie u9 cZ=>YM _ ie u9 cZ) (h.2 i an)⟩
    rw [show m + 1 + (ops.size - n)=(m + (ops.size - n)) + 1 by omega]
    exact more _ _ _ _ aa
   ·rw [show m + 1 + (ops.size - n)=(m + (ops.size - n)) + 1 by omega]
    have hex:∃ i,i < n∧b4.getD i true=false:=by
     have aa: ¬ ∀ i,i < n→b4.getD i true=true:=jG
     false_or_by_contra
     rename_i ae
     exact aa fun i an=>by
      cases h:b4.getD i true with
      | true=>rfl
      | false=>exact absurd ⟨i,an,h⟩ ae
    have UG:∀ t∈Region.ready .any ops b4,t < n:=by
     intro t AU
     rcases Nat.lt_or_ge t n with h | h
     ·exact h
     ·obtain⟨i,an,pr⟩:=hex
      rcases WA with aa | aa
      ·obtain⟨_,o,bp,_⟩:=mem_ready.1 AU
       have:=(Array.getElem?_eq_some_iff.1 bp).1
       omega
      ·have X4:n < ops.size:=by
        obtain⟨_,o,bp,_⟩:=mem_ready.1 AU
        have:=(Array.getElem?_eq_some_iff.1 bp).1
        omega
       exact absurd AU (tail_waits aa.1 aa.2 X4 inv _ i rfl an pr t h)
    refine⟨fun bW=> ?_,fun i an=> ?_⟩
    ·exfalso
     have UH:∀ k,∀ i,i≤k→i < n→b4.getD i true=false→ ∃ i,i < n∧b4.getD i true=false∧ ∀ j,j < i→b4.getD j true=true:=by
      intro k
      induction k with
      | zero=>intro i j6 an hu; exact⟨i,an,hu,fun j aE=>by omega⟩
      | succ k YN=>
        intro i j6 an hu
        by_cases hq:∀ j,j < i→b4.getD j true=true
        ·exact⟨i,an,hu,hq⟩
        ·have:∃ j,j < i∧b4.getD j true=false:=by
          false_or_by_contra
          rename_i ae
          exact hq fun j aE=>by
           cases h:b4.getD j true with
           | true=>rfl
           | false=>exact absurd ⟨j,aE,h⟩ ae
         obtain⟨j,aE,YO⟩:=this
         exact YN j (by omega) (by omega) YO
     obtain⟨i0,Ij,YP⟩:=hex
     obtain⟨i,an,hu,HP⟩:=UH i0 i0 (Nat.le_refl _) Ij YP
     obtain⟨o,bp,_,Db⟩:=xc i an
     have:i∈Region.ready .any ops b4:=mem_ready.2 ⟨hu,o,bp,fun e he hb=>by
      have aa:=HP e.on (Db e he hb)
      have ae:e.on < b4.size:=by rw [inv.size]; have:=Db e he hb; omega
      simpa [ae] using aa⟩
     rw [bW] at this
     cases this
    ·have e3:=UG i an
     obtain⟨o,bp,l7,Db⟩:=xc i e3
     obtain⟨pr,o',rB,sq⟩:=mem_ready.1 an
     have YQ:o'=o:=Option.some.inj (rB.symm.trans bp)
     subst YQ
     obtain⟨h,er⟩:∃ h,hs[i]? =some h:=⟨hs[i]'(by omega),by simp⟩
     obtain⟨cK,gi,jd⟩:=FH (cC bq) i h er
     have X5:cK=o':=by
      rw [Array.getElem?_toList] at gi
      exact Option.some.inj (gi.symm.trans bp)
     subst X5
     have uC:((List.range n).filter fun j=> !(b4.setIfInBounds i true).getD j true).length≤m:=by
      have:((List.range n).filter fun j=> !(b4.setIfInBounds i true).getD j true).length < ((List.range n).filter fun j=> !b4.getD j true).length:=by
       refine MO (fun j=> !b4.getD j true) (fun j=> !(b4.setIfInBounds i true).getD j true) i (by simp only [pr]; rfl) ?_ (fun j aE=> ?_) n e3
       ·have:i < b4.size:=by rw [inv.size]; omega
        simp [this]
       ·by_cases e:i=j
        ·subst e; simp only [pr]; rfl
        ·rw [getD_set_ne true e] at aE; exact aE
      omega
     have uD:=inv.set an e3
     have DV:i < b4.size:=by rw [inv.size]; omega
     have wM:(b4.setIfInBounds i true).getD i false=true:=by simp [DV]
     have mH:b4.getD i false=false:=getD_both pr
     have X6:i ∉ dq:=fun hm=>by have:=((mid.news i).1 hm).2.1; rw [mH] at this; cases this
     have DW:∀ j∈rn.getD i [],j < n∧b4.getD j false=true:=fun j aE=>by
      have aD:=List.all_eq_true.1 (List.all_eq_true.1 NP i (List.mem_range.2 e3)) j aE
      simp only [Bool.and_eq_true,decide_eq_true_eq] at aD
      obtain⟨oO,mi,e,he,hb,ps⟩:=Region.waitsFor_spec aD.2
      have:oO=cK:=Option.some.inj (mi.symm.trans bp)
      subst this
      have aV:=sq e he hb
      rw [ps] at aV
      exact⟨aD.1,aV⟩
     have kQ:bS c (he bq ed hs E (rn.getD i [])) (dS L (hs.take b) ++ fk bq hs b dq) a W:=by
      refine { mid.st with env:=fun t σ ej=> ?_ }
      rcases L8 ej with⟨j,aE,aa,x,ae,aD⟩ | aa
      ·exact mid.done j t x σ (DW j aE).1 (DW j aE).2 aa ae aD
      ·exact mid.st.env t σ aa
     have L9:h.ng=true→b≤i∧ ∃ r,hs.take i=hs.take b ++ r∧ ∀ x∈r,x.ng=false:=fun On=>by
      have Eg:b≤i:=by
       rcases Nat.lt_or_ge i b with aa | aa
       ·have:=(mid.stored i h er On).2 aa
        rw [mH] at this; cases this
       ·exact aa
      refine⟨Eg,Ta Eg er fun j x Ik oK aq=> ?_⟩
      cases iF:x.ng with
      | false=>rfl
      | true=>
        have aD:=List.all_eq_true.1 X2 i (List.mem_range.2 e3)
        have aA:(hs.map fh.ng).getD i false=true:=by simp [er,On]
        simp only [aA,Bool.not_true,Bool.false_or] at aD
        have aV:=List.all_eq_true.1 aD j (List.mem_range.2 oK)
        have aU:(hs.map fh.ng).getD j false=true:=by simp [aq,iF]
        simp only [aU,Bool.not_true,Bool.false_or] at aV
        obtain⟨oO,mi,e,he,hb,ps⟩:=Region.waitsFor_spec aV
        have:oO=cK:=Option.some.inj (mi.symm.trans bp)
        subst this
        have a1:=sq e he hb
        rw [ps] at a1
        have:=(mid.stored j x aq iF).1 a1
        omega
     unfold wpOpIn
     simp only [bp]
     cases h with
     | val τ=>
       simp only at jd
       have YR:=jd (dS L (hs.take b) ++ fk bq hs b dq) (fun j e aE hu=>by
        have aa:(dS L (hs.take b))[j]? =some e:=by
         rw [yP b 0 hu (fun q hq ⟨Pv,cp',aq⟩=>by
          have YS:=(mid.stored q _ aq rfl).2 hq
          cases hw:Region.waitsFor .any ops (0 + q) (0 + i) with
          | false=>rfl
          | true=>
            obtain⟨Il,DX,e',Eh,pt,Oo⟩:=Region.waitsFor_spec hw
            rw [Nat.zero_add] at DX Oo
            have:=inv.closed q Il DX YS e' Eh pt
            rw [Oo,mH] at this
            cases this)]
         exact aE
        rw [List.getElem?_append_left (List.getElem?_eq_some_iff.1 aa).1]; exact aa)
       obtain⟨aa,ae⟩:=YR a W kQ
       have DF:∀ v W',Fr [] W W'→τ.holds (aP (dS L (hs.take b) ++ fk bq hs b dq) ++ c.b5) W' v→xb c n ed hs E L (b4.setIfInBounds i true) bq dq b (a.put cK.dst v) W':=by
        intro v W' f aX
        have jb:=mid.st.world f
        refine⟨?_,fun j ca x σ aE ao fr aq lf=> ?_,fun j=> ?_,fun j x aq iF=> ?_,mid.ble⟩
        ·cases hd:cK.dst with
         | none=>exact jb
         | some s=>
           rw [hd] at l7
           refine { (jb.put (d:=s) (DU i s l7) aX) with env:=fun t σ ej=> ?_ }
           have dz:s≠t:=fun e=>FG aH t σ ej (by rw [← e]; exact List.mem_filterMap.2 ⟨some s,List.mem_of_getElem? l7,rfl⟩)
           obtain⟨u,a1,bo⟩:=jb.env t σ ej
           exact⟨u,by simp only [Act.put]; rw [Array.getElem?_setIfInBounds_ne dz]; exact a1,bo⟩
        ·by_cases e:i=j
         ·subst e
          rw [l7] at fr
          rw [er] at aq
          cases aq
          simp only [fh.qu,Option.some.injEq] at lf
          subst lf
          simp only [Option.some.injEq] at fr
          rw [fr]
          exact⟨v,by rw [fr] at l7; simp [Act.put,jb.size,DU i ca l7],aX⟩
         ·rw [getD_set_ne false e] at ao
          obtain⟨u,a1,bo⟩:=mid.done j ca x σ aE ao fr aq lf
          refine⟨u,?_,σ.mono (.dD f) bo⟩
          cases hd:cK.dst with
          | none=>exact a1
          | some s=>
            rw [hd] at l7
            have dz:s≠ca:=fun aU=>e (Ol i j s l7 (by rw [aU]; exact fr))
            simp only [Act.put]; rw [Array.getElem?_setIfInBounds_ne dz]; exact a1
        ·rw [mid.news j]
         by_cases e:i=j
         ·subst e
          constructor
          ·rintro ⟨_,a1,_⟩; rw [mH] at a1; cases a1
          ·rintro ⟨_,_,cp,a1⟩; rw [er] at a1; cases a1
         ·rw [getD_set_ne false e]
        ·have e:i≠j:=fun e=>by subst e; rw [er] at aq; cases aq; cases iF
         rw [getD_set_ne false e]
         exact mid.stored j x aq iF
       split
       ·rename_i hw
        exact(aa hw).wpIn fun v W' ⟨f,aX⟩=>b1 _ bq dq b _ _ uC uD (DF v W' f aX)
       ·rename_i hw
        have YT:Region.wanted cK (yielded ops a.tmps)=false:=by simpa using hw
        exact⟨fun _ _=>trivial,b1 _ bq dq b _ _ uC uD (DF undef W (.refl _ _) (ae YT))⟩
     | new cp=>
       simp only at jd
       obtain⟨AV,jy,eu,kK⟩:=jd
       have WB:∀ q x,fh.lK q x∈hs.take b→q≠i:=fun q x hm e=>by
        subst e
        obtain⟨j,aE⟩:=List.mem_iff_getElem?.1 hm
        rw [List.getElem?_take] at aE
        split at aE
        ·rename_i Im
         have YU:=(mid.stored j _ aE rfl).2 Im
         have pq:j < n:=by have:=(List.getElem?_eq_some_iff.1 aE).1; omega
         obtain⟨oO,mi,ON⟩:=FH (cC bq) j _ aE
         simp only at ON
         have aD:=List.all_eq_true.1 (List.all_eq_true.1 NP j (List.mem_range.2 pq)) q (by simpa using ON.1)
         simp only [Bool.and_eq_true,decide_eq_true_eq] at aD
         obtain⟨Il,DX,e,he,hb,ps⟩:=Region.waitsFor_spec aD.2
         have:=inv.closed j Il DX YU e he hb
         rw [ps,mH] at this
         cases this
        ·cases aE
       have DY:ia i cp (hs.take b)=cp:=yL WB
       let mO:Nat→Nat:=fun j=>if j=i then W.heap.size else bq j
       have Io:∀ j,j∈dq→mO j=bq j:=fun j aE=>if_neg (fun e=>X6 (by rw [← e]; exact aE))
       have Ip:mO i=W.heap.size:=if_pos rfl
       have ql:dS L (hs.take b) ++ fk mO hs b (i :: dq)=dS L (hs.take b) ++ (⟨some W.heap.size,cp⟩ :: fk bq hs b dq):=by
        have:fk mO hs b (i :: dq)=⟨some W.heap.size,cp⟩ :: fk mO hs b dq:=by simp only [fk,List.map_cons,er,Ip,DY]
        rw [this,TV Io]
       have Az:xb c n ed hs E L (b4.setIfInBounds i true) mO (i :: dq) b (a.put cK.dst (.pointer (some ⟨W.heap.size,0,none⟩))) (W.alloc jy):=by
        have jb:bS c E (dS L (hs.take b) ++ fk mO hs b (i :: dq)) a (W.alloc jy):=by
         rw [ql]
         exact(mid.st.alloc (eu _ _)).perm List.perm_middle.symm
        have g1:Ext (aP (dS L (hs.take b) ++ fk bq hs b dq) ++ c.b5) W (aP (dS L (hs.take b) ++ fk mO hs b (i :: dq)) ++ c.b5) (W.alloc jy):=by
         refine⟨by simp,fun k av _=>zy W jy k av,fun k av cw=> ?_⟩
         rw [ql] at av
         simp only [e6,aP,List.mem_append,List.mem_cons] at av ⊢
         rcases av with(h | h | h) | h
         ·exact .inl (.inl h)
         ·omega
         ·exact .inl (.inr h)
         ·exact .inr h
        refine⟨?_,fun j ca x σ aE ao fr aq lf=> ?_,fun j=> ?_,fun j x aq iF=> ?_,mid.ble⟩
        ·cases hd:cK.dst with
         | none=>exact jb
         | some s=>
           rw [hd] at l7
           refine { (jb.put (d:=s) (τ:= .any) (DU i s l7) trivial) with env:=fun t σ ej=> ?_ }
           have dz:s≠t:=fun e=>FG aH t σ ej (by rw [← e]; exact List.mem_filterMap.2 ⟨some s,List.mem_of_getElem? l7,rfl⟩)
           obtain⟨u,a1,bo⟩:=jb.env t σ ej
           exact⟨u,by simp only [Act.put]; rw [Array.getElem?_setIfInBounds_ne dz]; exact a1,bo⟩
        ·by_cases e:i=j
         ·subst e
          rw [l7] at fr
          rw [er] at aq
          cases aq
          simp only [fh.qu,Option.some.injEq] at lf
          subst lf
          simp only [Option.some.injEq] at fr
          rw [fr]
          exact⟨.pointer (some ⟨W.heap.size,0,none⟩),by rw [fr] at l7; simp [Act.put,jb.size,DU i ca l7],by rw [Ip]; rfl⟩
         ·rw [getD_set_ne false e] at ao
          have YV:mO j=bq j:=if_neg (fun e'=>e e'.symm)
          rw [YV] at lf
          obtain⟨u,a1,bo⟩:=mid.done j ca x σ aE ao fr aq lf
          refine⟨u,?_,σ.mono g1 bo⟩
          cases hd:cK.dst with
          | none=>exact a1
          | some s=>
            rw [hd] at l7
            have dz:s≠ca:=fun aU=>e (Ol i j s l7 (by rw [aU]; exact fr))
            simp only [Act.put]; rw [Array.getElem?_setIfInBounds_ne dz]; exact a1
        ·rw [List.mem_cons,mid.news j]
         by_cases e:i=j
         ·subst e
          exact⟨fun _=>⟨e3,wM,cp,er⟩,fun _=> .inl rfl⟩
         ·rw [getD_set_ne false e]
          exact⟨fun h=>h.resolve_left (fun e'=>e e'.symm),.inr⟩
        ·have e:i≠j:=fun e=>by subst e; rw [er] at aq; cases aq; cases iF
         rw [getD_set_ne false e]
         exact mid.stored j x aq iF
       rw [if_pos (by simp [Region.wanted,AV])]
       refine Rt (kK a W) ?_
       exact b1 _ mO (i :: dq) b _ _ uC uD Az
     | j3 q cp=>
       simp only at jd
       obtain⟨Eg,r,n4,uQ⟩:=L9 rfl
       have OO:dS L (hs.take i)=dS L (hs.take b):=by rw [n4,Gk,CJ uQ]
       rw [Nat.zero_add,OO] at jd
       obtain⟨p,mN,hq,sZ⟩:=jd
       have fI:(dS L (hs.take b) ++ fk bq hs b dq)[q]? =some ⟨some p,mN⟩:=by
        rw [List.getElem?_append_left (List.getElem?_eq_some_iff.1 hq).1]; exact hq
       obtain⟨AV,DZ,sZ⟩:=sZ (dS L (hs.take b) ++ fk bq hs b dq) (fun j e aE=>by
        rw [List.getElem?_append_left (List.getElem?_eq_some_iff.1 aE).1]; exact aE)
       obtain⟨cs,dK,T,aa,ae,aD⟩:=sZ a W kQ
       have sX:=mid.st.store fI aa aD
       have wX:hs.take (i + 1)=hs.take i ++ [.j3 q cp]:=by rw [List.take_add_one,er]; rfl
       have uR:dS L (hs.take (i + 1))=(dS L (hs.take b)).set q ⟨some p,cp⟩:=by
        rw [wX,KN,OO]
        simp only [dS]
        exact SD hq
       have Iq:fk bq hs (i + 1) dq=fk bq hs b dq:=by
        unfold fk
        refine List.map_congr_left fun j _=> ?_
        congr 1
        split
        ·rw [wX,Fm,n4,FT,CC uQ]; rfl
        ·rfl
       have AW:dS L (hs.take (i + 1)) ++ fk bq hs (i + 1) dq=(dS L (hs.take b) ++ fk bq hs b dq).set q ⟨some p,cp⟩:=by
        rw [uR,Iq,List.set_append_left _ _ (List.getElem?_eq_some_iff.1 hq).1]
       have mP:aP (dS L (hs.take (i + 1)) ++ fk bq hs (i + 1) dq)=aP (dS L (hs.take b) ++ fk bq hs b dq):=by rw [AW]; exact wh (cp:=cp) fI
       have nr:p∈aP (dS L (hs.take b) ++ fk bq hs b dq):=kG.2 ⟨_,List.mem_of_getElem? fI,rfl⟩
       have g1:Ext (aP (dS L (hs.take b) ++ fk bq hs b dq) ++ c.b5) W (aP (dS L (hs.take b) ++ fk bq hs b dq) ++ c.b5) (W.setRow p dK):=
        ⟨by simp,fun k _ bn=>setRow_other W p k dK (fun e=>bn (e ▸ List.mem_append.2 (.inl nr))),fun _ h _=>h⟩
       have Az:xb c n ed hs E L (b4.setIfInBounds i true) bq dq (i + 1) (a.put cK.dst undef) (W.setRow p dK):=by
        rw [DZ]
        refine⟨by rw [AW]; exact sX,fun j ca x σ aE ao fr aq lf=> ?_,fun j=> ?_,fun j x aq iF=> ?_,e3⟩
        ·rw [mP]
         by_cases e:i=j
         ·subst e; rw [er] at aq; cases aq; cases lf
         ·rw [getD_set_ne false e] at ao
          obtain⟨u,a1,bo⟩:=mid.done j ca x σ aE ao fr aq lf
          exact⟨u,a1,σ.mono g1 bo⟩
        ·rw [mid.news j]
         by_cases e:i=j
         ·subst e
          constructor
          ·rintro ⟨_,a1,_⟩; rw [mH] at a1; cases a1
          ·rintro ⟨_,_,cp,a1⟩; rw [er] at a1; cases a1
         ·rw [getD_set_ne false e]
        ·by_cases e:i=j
         ·subst e; exact⟨fun _=>by omega,fun _=>wM⟩
         ·rw [getD_set_ne false e,mid.stored j x aq iF]
          constructor
          ·intro _; omega
          ·intro aE
           rcases Nat.lt_or_ge j b with a1 | a1
           ·exact a1
           ·have:x∈r:=by
             have bo:(hs.take i)[j]? =some x:=by rw [List.getElem?_take,if_pos (by omega)]; exact aq
             rw [n4,List.getElem?_append_right (by rw [List.length_take]; omega)] at bo
             exact List.mem_of_getElem? bo
            have:=uQ x this
            rw [iF] at this; cases this
       rw [if_pos (by simp [Region.wanted,AV])]
       refine Ks ae ?_
       exact b1 _ bq dq (i + 1) _ _ uC uD Az
     | lK q cp=>
       simp only at jd
       obtain⟨Eg,r,n4,uQ⟩:=L9 rfl
       obtain⟨Oq,mN,Ir,sZ⟩:=jd
       rw [Nat.zero_add] at sZ
       have DY:∀ (j:Nat) x,ia j x (hs.take i)=ia j x (hs.take b):=fun j x=>by rw [n4,FT,CC uQ]
       have X7:q∈dq:=(mid.news q).2 ⟨(DW q (by simpa using Oq)).1,(DW q (by simpa using Oq)).2,mN,Ir⟩
       obtain⟨k,av⟩:=List.mem_iff_getElem?.1 X7
       have AA:(fk bq hs b dq)[k]? =some ⟨some (bq q),ia q mN (hs.take i)⟩:=by
        simp only [fk,List.getElem?_map,av,Option.map_some,Ir,DY]
       have fI:(dS L (hs.take b) ++ fk bq hs b dq)[(dS L (hs.take b)).length + k]? =some ⟨some (bq q),ia q mN (hs.take i)⟩:=by
        rw [List.getElem?_append_right (by omega),Nat.add_sub_cancel_left]; exact AA
       obtain⟨AV,DZ,sZ⟩:=sZ (dS L (hs.take b) ++ fk bq hs b dq) _ fI
       obtain⟨cs,dK,T,aa,ae,aD⟩:=sZ a W kQ
       have sX:=mid.st.store fI aa aD
       have wX:hs.take (i + 1)=hs.take i ++ [.lK q cp]:=by rw [List.take_add_one,er]; rfl
       have uR:dS L (hs.take (i + 1))=dS L (hs.take b):=by
        rw [wX,KN]
        simp only [dS]
        rw [n4,Gk,CJ uQ]
       have Hl:dq.Nodup:=by
        have:=mid.st.nodup
        rw [e6,y8] at this
        exact Ku bq dq (List.nodup_append.1 this).2.1
       have Iq:fk bq hs (i + 1) dq=(fk bq hs b dq).set k ⟨some (bq q),cp⟩:=by
        apply List.ext_getElem?
        intro j
        rw [List.getElem?_set]
        by_cases e:k=j
        ·subst e
         have Is:k < (fk bq hs b dq).length:=(List.getElem?_eq_some_iff.1 AA).1
         rw [if_pos rfl,if_pos Is]
         simp only [fk,List.getElem?_map,av,Option.map_some,Ir]
         rw [wX,Fm]
         simp [ia]
        ·rw [if_neg e]
         simp only [fk,List.getElem?_map]
         cases aE:dq[j]? with
         | none=>rfl
         | some x=>
           have It:x≠q:=fun aU=>by
            subst aU
            obtain⟨dY,eg⟩:=List.getElem?_eq_some_iff.1 aE
            obtain⟨eE,fN⟩:=List.getElem?_eq_some_iff.1 av
            exact e ((List.getElem_inj Hl).1 (fN.trans eg.symm))
           simp only [Option.map_some]
           congr 2
           split
           ·rw [wX,Fm,DY]
            have:Nat.beq q x=false:=by
             cases hb:Nat.beq q x with
             | false=>rfl
             | true=>exact absurd (fc.1 hb).symm It
            simp [ia,this]
           ·rfl
       have AW:dS L (hs.take (i + 1)) ++ fk bq hs (i + 1) dq=(dS L (hs.take b) ++ fk bq hs b dq).set ((dS L (hs.take b)).length + k) ⟨some (bq q),cp⟩:=by
        rw [uR,Iq,List.set_append_right _ _ (by omega),Nat.add_sub_cancel_left]
       have mP:aP (dS L (hs.take (i + 1)) ++ fk bq hs (i + 1) dq)=aP (dS L (hs.take b) ++ fk bq hs b dq):=by rw [AW]; exact wh (cp:=cp) fI
       have nr:bq q∈aP (dS L (hs.take b) ++ fk bq hs b dq):=kG.2 ⟨_,List.mem_of_getElem? fI,rfl⟩
       have g1:Ext (aP (dS L (hs.take b) ++ fk bq hs b dq) ++ c.b5) W (aP (dS L (hs.take b) ++ fk bq hs b dq) ++ c.b5) (W.setRow (bq q) dK):=
        ⟨by simp,fun k _ bn=>setRow_other W (bq q) k dK (fun e=>bn (e ▸ List.mem_append.2 (.inl nr))),fun _ h _=>h⟩
       have Az:xb c n ed hs E L (b4.setIfInBounds i true) bq dq (i + 1) (a.put cK.dst undef) (W.setRow (bq q) dK):=by
        rw [DZ]
        refine⟨by rw [AW]; exact sX,fun j ca x σ aE ao fr aq lf=> ?_,fun j=> ?_,fun j x aq iF=> ?_,e3⟩
        ·rw [mP]
         by_cases e:i=j
         ·subst e; rw [er] at aq; cases aq; cases lf
         ·rw [getD_set_ne false e] at ao
          obtain⟨u,a1,bo⟩:=mid.done j ca x σ aE ao fr aq lf
          exact⟨u,a1,σ.mono g1 bo⟩
        ·rw [mid.news j]
         by_cases e:i=j
         ·subst e
          constructor
          ·rintro ⟨_,a1,_⟩; rw [mH] at a1; cases a1
          ·rintro ⟨_,_,cp,a1⟩; rw [er] at a1; cases a1
         ·rw [getD_set_ne false e]
        ·by_cases e:i=j
         ·subst e; exact⟨fun _=>by omega,fun _=>wM⟩
         ·rw [getD_set_ne false e,mid.stored j x aq iF]
          constructor
          ·intro _; omega
          ·intro aE
           rcases Nat.lt_or_ge j b with a1 | a1
           ·exact a1
           ·have:x∈r:=by
             have bo:(hs.take i)[j]? =some x:=by rw [List.getElem?_take,if_pos (by omega)]; exact aq
             rw [n4,List.getElem?_append_right (by rw [List.length_take]; omega)] at bo
             exact List.mem_of_getElem? bo
            have:=uQ x this
            rw [iF] at this; cases this
       rw [if_pos (by simp [Region.wanted,AV])]
       refine Ks ae ?_
       exact b1 _ bq dq (i + 1) _ _ uC uD Az
theorem ah.draw {rD:Nat} {l:List Oper} (hm:c.P.follows .mixedOrders=true) (n:Nat) (ed:List (Option Nat)) (rn:List (List Nat)) (hs:List fh) (AS:List Bool) (jc:DE l.toArray n ed rn AS c.n=true) (ZS:hs.map fh.ng=AS) (aH:Ay E (ed.filterMap id)=true)
 (hlen:Nat.beq hs.length n=true) (cC:∀ bq,p3 c l.toArray bq ed hs E L 0 l hs rn)
 (cj:∀ bq:Nat→Nat,aj c l.toArray Q (l.drop n) (sQ bq E 0 ed hs) (lA bq hs (dS L hs) 0 hs)):ah c Q (.region rD l.toArray true) E L:=fun a W s=>by
 subst ZS
 refine wpIn_region_any hm ?_
 have aR:n≤l.toArray.size:=by
  simp only [DE,Bool.and_eq_true,decide_eq_true_eq] at jc
  exact jc.1.1.1.1.1.1.1.2
 have HQ:HeadInv .any l.toArray n (Array.replicate l.toArray.size false):=
  {size:=by simp
   closed:=fun j oO _ ao=>by rw [getD_replicate_false] at ao; cases ao
   tail:=fun t _ cj=>by simp at cj; simp [cj] }
 have X8:xb c n ed hs E L (Array.replicate l.toArray.size false) (fun _=>0) [] 0 a W.drew:=
  {st:=by simpa [dS,fk] using s.world (Fr.drew W)
   done:=fun j s h τ _ ao=>by rw [getD_replicate_false] at ao; cases ao
   news:=fun j=>by
    constructor
    ·intro h; cases h
    ·rintro ⟨_,h,_⟩; rw [getD_replicate_false] at h; cases h
   stored:=fun j h _ _=>by
    rw [getD_replicate_false]
    constructor
    ·intro h; cases h
    ·intro h; omega
   ble:=Nat.zero_le _ }
 have h:=SE (ops:=l.toArray) (Q:=Q) jc aH (fc.1 hlen) (by simpa using cC) (by simpa using cj) n (Array.replicate l.toArray.size false) (fun _=>0) [] 0 a W.drew
  (Nat.le_trans (List.length_filter_le _ _) (by simp)) HQ X8
 rw [show n + (l.toArray.size - n)=l.toArray.size by omega] at h
 exact h
end
end Gv
namespace Gv
open Go
set_option linter.unusedVariables false
set_option linter.unusedSimpArgs false
structure bA (P:Program) (t:TypeId) (α:Type) [ai α]:Prop where
 size:(P.info? t).map (·.size)=some (ai.size α)
 OP:∃ d,P.underlying t=some d∧ (match d with | .struct _ | .array _ _=>true | _=>false)=ai.agg α
structure cQ (P:Program) (t:TypeId) {α:Type} [ai α] (x:α):Prop where
 zero:∃ i z,P.info? t=some i∧i.zero=some z∧ ∀ A W,(I.of x).holds A W z
theorem bA.info {P t α} [ai α] (h:bA P t α):∃ i,P.info? t=some i∧i.size=ai.size α:=by
 have:=h.size
 cases an:P.info? t with
 | none=>simp [an] at this
 | some i=>exact⟨i,rfl,by simpa [an] using this⟩
theorem bA.isAgg {P t α} [ai α] (h:bA P t α) (W:World):(isAgg t).run P W= .ok (ai.agg α) W:=by
 obtain⟨d,hd,he⟩:=h.OP
 unfold Go.isAgg
 rw [Sem.run_bind,run_underlying hd W]
 simp only [Result.andThen_ok]
 cases d <;> simp_all
theorem bA.sizeOf {P t α} [ai α] (h:bA P t α) (W:World):(Go.sizeOf t).run P W= .ok (ai.size α) W:=by
 obtain⟨i,an,hs⟩:=h.info
 simp [Go.sizeOf,typeInfo,an,hs]
theorem jh (b off j:Nat):(⟨b,off,none⟩:Addr).add j=⟨b,off + j,none⟩:=by unfold Addr.add; split <;> simp_all
theorem tx {P:Program} {W:World} {b off:Nat} {cur:Array Value} {T t:TypeId} {gP:Nat × Nat} {α:Type} [ai α] {A:List Nat} {x:α} (ty:bA P t α)
 (hb:W.heap[b]? =some (.cells cur T gP)) (hs:off + ai.size α≤cur.size) (aQ:ai.rep A W ((cur.toList.drop off).take (ai.size α)) x):
 ∃ v,(loadVar t ⟨b,off,none⟩).run P W= .ok v W∧ (I.of x).holds A W v:=by
 have ao:=ai.len aQ
 have ra:∀ j v,((cur.toList.drop off).take (ai.size α))[j]? =some v→W.cell? ((⟨b,off,none⟩:Addr).add j)=some v:=by
  intro j v aX
  rw [jh,cell_of_row W b (off + j) cur T gP hb]
  rw [List.getElem?_take] at aX
  split at aX
  ·rw [List.getElem?_drop] at aX; simpa using aX
  ·cases aX
 cases bn:ai.agg α with
 | true=>
   have aa:=run_loadCells_list (P:=P) W ⟨b,off,none⟩ _ ra
   rw [ao] at aa
   refine⟨.agg ((cur.toList.drop off).take (ai.size α)).toArray,?_,?_,?_⟩
   ·simp [loadVar,Sem.run_bind,ty.isAgg,ty.sizeOf,bn,aa]
   ·simp [shaped,bn]
   ·simpa [Value.cells] using aQ
 | false=>
   have aa:ai.size α=1:=ai.flat bn
   rw [aa] at ao
   obtain⟨v,aX⟩:=List.length_eq_one_iff.1 ao
   have ae:=ra 0 v (by rw [aa,aX]; rfl)
   have aD:v.oneCell'=true:=ai.one aQ v (by rw [aa,aX]; simp)
   refine⟨v,?_,?_,?_⟩
   ·rw [jh,Nat.add_zero] at ae
    simp [loadVar,Sem.run_bind,ty.isAgg,bn,ae]
   ·simp [shaped,bn,aD]
   ·rw [nG aD]
    rw [aa,aX] at aQ
    simpa using aQ
def fR (cur:List Value) (off:Nat) (ds:List Value):List Value:=cur.take off ++ ds ++ cur.drop (off + ds.length)
theorem Tb {A W v} {α:Type} [ai α] {x:α} (h:(I.of x).holds A W v):v.cells.toList.length=ai.size α∧ ∀ u∈v.cells.toList,u.oneCell'=true:=⟨ai.len h.2,ai.one h.2⟩
theorem yp {P:Program} {W:World} {b off:Nat} {cur:Array Value} {T t:TypeId} {α:Type} [ai α] {A:List Nat} {x:α} {v:Value} (ty:bA P t α)
 (hb:W.heap[b]? =some (.cells cur T (0,0))) (hs:off + ai.size α≤cur.size) (aX:(I.of x).holds A W v):
 (storeVar t ⟨b,off,none⟩ v).run P W= .ok () (W.setRow b (fR cur.toList off v.cells.toList).toArray):=by
 obtain⟨ao,aa⟩:=Tb aX
 have ae:=run_storeCells_at P b off T v.cells.toList 0 cur W hb (by rw [ao]; omega) aa
 have eV:v.cells.size=ai.size α:=by simpa using ao
 simp only [Nat.add_zero] at ae
 simp only [storeVar,Sem.run_bind,ty.sizeOf,Result.andThen_ok,eV]
 simp only [ne_eq,not_true_eq_false,↓reduceIte,Sem.run_pure,Sem.run_bind,Result.andThen_ok]
 simpa [fR] using ae
structure aL (β γ:Type) [ai β] [ai γ] where
 off:Nat
 get:β→γ
 set:β→γ→β
 gl:off + ai.size γ≤ai.size β
 il:∀ {A W cs b},ai.rep A W cs b→ai.rep A W ((cs.drop off).take (ai.size γ)) (get b)
 kF:∀ {A W cs b ds g},ai.rep A W cs b→ai.rep A W ds g→ai.rep A W (cs.take off ++ ds ++ cs.drop (off + ai.size γ)) (set b g)
def aL.id (β:Type) [ai β]:aL β β where
 off:=0
 get b:=b
 set _ g:=g
 gl:=by simp
 il h:=by
  have:=ai.len h
  rw [List.drop_zero,← this,List.take_length]; exact h
 kF h bP:=by
  have aa:=ai.len h
  rw [List.take_zero,List.nil_append,Nat.zero_add,← aa,List.drop_length,List.append_nil]; exact bP
theorem tC (cs:List Value) (dg s1 cK s2:Nat) (h:cK + s2≤s1):(((cs.drop dg).take s1).drop cK).take s2=(cs.drop (dg + cK)).take s2:=by
 apply List.ext_getElem?
 intro i
 simp only [List.getElem?_take,List.getElem?_drop]
 split
 ·rw [if_pos (by omega)]; congr 1; omega
 ·rfl
theorem K4 (cs ds:List Value) (dg s1 cK s2:Nat) (h:cK + s2≤s1) (ar:dg + s1≤cs.length):
 cs.take dg ++ (((cs.drop dg).take s1).take cK ++ ds ++ ((cs.drop dg).take s1).drop (cK + s2)) ++ cs.drop (dg + s1)=cs.take (dg + cK) ++ ds ++ cs.drop (dg + cK + s2):=by
 have aA:cs.take (dg + cK)=cs.take dg ++ ((cs.drop dg).take s1).take cK:=by
  rw [List.take_take,Nat.min_eq_left (by omega),List.take_add]
 have aU:cs.drop (dg + cK + s2)=((cs.drop dg).take s1).drop (cK + s2) ++ cs.drop (dg + s1):=by
  apply List.ext_getElem?
  intro i
  simp only [List.getElem?_append,List.getElem?_drop,List.getElem?_take,List.length_drop,List.length_take]
  split
  ·rw [if_pos (by omega)]; congr 1; omega
  ·congr 1; omega
 rw [aA,aU]
 simp only [List.append_assoc]
def aL.comp {α β γ:Type} [ai α] [ai β] [ai γ] (l:aL α β) (m:aL β γ):aL α γ where
 off:=l.off + m.off
 get b:=m.get (l.get b)
 set b g:=l.set b (m.set (l.get b) g)
 gl:=by have:=l.gl; have:=m.gl; omega
 il h:=by
  have:=m.il (l.il h)
  rwa [tC _ _ _ _ _ m.gl] at this
 kF h bP:=by
  have aa:=l.kF h (m.kF (l.il h) bP)
  have ae:=ai.len h
  have aD:=l.gl
  rwa [K4 _ _ _ _ _ _ m.gl (by omega)] at aa
def bD {α:Type} [Inhabited α] {n:Nat} (v:Vector α n) (k:Nat):α:=v[k]?.getD default
def cW {α:Type} {n:Nat} (v:Vector α n) (k:Nat) (x:α):Vector α n:=v.setIfInBounds k x
instance {α:Type} [Inhabited α] {n:Nat} :Inhabited (Vector α n):=⟨Vector.replicate n default⟩
instance aab {α:Type} [ai α] [Inhabited α] {n:Nat} :ai (Vector α n) where
 size:=n * ai.size α
 agg:=true
 rep A W cs v:=gv A W cs v.toList
 len h:=by rw [h.1]; simp
 one h:=by
  intro u hu
  obtain⟨j,aE⟩:=List.mem_iff_getElem?.1 hu
  have cw:=(List.getElem?_eq_some_iff.1 aE).1
  have aa:=h.1
  by_cases hs:ai.size α=0
  ·rw [hs,Nat.mul_zero] at aa; omega
  ·have hp:0 < ai.size α:=Nat.pos_of_ne_zero hs
   have an:j / ai.size α < _:=(Nat.div_lt_iff_lt_mul hp).2 (by rw [aa] at cw; exact cw)
   refine ai.one (h.2 _ an) u (List.mem_iff_getElem?.2 ⟨j % ai.size α,?_⟩)
   rw [List.getElem?_take,if_pos (Nat.mod_lt _ hp),List.getElem?_drop,Nat.mul_comm,Nat.div_add_mod]
   exact aE
 flat h:=by cases h
 mono e h:=h.mono e
theorem RM {α:Type} [Inhabited α] {n:Nat} (v:Vector α n) {k:Nat} (h:k < n):bD v k=v.toList[k]'(by simpa using h):=by simp [bD,h]
theorem FU {α:Type} [ai α] {A W} {cs ds:List Value} {xs:List α} {x:α} {k:Nat} (h:gv A W cs xs) (av:k < xs.length) (hd:ai.rep A W ds x):
 gv A W (cs.take (k * ai.size α) ++ ds ++ cs.drop (k * ai.size α + ai.size α)) (xs.set k x):=by
 have ao:=h.1
 have aas:=ai.len hd
 have hle:(k + 1) * ai.size α≤xs.length * ai.size α:=Nat.mul_le_mul_right _ av
 rw [Nat.succ_mul] at hle
 refine⟨by simp only [List.length_append,List.length_take,List.length_drop,List.length_set]; omega,fun i an=> ?_⟩
 rw [List.length_set] at an
 by_cases e:k=i
 ·subst e
  have:((cs.take (k * ai.size α) ++ ds ++ cs.drop (k * ai.size α + ai.size α)).drop (k * ai.size α)).take (ai.size α)=ds:=by
   rw [List.append_assoc,List.drop_append_of_le_length (by simp only [List.length_take]; omega),List.drop_of_length_le (by simp only [List.length_take]; omega),List.nil_append,
    List.take_append_of_le_length (by omega),List.take_of_length_le (by omega)]
  rw [this]
  simpa using hd
 ·have aa:=h.2 i an
  have:((cs.take (k * ai.size α) ++ ds ++ cs.drop (k * ai.size α + ai.size α)).drop (i * ai.size α)).take (ai.size α)=(cs.drop (i * ai.size α)).take (ai.size α):=by
   apply List.ext_getElem?
   intro j
   simp only [List.getElem?_take,List.getElem?_drop]
   split
   ·rename_i aE
    simp only [List.getElem?_append,List.length_append,List.length_take,List.getElem?_take,List.getElem?_drop]
    rcases Nat.lt_or_gt_of_ne e with ae | ae
    ·have:(k + 1) * ai.size α≤i * ai.size α:=Nat.mul_le_mul_right _ ae
     rw [Nat.succ_mul] at this
     rw [if_neg (by omega)]; congr 1; omega
    ·have:(i + 1) * ai.size α≤k * ai.size α:=Nat.mul_le_mul_right _ ae
     rw [Nat.succ_mul] at this
     rw [if_pos (by omega),if_pos (by omega),if_pos (by omega)]
   ·rfl
  rw [this]
  simpa [List.getElem_set_ne e] using aa
def aL.idx {α:Type} [ai α] [Inhabited α] (n k:Nat) (av:k < n):aL (Vector α n) α where
 off:=k * ai.size α
 get v:=bD v k
 set v x:=cW v k x
 gl:=by
  show k * ai.size α + ai.size α≤n * ai.size α
  rw [← Nat.succ_mul]; exact Nat.mul_le_mul_right _ av
 il h:=by
  rename_i b
  rw [RM b av]
  exact h.2 k (by simpa using av)
 kF h hd:=by
  rename_i b ds g
  have:=FU h (k:=k) (by simpa using av) hd
  show gv _ _ _ (cW b k g).toList
  rw [show(cW b k g).toList=b.toList.set k g by simp [cW]]
  exact this
def idx (n:Nat) (i:Int):Option Nat:=if 0≤i∧i < n then some i.toNat else none
theorem cc {n:Nat} {i:Int} {k:Nat} (h:idx n i=some k):k < n∧i=k:=by
 unfold idx at h
 split at h
 ·rename_i an
  simp only [Option.some.injEq] at h
  omega
 ·cases h
section
variable {c:dh} {E:List (Nat × I)} {L:List aO} {ops:Array Oper} {Q:Exit→Act→World→Prop}
variable {d:Option Tmp} {ty:TypeId} {pos:String} {af:Array Edge} {g:Option (Nat × Bool)}
theorem c3 {x:Operand} {τ:I} (h:bc c E L x τ):b7 c E L ⟨d,.move x,ty,pos,af,g⟩ τ:= .pure fun a W s=>⟨_,rfl,h a W s⟩
theorem eG {x:Operand} {τ:I} (h:bc c E L x τ):b7 c E L ⟨d,.assign x,ty,pos,af,g⟩ τ:= .pure fun a W s=>⟨_,rfl,h a W s⟩
theorem o9 {x y:Operand} {b e:Bool} {p:Prop} (aq:bc c E L x (.of b)) (a6:bc c E L y (.cond p (.of e))) (hp:b=false→p):
 b7 c E L ⟨d,.pick x (.const (.bool true)) y,ty,pos,af,g⟩ (.of (b || e)):= .pure fun a W s=>by
 have aa:=of_bool.1 (aq a W s)
 cases b with
 | true=>exact⟨.bool true,by simp only [execOp,aa,asBool]; rfl,of_bool.2 rfl⟩
 | false=>
   have ae:=of_bool.1 ((a6 a W s).1 (hp rfl))
   exact⟨.bool e,by simp [execOp,asBool,aa,ae],of_bool.2 rfl⟩
theorem pX {x y:Operand} {b e:Bool} {p:Prop} (aq:bc c E L x (.of b)) (a6:bc c E L y (.cond p (.of e))) (hp:b=true→p):
 b7 c E L ⟨d,.pick x y (.const (.bool false)),ty,pos,af,g⟩ (.of (b && e)):= .pure fun a W s=>by
 have aa:=of_bool.1 (aq a W s)
 cases b with
 | false=>exact⟨.bool false,by simp only [execOp,aa,asBool]; rfl,of_bool.2 rfl⟩
 | true=>
   have ae:=of_bool.1 ((a6 a W s).1 (hp rfl))
   exact⟨.bool e,by simp [execOp,asBool,aa,ae],of_bool.2 rfl⟩
theorem hz {x:Operand} {b:Bool} {t:TypeId} (aq:bc c E L x (.of b)):b7 c E L ⟨d,.unOp .not t x,ty,pos,af,g⟩ (.of (!b)):= .pure fun a W s=>
 ⟨.bool (!b),by simp [execOp,Op.unary,of_bool.1 (aq a W s)],of_bool.2 rfl⟩
theorem fj {x:Operand} {t:TypeId} {i p o:Nat} {β γ:Type} [ai β] [ai γ] {b:β} (l:aL β γ) {r:γ} (eh:bA c.P t γ) (aq:bc c E L x (.eq (.pointer (some ⟨p,o,none⟩))))
 (au:L[i]? =some ⟨some p,.var b⟩) (bp:o=l.off) (aQ:l.get b=r):b7 c E L ⟨d,.load t x,ty,pos,af,g⟩ (.of r):= .pure fun a W s=>by
 subst bp
 subst aQ
 obtain⟨jy,eu,cs,T,rfl,fL⟩:=s.own _ (List.mem_of_getElem? au)
 have aa:cs.toList.length=ai.size β:=ai.len fL
 obtain⟨v,ae,aD⟩:=tx (A:=aP L ++ c.b5) eh eu (by have:=l.gl; simp at aa; omega) (l.il fL)
 refine⟨v,?_,aD⟩
 have aV:a.eval x=_:=aq a W s
 simp [execOp,Instr.loadAt,Instr.sureAddr,aV,ae]
theorem c2 {x:Operand} {t:TypeId} {γ:Type} [ai γ] {r:γ} (eh:bA c.P t γ) (aq:bc c E L x (.ptr r)):b7 c E L ⟨d,.load t x,ty,pos,af,g⟩ (.of r):= .pure fun a W s=>by
 obtain⟨b,off,cur,T,gP,aV,hb,cC,hs,aQ⟩:=aq a W s
 obtain⟨v,ae,aD⟩:=tx eh cC hs aQ
 exact⟨v,by simp [execOp,Instr.loadAt,Instr.sureAddr,aV,ae],aD⟩
structure cq (P:Program) (s:TypeId) (f o:Nat):Prop where
 at_:∃ fW fd i,P.underlying s=some (.struct fW)∧fW[f]? =some fd∧fd.offset=o∧P.info? fd.type=some i∧i.size≠0
theorem KA {P:Program} {s:TypeId} {f o:Nat} (h:cq P s f o) (p off:Nat) (W:World):
 (Instr.fieldAt s (.pointer (some ⟨p,off,none⟩)) f).run P W= .ok (.pointer (some ⟨p,off + o,none⟩)) W:=by
 obtain⟨fW,fd,i,aa,ae,aD,aV,a1⟩:=h.at_
 simp [Instr.fieldAt,run_underlying aa,ae,Instr.sureAddr,fieldPlace,Go.sizeOf,typeInfo,aV,a1,jh,aD]
theorem aW {x:Operand} {s f o p off:Nat} (fd:cq c.P s f o) (aq:bc c E L x (.eq (.pointer (some ⟨p,off,none⟩)))):
 b7 c E L ⟨d,.fieldAddr s x f,ty,pos,af,g⟩ (.eq (.pointer (some ⟨p,off + o,none⟩))):= .pure fun a W st=>by
 have aV:a.eval x=_:=aq a W st
 exact⟨_,by simp [execOp,aV,KA fd],rfl⟩
theorem zL {x:Operand} {s f o:Nat} {β γ:Type} [ai β] [ai γ] {b:β} (l:aL β γ) {r:γ} (fd:cq c.P s f o) (aq:bc c E L x (.ptr b)) (bp:l.off=o) (aQ:l.get b=r):
 b7 c E L ⟨d,.fieldAddr s x f,ty,pos,af,g⟩ (.ptr r):= .pure fun a W st=>by
 subst bp
 subst aQ
 obtain⟨q,off,cur,T,gP,aV,hb,cC,hs,fL⟩:=aq a W st
 refine⟨.pointer (some ⟨q,off + l.off,none⟩),by simp [execOp,aV,KA fd],q,off + l.off,cur,T,gP,rfl,hb,cC,by have:=l.gl; omega,?_⟩
 have:=l.il fL
 rwa [tC _ _ _ _ _ l.gl] at this
structure qv (P:Program) (t:TypeId) (n s:Nat):Prop where
 at_:∃ e i,P.underlying t=some (.array n e)∧P.info? e=some i∧i.size=s
theorem Q8 {P:Program} {t n s:Nat} (h:qv P t n s) (p off:Nat) (k:Nat) (av:k < n) (W:World):
 (Instr.indexAt t (.pointer (some ⟨p,off,none⟩)) (.int .i64 (k:Int))).run P W= .ok (.pointer (some ⟨p,off + k * s,none⟩)) W:=by
 obtain⟨e,i,aa,ae,aD⟩:=h.at_
 simp [Instr.indexAt,asIntOf,run_underlying aa,Instr.sureAddr,Go.sizeOf,typeInfo,ae,aD,av,jh]
theorem ee {x y:Operand} {t n s p off:Nat} {i:Int} {k:Nat} (ZT:qv c.P t n s) (aq:bc c E L x (.eq (.pointer (some ⟨p,off,none⟩)))) (a6:bc c E L y (.of i)) (av:k < n∧i=k):
 b7 c E L ⟨d,.indexAddr t x y,ty,pos,af,g⟩ (.eq (.pointer (some ⟨p,off + k * s,none⟩))):= .pure fun a W st=>by
 have aV:a.eval x=_:=aq a W st
 have a1:=of_int.1 (a6 a W st)
 obtain⟨bo,rfl⟩:=av
 exact⟨_,by simp [execOp,aV,a1,Q8 ZT p off k bo],rfl⟩
theorem aj.alloc {t:TypeId} {rest:List Oper} {bb:Nat} {α:Type} [ai α] {z:α} (gB:cQ c.P t z) (aR:Nat.blt bb c.n=true)
 (k:∀ p,aj c ops Q rest ((bb,.eq (.pointer (some ⟨p,0,none⟩))) :: E) (⟨some p,.var z⟩ :: L)):aj c ops Q (⟨some bb,.alloc t,ty,pos,af,none⟩ :: rest) E L:=fun a W s=>by
 obtain⟨i,dX,aa,ae,aD⟩:=gB.zero
 refine h6 rfl (R:=fun v W'=>v= .pointer (some ⟨W.heap.size,0,none⟩)∧W'=W.alloc (.cells dX.cells t)) (.l5 ?_ ⟨rfl,rfl⟩) fun v W' ⟨aX,hw⟩=> ?_
 ·simp [execOp,Instr.alloc,zeroValue,typeInfo,aa,ae,newVar,newRow]
 ·subst aX
  subst hw
  exact k _ _ _ ((s.alloc (cp:= .var z) ⟨dX.cells,t,rfl,(aD _ _).2⟩).put (by simpa using aR) rfl)
theorem tK {P:Program} {t:TypeId} {α:Type} [ai α] {z:α} (gB:cQ P t z):Jr P ⟨d,.alloc t,ty,pos,af,none⟩ (.var z):=by
 obtain⟨i,dX,aa,ae,aD⟩:=gB.zero
 refine⟨rfl,.cells dX.cells t,fun A W=>⟨dX.cells,t,rfl,(aD A W).2⟩,fun a W=> ?_⟩
 simp [execOp,Instr.alloc,zeroValue,typeInfo,aa,ae,newVar,newRow]
theorem qU {x y:Operand} {t:TypeId} {i p o:Nat} {β γ:Type} [ai β] [ai γ] {b b':β} {v:γ} (l:aL β γ) (eh:bA c.P t γ) (aq:bc c E L x (.eq (.pointer (some ⟨p,o,none⟩))))
 (a6:bc c E L y (.of v)) (au:L[i]? =some ⟨some p,.var b⟩) (bp:o=l.off) (hb:l.set b v=b'):Bx c E L ⟨none,.store t x y,ty,pos,af,none⟩ p (.var b'):=⟨rfl,rfl,fun a W s=>by
 subst bp
 subst hb
 obtain⟨jy,eu,cs,T,rfl,fL⟩:=s.own _ (List.mem_of_getElem? au)
 have aa:cs.toList.length=ai.size β:=ai.len fL
 have e3:=l.gl
 have aX:=a6 a W s
 have ae:=yp (A:=aP L ++ c.b5) eh eu (off:=l.off) (by simp at aa; omega) aX
 have aV:a.eval x=_:=aq a W s
 refine⟨cs,(fR cs.toList l.off (a.eval y).cells.toList).toArray,T,eu,?_,?_⟩
 ·simp [execOp,Instr.storeAt,Instr.sureAddr,aV,ae]
 ·refine⟨_,T,rfl,?_⟩
  have:=l.kF fL aX.2
  simpa [fR,ai.len aX.2] using this⟩
theorem aj.box {t:TypeId} {x:Operand} {rest:List Oper} {bb:Nat} {α:Type} [ai α] {z:α} (aq:bc c E L x (.of z)) (aR:Nat.blt bb c.n=true)
 (k:∀ p,aj c ops Q rest ((bb,.eq (.pointer (some ⟨p,0,none⟩))) :: E) (⟨some p,.var z⟩ :: L)):aj c ops Q (⟨some bb,.box t x,ty,pos,af,none⟩ :: rest) E L:=fun a W s=>by
 refine h6 rfl (R:=fun v W'=>v= .pointer (some ⟨W.heap.size,0,none⟩)∧W'=W.alloc (.cells (a.eval x).cells t)) (.l5 ?_ ⟨rfl,rfl⟩) fun v W' ⟨aX,hw⟩=> ?_
 ·simp [execOp,Instr.box,newVar,newRow]
 ·subst aX
  subst hw
  exact k _ _ _ ((s.alloc (cp:= .var z) ⟨_,t,rfl,(aq a W s).2⟩).put (by simpa using aR) rfl)
theorem aj.store {x y:Operand} {t:TypeId} {rest:List Oper} {i p o:Nat} {β γ:Type} [ai β] [ai γ] {b b':β} {v:γ} (l:aL β γ) (eh:bA c.P t γ) (aq:bc c E L x (.eq (.pointer (some ⟨p,o,none⟩))))
 (a6:bc c E L y (.of v)) (au:L[i]? =some ⟨some p,.var b⟩) (bp:o=l.off) (hb:l.set b v=b')
 (k:aj c ops Q rest E (L.set i ⟨some p,.var b'⟩)):aj c ops Q (⟨none,.store t x y,ty,pos,af,none⟩ :: rest) E L:=fun a W s=>by
 subst bp
 subst hb
 obtain⟨jy,eu,cs,T,rfl,fL⟩:=s.own _ (List.mem_of_getElem? au)
 have aa:cs.toList.length=ai.size β:=ai.len fL
 have e3:=l.gl
 have aX:=a6 a W s
 have ae:=yp (A:=aP L ++ c.b5) eh eu (off:=l.off) (by simp at aa; omega) aX
 have aV:a.eval x=_:=aq a W s
 refine h6 rfl (R:=fun v W'=>W'=W.setRow p (fR cs.toList l.off (a.eval y).cells.toList).toArray) (.v8 ?_ rfl) fun v W' hw=> ?_
 ·simp [execOp,Instr.storeAt,Instr.sureAddr,aV,ae]
 ·subst hw
  refine k _ _ (s.store au eu ?_)
  refine⟨_,T,rfl,?_⟩
  have:=l.kF fL aX.2
  simpa [fR,ai.len aX.2] using this
def hA (c:dh) (E:List (Nat × I)) (L:List aO):List Operand→List I→Prop
 | [],[]=>True
 | x :: xs,τ :: τs=>bc c E L x τ∧hA c E L xs τs
 | _,_=>False
theorem hA.holds:∀ {xs:List Operand} {τs:List I},hA c E L xs τs→ ∀ a W,bS c E L a W→gq (aP L ++ c.b5) W τs (xs.map a.eval)
 | [],[],_,_,_,_=> .nil
 | x :: xs,τ :: τs,h,a,W,s=> .cons (h.1 a W s) (h.2.holds a W s)
 | [],_ :: _,h,_,_,_=>h.elim
 | _ :: _,[],h,_,_,_=>h.elim
structure bT (P:Program) (f:FuncId):Prop where
 at_:∃ fn,P.funcs[f]? =some fn∧fn.body.isNone=false∧ (fn.name == "runtime.NumGoroutine")=false
theorem bT.run {P:Program} {f:FuncId} (h:bT P f) (args:Array Value) (W:World):(callFunc f args).run P W= .ok (.enter f args) W:=by
 obtain⟨fn,aa,ae,aD⟩:=h.at_
 simp only [callFunc,Sem.run_bind,run_program,Result.andThen_ok,aa,aD,ae]
 rfl
theorem hP {f:FuncId} {xs:List Operand} {ats:Array TypeId} {τs:List I} {ρ:I} (ea:bT c.P f) (h:bw c.P f τs ρ) (aq:hA c E L xs τs):
 b7 c E L ⟨d,.call ⟨.value (.func f),xs.toArray,ats⟩,ty,pos,af,g⟩ ρ:=fun a W s=>by
 refine .tN (f:=f) (args:=(xs.map a.eval).toArray) (W':=W) ?_ (h _ W _ s.Da (aq.holds a W s))
 simp [execOp,resolve,Deferred.ofValue,Act.eval,invoke,ea.run]
theorem sh {P:Program} {W:World} {t off:Nat} {cs:Array Value} {α:Type} [ai α] {A:List Nat} {x:α} (ty:bA P t α) (hs:off + ai.size α≤cs.size)
 (aQ:ai.rep A W ((cs.toList.drop off).take (ai.size α)) x):∃ v,(part t cs off).run P W= .ok v W∧ (I.of x).holds A W v:=by
 have ao:=ai.len aQ
 cases bn:ai.agg α with
 | true=>
   refine⟨.agg (cs.extract off (off + ai.size α)),?_,?_,?_⟩
   ·simp [part,ty.isAgg,ty.sizeOf,bn]
   ·simp [shaped,bn]
   ·simpa [Value.cells,List.extract,Array.toList_extract] using aQ
 | false=>
   have aa:ai.size α=1:=ai.flat bn
   have cw:off < cs.size:=by omega
   have ae:(cs.toList.drop off).take (ai.size α)= [cs[off]]:=by
    rw [aa]
    apply List.ext_getElem?
    intro j
    rw [List.getElem?_take,List.getElem?_drop]
    cases j with
    | zero=>simp [cw]
    | succ j=>simp
   rw [ae] at aQ
   have aD:cs[off].oneCell'=true:=ai.one aQ _ (by simp)
   refine⟨cs[off],?_,?_,?_⟩
   ·simp [part,ty.isAgg,bn,cw]
   ·simp [shaped,bn,aD]
   ·rw [nG aD]; simpa using aQ
structure Js (P:Program) (s f t o:Nat):Prop where
 at_:∃ fW fd,P.underlying s=some (.struct fW)∧fW[f]? =some fd∧fd.offset=o∧fd.type=t
theorem Gc {x:Operand} {s f t o:Nat} {β γ:Type} [ai β] [ai γ] {b:β} (l:aL β γ) {r:γ} (ZU:Js c.P s f t o) (eh:bA c.P t γ) (bn:ai.agg β=true) (aq:bc c E L x (.of b)) (bp:l.off=o) (aQ:l.get b=r):
 b7 c E L ⟨d,.field s x f,ty,pos,af,g⟩ (.of r):= .pure fun a W st=>by
 subst bp
 subst aQ
 obtain⟨aa,ae⟩:=aq a W st
 simp only [shaped,bn,if_true] at aa
 obtain⟨cs,rE⟩:=aa
 obtain⟨fW,fd,aD,aV,a1,bo⟩:=ZU.at_
 rw [rE] at ae
 simp only [Value.cells] at ae
 have ao:cs.toList.length=ai.size β:=ai.len ae
 obtain⟨v,cX,eP⟩:=sh (A:=aP L ++ c.b5) (P:=c.P) (W:=W) (cs:=cs) (off:=l.off) eh (by have:=l.gl; simp at ao; omega) (l.il ae)
 refine⟨v,?_,eP⟩
 simp [execOp,Instr.field,run_underlying aD,aV,rE,asAgg,a1,bo,cX]
theorem L0 {x y:Operand} {t e n:Nat} {i:Int} {k:Nat} {α:Type} [ai α] [Inhabited α] {v:Vector α n} (hu:c.P.underlying t=some (.array n e)) (eh:bA c.P e α) (aq:bc c E L x (.of v)) (a6:bc c E L y (.of i)) (av:k < n∧i=k):
 b7 c E L ⟨d,.index t x y,ty,pos,af,g⟩ (.of (bD v k)):= .pure fun a W st=>by
 obtain⟨aa,ae⟩:=aq a W st
 obtain⟨cs,rE⟩:∃ cs,a.eval x= .agg cs:=by simpa [shaped,ai.agg] using aa
 have a1:=of_int.1 (a6 a W st)
 obtain⟨bo,rfl⟩:=av
 rw [rE] at ae
 simp only [Value.cells] at ae
 have ao:cs.toList.length=n * ai.size α:=ai.len ae
 have e3:=(aL.idx (α:=α) n k bo).gl
 obtain⟨u,cX,eP⟩:=sh (A:=aP L ++ c.b5) (P:=c.P) (W:=W) (cs:=cs) (off:=k * ai.size α) eh
  (by
   have:k * ai.size α + ai.size α≤n * ai.size α:=e3
   simp at ao; omega) ((aL.idx (α:=α) n k bo).il ae)
 refine⟨u,?_,eP⟩
 simp [execOp,Instr.index,asIntOf,run_underlying hu,rE,a1,bo,eh.sizeOf,cX]
theorem lz {x:Operand} {i:Nat} {τs:List I} {τ:I} (aq:bc c E L x (.cN τs)) (an:τs[i]? =some τ):b7 c E L ⟨d,.extract x i,ty,pos,af,g⟩ τ:= .pure fun a W st=>by
 obtain⟨vs,aa,ae⟩:=aq a W st
 have get:∀ {τs:List I} {vs:List Value},gq (aP L ++ c.b5) W τs vs→ ∀ (i:Nat) (τ:I),τs[i]? =some τ→ ∃ v,vs[i]? =some v∧τ.holds (aP L ++ c.b5) W v:=by
  intro τs vs h
  induction h with
  | nil=>intro i τ h; simp at h
  | cons aa _ b1=>
    intro i τ h
    cases i with
    | zero=>simp only [List.getElem?_cons_zero,Option.some.injEq] at h; subst h; exact⟨_,rfl,aa⟩
    | succ i=>simp only [List.getElem?_cons_succ] at h ⊢; exact b1 i τ h
 obtain⟨v,aD,aV⟩:=get ae i τ an
 refine⟨v,?_,aV⟩
 have a1:vs[i]? =some v:=by simpa using aD
 simp [execOp,Instr.extract,aa,a1]
end
end Gv
namespace Gv
open Go
set_option linter.unusedVariables false
set_option linter.unusedSimpArgs false
def bz (x:Int):Int:=IntKind.i64.wrap x
theorem hQ {x:Int} (h: -9223372036854775808≤x) (cZ:x≤9223372036854775807):bz x=x:=by
 unfold bz
 rw [IntKind.wrap_i64]
 omega
def uB (a b:Int):Option Int:=if b=0 then none else some (bz (a.tdiv b))
def nZ (a b:Int):Option Int:=if b=0 then none else some (a.tmod b)
theorem KZ {a b r:Int} (h:uB a b=some r):b≠0∧bz (a.tdiv b)=r:=by unfold uB at h; split at h <;> simp_all
theorem yN {a b r:Int} (h:nZ a b=some r):b≠0∧a.tmod b=r:=by unfold nZ at h; split at h <;> simp_all
theorem wrap_u8 (n:Int):IntKind.u8.wrap n=n % 256:=by simp [IntKind.wrap,IntKind.signed,IntKind.bits]
theorem wrap_u64 (n:Int):IntKind.u64.wrap n=n % 18446744073709551616:=by simp [IntKind.wrap,IntKind.signed,IntKind.bits]
theorem TW (P:Program) (W:World) (k Jt:IntKind) (a b:Int) (h:0≤b):(Op.shift .shl k a Jt b).run P W= .ok (.int k (k.wrap (a * 2 ^ min b.toNat k.bits))) W:=by
 unfold Op.shift
 rw [if_neg (by omega)]
 rfl
theorem TX (P:Program) (W:World) (k Jt:IntKind) (a b:Int) (h:0≤b):(Op.shift .shr k a Jt b).run P W= .ok (.int k (a.fdiv (2 ^ min b.toNat k.bits))) W:=by
 unfold Op.shift
 rw [if_neg (by omega)]
 rfl
section
variable {c:dh} {E:List (Nat × I)} {L:List aO}
variable {d:Option Tmp} {ty:TypeId} {pos:String} {af:Array Edge} {g:Option (Nat × Bool)} {x y:Operand} {t t2:TypeId}
theorem c9 {a b:Int} (aq:bc c E L x (.of a)) (a6:bc c E L y (.of b)):b7 c E L ⟨d,.binOp .add t x y t2,ty,pos,af,g⟩ (.of (bz (a + b))):= .pure fun A W s=>
 ⟨.int .i64 (bz (a + b)),by simp [execOp,eqGuard,binOp,Op.intArith,of_int.1 (aq A W s),of_int.1 (a6 A W s),bz],of_int.2 rfl⟩
theorem ly {a b:Int} (aq:bc c E L x (.of a)) (a6:bc c E L y (.of b)):b7 c E L ⟨d,.binOp .sub t x y t2,ty,pos,af,g⟩ (.of (bz (a - b))):= .pure fun A W s=>
 ⟨.int .i64 (bz (a - b)),by simp [execOp,eqGuard,binOp,Op.intArith,of_int.1 (aq A W s),of_int.1 (a6 A W s),bz],of_int.2 rfl⟩
theorem Vy {a b:Int} (aq:bc c E L x (.of a)) (a6:bc c E L y (.of b)):b7 c E L ⟨d,.binOp .mul t x y t2,ty,pos,af,g⟩ (.of (bz (a * b))):= .pure fun A W s=>
 ⟨.int .i64 (bz (a * b)),by simp [execOp,eqGuard,binOp,Op.intArith,of_int.1 (aq A W s),of_int.1 (a6 A W s),bz],of_int.2 rfl⟩
theorem Ng {a b r:Int} (aq:bc c E L x (.of a)) (a6:bc c E L y (.of b)) (h:b≠0∧bz (a.tdiv b)=r):b7 c E L ⟨d,.binOp .quo t x y t2,ty,pos,af,g⟩ (.of r):= .pure fun A W s=>
 ⟨.int .i64 r,by obtain⟨aa,rfl⟩:=h; simp [execOp,eqGuard,binOp,Op.intDiv,of_int.1 (aq A W s),of_int.1 (a6 A W s),bz,aa],of_int.2 rfl⟩
theorem zE {a b r:Int} (aq:bc c E L x (.of a)) (a6:bc c E L y (.of b)) (h:b≠0∧a.tmod b=r):b7 c E L ⟨d,.binOp .rem t x y t2,ty,pos,af,g⟩ (.of r):= .pure fun A W s=>
 ⟨.int .i64 r,by obtain⟨aa,rfl⟩:=h; simp [execOp,eqGuard,binOp,Op.intDiv,of_int.1 (aq A W s),of_int.1 (a6 A W s),aa],of_int.2 rfl⟩
theorem eb {a b:Int} (aq:bc c E L x (.of a)) (a6:bc c E L y (.of b)):b7 c E L ⟨d,.binOp .lss t x y t2,ty,pos,af,g⟩ (.of (decide (a < b))):= .pure fun A W s=>
 ⟨.bool (decide (a < b)),by simp only [execOp,eqGuard,binOp,of_int.1 (aq A W s),of_int.1 (a6 A W s)]; rfl,of_bool.2 rfl⟩
theorem q1 {a b:Int} (aq:bc c E L x (.of a)) (a6:bc c E L y (.of b)):b7 c E L ⟨d,.binOp .leq t x y t2,ty,pos,af,g⟩ (.of (decide (a≤b))):= .pure fun A W s=>
 ⟨.bool (decide (a≤b)),by simp only [execOp,eqGuard,binOp,of_int.1 (aq A W s),of_int.1 (a6 A W s)]; rfl,of_bool.2 rfl⟩
theorem ow {a b:Int} (aq:bc c E L x (.of a)) (a6:bc c E L y (.of b)):b7 c E L ⟨d,.binOp .gtr t x y t2,ty,pos,af,g⟩ (.of (decide (a > b))):= .pure fun A W s=>
 ⟨.bool (decide (a > b)),by simp only [execOp,eqGuard,binOp,of_int.1 (aq A W s),of_int.1 (a6 A W s)]; rfl,of_bool.2 rfl⟩
theorem jU {a b:Int} (aq:bc c E L x (.of a)) (a6:bc c E L y (.of b)):b7 c E L ⟨d,.binOp .geq t x y t2,ty,pos,af,g⟩ (.of (decide (a≥b))):= .pure fun A W s=>
 ⟨.bool (decide (a≥b)),by simp only [execOp,eqGuard,binOp,of_int.1 (aq A W s),of_int.1 (a6 A W s)]; rfl,of_bool.2 rfl⟩
theorem gf {a b:Int} (aq:bc c E L x (.of a)) (a6:bc c E L y (.of b)):b7 c E L ⟨d,.binOp .eql t x y t2,ty,pos,af,g⟩ (.of (a ==b)):= .pure fun A W s=>
 ⟨.bool (a ==b),by simp only [execOp,eqGuard,binOp,of_int.1 (aq A W s),of_int.1 (a6 A W s)]; rfl,of_bool.2 rfl⟩
theorem sD {a b:Int} (aq:bc c E L x (.of a)) (a6:bc c E L y (.of b)):b7 c E L ⟨d,.binOp .neq t x y t2,ty,pos,af,g⟩ (.of (a !=b)):= .pure fun A W s=>
 ⟨.bool (a !=b),by simp only [execOp,eqGuard,binOp,of_int.1 (aq A W s),of_int.1 (a6 A W s)]; rfl,of_bool.2 rfl⟩
theorem Wy {a b:Bool} (hu:c.P.underlying t=some .bool) (aq:bc c E L x (.of a)) (a6:bc c E L y (.of b)):b7 c E L ⟨d,.binOp .eql t x y t2,ty,pos,af,g⟩ (.of (a ==b)):= .pure fun A W s=>
 ⟨.bool (a ==b),by
   simp only [execOp,eqGuard,binOp,of_bool.1 (aq A W s),of_bool.1 (a6 A W s),Op.equal,Op.maxDepth]
   simp [run_equalIn_bool' W 9999 t a b hu],of_bool.2 rfl⟩
theorem wx {a b:Int} {ats:Array TypeId} (aq:bc c E L x (.of a)) (a6:bc c E L y (.of b)):b7 c E L ⟨d,.call ⟨.builtin .min,#[x,y],ats⟩,ty,pos,af,g⟩ (.of (min a b)):= .pure fun A W s=>
 ⟨.int .i64 (min a b),by
   simp [execOp,resolve,invoke,builtin,Builtin.min_,Builtin.min2,of_int.1 (aq A W s),of_int.1 (a6 A W s)]
   split <;> omega,of_int.2 rfl⟩
theorem Dg {a b:Int} {ats:Array TypeId} (aq:bc c E L x (.of a)) (a6:bc c E L y (.of b)):b7 c E L ⟨d,.call ⟨.builtin .max,#[x,y],ats⟩,ty,pos,af,g⟩ (.of (max a b)):= .pure fun A W s=>
 ⟨.int .i64 (max a b),by
   simp [execOp,resolve,invoke,builtin,Builtin.max_,Builtin.max2,of_int.1 (aq A W s),of_int.1 (a6 A W s)]
   split <;> omega,of_int.2 rfl⟩
theorem WC (a:BitVec 8):(a.toNat:Int) < 256:=by have:=a.isLt; omega
theorem Nh {a:BitVec 8} {src dst:TypeId} {e:TypeDesc} (hs:c.P.underlying src=some e) (hd:c.P.underlying dst=some (.int .i64)) (aq:bc c E L x (.of a)):b7 c E L ⟨d,.convert src dst x,ty,pos,af,g⟩ (.of (a.toNat:Int)):= .pure fun A W s=>
 ⟨.int .i64 a.toNat,by
   have h:IntKind.i64.wrap (a.toNat:Int)=(a.toNat:Int):=hQ (by omega) (by have:=WC a; omega)
   simp only [execOp,convert,Sem.run_bind,run_underlying hs,run_underlying hd,DD.1 (aq A W s),Conv.intToInt,Result.andThen_ok,h]; rfl,of_int.2 rfl⟩
theorem tZ (a:BitVec 64):(a.toNat:Int) < 18446744073709551616:=by have:=a.isLt; omega
theorem ofInt_u64 (a:BitVec 64):BitVec.ofInt 64 (a.toNat:Int)=a:=by simp
theorem TY (a b:BitVec 64):IntKind.u64.wrap ((a.toNat:Int) + (b.toNat:Int))=((a + b).toNat:Int):=by rw [wrap_u64,BitVec.toNat_add]; omega
theorem TS {a b:BitVec 64} (aq:bc c E L x (.of a)) (a6:bc c E L y (.of b)):b7 c E L ⟨d,.binOp .add t x y t2,ty,pos,af,g⟩ (.of (a + b)):= .pure fun A W s=>
 ⟨.int .u64 (a + b).toNat,by simp [execOp,eqGuard,binOp,Op.intArith,fK.1 (aq A W s),fK.1 (a6 A W s),TY],fK.2 rfl⟩
theorem TZ (a b:BitVec 64):IntKind.u64.wrap ((a.toNat:Int) - (b.toNat:Int))=((a - b).toNat:Int):=by rw [wrap_u64,BitVec.toNat_sub]; have:=tZ a; have:=tZ b; omega
theorem sk {a b:BitVec 64} (aq:bc c E L x (.of a)) (a6:bc c E L y (.of b)):b7 c E L ⟨d,.binOp .sub t x y t2,ty,pos,af,g⟩ (.of (a - b)):= .pure fun A W s=>
 ⟨.int .u64 (a - b).toNat,by simp [execOp,eqGuard,binOp,Op.intArith,fK.1 (aq A W s),fK.1 (a6 A W s),TZ],fK.2 rfl⟩
theorem sl {a b:BitVec 64} (aq:bc c E L x (.of a)) (a6:bc c E L y (.of b)):b7 c E L ⟨d,.binOp .and t x y t2,ty,pos,af,g⟩ (.of (a &&& b)):= .pure fun A W s=>
 ⟨.int .u64 (a &&& b).toNat,by
   simp only [execOp,eqGuard,binOp,fK.1 (aq A W s),fK.1 (a6 A W s)]
   have h:IntKind.u64.wrap ((a &&& b).toNat:Int)=((a &&& b).toNat:Int):=by rw [wrap_u64]; have:=tZ (a &&& b); omega
   rw [← h]
   conv=>rhs; rw [← ofInt_u64 a,← ofInt_u64 b]
   rfl,fK.2 rfl⟩
theorem pT {a b:BitVec 64} (aq:bc c E L x (.of a)) (a6:bc c E L y (.of b)):b7 c E L ⟨d,.binOp .or t x y t2,ty,pos,af,g⟩ (.of (a ||| b)):= .pure fun A W s=>
 ⟨.int .u64 (a ||| b).toNat,by
   simp only [execOp,eqGuard,binOp,fK.1 (aq A W s),fK.1 (a6 A W s)]
   have h:IntKind.u64.wrap ((a ||| b).toNat:Int)=((a ||| b).toNat:Int):=by rw [wrap_u64]; have:=tZ (a ||| b); omega
   rw [← h]
   conv=>rhs; rw [← ofInt_u64 a,← ofInt_u64 b]
   rfl,fK.2 rfl⟩
theorem L1 {a b:BitVec 64} (aq:bc c E L x (.of a)) (a6:bc c E L y (.of b)):b7 c E L ⟨d,.binOp .xor t x y t2,ty,pos,af,g⟩ (.of (a ^^^ b)):= .pure fun A W s=>
 ⟨.int .u64 (a ^^^ b).toNat,by
   simp only [execOp,eqGuard,binOp,fK.1 (aq A W s),fK.1 (a6 A W s)]
   have h:IntKind.u64.wrap ((a ^^^ b).toNat:Int)=((a ^^^ b).toNat:Int):=by rw [wrap_u64]; have:=tZ (a ^^^ b); omega
   rw [← h]
   conv=>rhs; rw [← ofInt_u64 a,← ofInt_u64 b]
   rfl,fK.2 rfl⟩
theorem KK {a b:BitVec 64} (aq:bc c E L x (.of a)) (a6:bc c E L y (.of b)):b7 c E L ⟨d,.binOp .andNot t x y t2,ty,pos,af,g⟩ (.of (a &&& ~~~b)):= .pure fun A W s=>
 ⟨.int .u64 (a &&& ~~~b).toNat,by
   simp only [execOp,eqGuard,binOp,fK.1 (aq A W s),fK.1 (a6 A W s)]
   have h:IntKind.u64.wrap ((a &&& ~~~b).toNat:Int)=((a &&& ~~~b).toNat:Int):=by rw [wrap_u64]; have:=tZ (a &&& ~~~b); omega
   rw [← h]
   conv=>rhs; rw [← ofInt_u64 a,← ofInt_u64 b]
   rfl,fK.2 rfl⟩
theorem L5 {a:BitVec 64} (aq:bc c E L x (.of a)):b7 c E L ⟨d,.unOp .xor t x,ty,pos,af,g⟩ (.of (~~~a)):= .pure fun A W s=>
 ⟨.int .u64 (~~~a).toNat,by
   have h:IntKind.u64.wrap ((BitVec.ofInt 64 18446744073709551615 ^^^ BitVec.ofInt 64 (a.toNat:Int)).toNat:Int)=((~~~a).toNat:Int):=by
    rw [ofInt_u64 a,show BitVec.ofInt 64 18446744073709551615=BitVec.allOnes 64 from rfl,BitVec.allOnes_xor,wrap_u64]; have:=tZ (~~~a); omega
   rw [← h]
   simp only [execOp,Op.unary,fK.1 (aq A W s)]
   rfl,fK.2 rfl⟩
theorem T0 (a:BitVec 64) (n:Nat):IntKind.u64.wrap ((a.toNat:Int) * 2 ^ min n 64)=((a <<< n).toNat:Int):=by
 rw [wrap_u64,BitVec.toNat_shiftLeft,Nat.shiftLeft_eq]
 rcases Nat.lt_or_ge n 64 with h | h
 ·rw [Nat.min_eq_left (by omega)]; simp
 ·rw [Nat.min_eq_right h]
  have e:(a.toNat * 2 ^ n) % 2 ^ 64=0:=by
   rw [show n=64 + (n - 64) by omega,Nat.pow_add]
   exact Nat.mod_eq_zero_of_dvd ⟨a.toNat * 2 ^ (n - 64),by rw [← Nat.mul_assoc,Nat.mul_comm a.toNat,Nat.mul_assoc]⟩
  rw [e]
  have aU:(2:Int) ^ 64=18446744073709551616:=by decide
  rw [aU]; omega
theorem T1 (a:BitVec 64) (n:Nat):(a.toNat:Int).fdiv (2 ^ min n 64)=((a >>> n).toNat:Int):=by
 rw [BitVec.toNat_ushiftRight,Nat.shiftRight_eq_div_pow]
 have e:∀ m:Nat,(a.toNat:Int).fdiv (2 ^ m)=((a.toNat / 2 ^ m:Nat):Int):=by
  intro m
  rw [show((2:Int) ^ m)=((2 ^ m:Nat):Int) by simp]
  rw [Int.fdiv_eq_ediv_of_nonneg _ (Int.natCast_nonneg _)]
  exact(Int.natCast_ediv _ _).symm
 rw [e]
 rcases Nat.lt_or_ge n 64 with h | h
 ·rw [Nat.min_eq_left (by omega)]
 ·rw [Nat.min_eq_right h]
  have aa:a.toNat / 2 ^ 64=0:=Nat.div_eq_of_lt a.isLt
  have ae:a.toNat / 2 ^ n=0:=Nat.div_eq_of_lt (Nat.lt_of_lt_of_le a.isLt (Nat.pow_le_pow_right (by omega) h))
  rw [aa,ae]
theorem m6 {a:BitVec 64} {b:BitVec 64} (aq:bc c E L x (.of a)) (a6:bc c E L y (.of b)):b7 c E L ⟨d,.binOp .shl t x y t2,ty,pos,af,g⟩ (.of (a <<< b.toNat)):= .pure fun A W s=>
 ⟨.int .u64 (a <<< b.toNat).toNat,by
   simp only [execOp,eqGuard,binOp,fK.1 (aq A W s),fK.1 (a6 A W s)]
   have h:=TW c.P W .u64 .u64 a.toNat b.toNat (by omega)
   simp only [Int.toNat_natCast,IntKind.bits,T0] at h
   exact congrArg (fun r:Result Value=>r.andThen fun v w=> .ok (Next.value v) w) h,fK.2 rfl⟩
theorem sm {a:BitVec 64} {b:BitVec 64} (aq:bc c E L x (.of a)) (a6:bc c E L y (.of b)):b7 c E L ⟨d,.binOp .shr t x y t2,ty,pos,af,g⟩ (.of (a >>> b.toNat)):= .pure fun A W s=>
 ⟨.int .u64 (a >>> b.toNat).toNat,by
   simp only [execOp,eqGuard,binOp,fK.1 (aq A W s),fK.1 (a6 A W s)]
   have h:=TX c.P W .u64 .u64 a.toNat b.toNat (by omega)
   simp only [Int.toNat_natCast,IntKind.bits,T1] at h
   exact congrArg (fun r:Result Value=>r.andThen fun v w=> .ok (Next.value v) w) h,fK.2 rfl⟩
theorem LY {a b:BitVec 64} (aq:bc c E L x (.of a)) (a6:bc c E L y (.of b)):b7 c E L ⟨d,.binOp .lss t x y t2,ty,pos,af,g⟩ (.of (decide (a < b))):= .pure fun A W s=>
 ⟨.bool (decide (a < b)),by
   simp only [execOp,eqGuard,binOp,fK.1 (aq A W s),fK.1 (a6 A W s)]
   have h:decide ((a.toNat:Int) < (b.toNat:Int))=decide (a < b):=by simp [BitVec.lt_def,BitVec.le_def]
   rw [← h]; rfl,of_bool.2 rfl⟩
theorem F9 {a b:BitVec 64} (aq:bc c E L x (.of a)) (a6:bc c E L y (.of b)):b7 c E L ⟨d,.binOp .geq t x y t2,ty,pos,af,g⟩ (.of (decide (a≥b))):= .pure fun A W s=>
 ⟨.bool (decide (a≥b)),by
   simp only [execOp,eqGuard,binOp,fK.1 (aq A W s),fK.1 (a6 A W s)]
   have h:decide ((a.toNat:Int)≥ (b.toNat:Int))=decide (a≥b):=by simp [BitVec.lt_def,BitVec.le_def]
   rw [← h]; rfl,of_bool.2 rfl⟩
theorem CU {a b:BitVec 64} (aq:bc c E L x (.of a)) (a6:bc c E L y (.of b)):b7 c E L ⟨d,.binOp .eql t x y t2,ty,pos,af,g⟩ (.of (a ==b)):= .pure fun A W s=>
 ⟨.bool (a ==b),by
   simp only [execOp,eqGuard,binOp,fK.1 (aq A W s),fK.1 (a6 A W s)]
   have h:((a.toNat:Int) ==(b.toNat:Int))=(a ==b):=by
    rw [Bool.eq_iff_iff]; simp [bne]; exact⟨fun h=>BitVec.eq_of_toNat_eq (by omega),fun h=>by rw [h]⟩
   rw [← h]; rfl,of_bool.2 rfl⟩
theorem LZ {a b:BitVec 64} (aq:bc c E L x (.of a)) (a6:bc c E L y (.of b)):b7 c E L ⟨d,.binOp .neq t x y t2,ty,pos,af,g⟩ (.of (a !=b)):= .pure fun A W s=>
 ⟨.bool (a !=b),by
   simp only [execOp,eqGuard,binOp,fK.1 (aq A W s),fK.1 (a6 A W s)]
   have h:((a.toNat:Int) !=(b.toNat:Int))=(a !=b):=by
    rw [Bool.eq_iff_iff]; simp [bne]; exact⟨fun h=>fun e=>h (by rw [e]),fun h=>by intro e; exact h (BitVec.eq_of_toNat_eq (by omega))⟩
   rw [← h]; rfl,of_bool.2 rfl⟩
theorem iB {a:Int} {src dst:TypeId} {e:TypeDesc} (hs:c.P.underlying src=some e) (hd:c.P.underlying dst=some (.int .u64)) (aq:bc c E L x (.of a)):b7 c E L ⟨d,.convert src dst x,ty,pos,af,g⟩ (.of (BitVec.ofInt 64 a)):= .pure fun A W s=>
 ⟨.int .u64 (BitVec.ofInt 64 a).toNat,by
   have h:IntKind.u64.wrap a=((BitVec.ofInt 64 a).toNat:Int):=by rw [wrap_u64,BitVec.toNat_ofInt]; omega
   simp [execOp,convert,run_underlying hs,run_underlying hd,of_int.1 (aq A W s),Conv.intToInt,h],fK.2 rfl⟩
theorem TI {a:BitVec 64} {src dst:TypeId} {e:TypeDesc} (hs:c.P.underlying src=some e) (hd:c.P.underlying dst=some (.int .u8)) (aq:bc c E L x (.of a)):b7 c E L ⟨d,.convert src dst x,ty,pos,af,g⟩ (.of (a.setWidth 8)):= .pure fun A W s=>
 ⟨.int .u8 (a.setWidth 8).toNat,by
   have h:IntKind.u8.wrap (a.toNat:Int)=((a.setWidth 8).toNat:Int):=by rw [wrap_u8,BitVec.toNat_setWidth]; have:=a.isLt; omega
   simp only [execOp,convert,Sem.run_bind,run_underlying hs,run_underlying hd,fK.1 (aq A W s),Conv.intToInt,Result.andThen_ok,h]; rfl,DD.2 rfl⟩
theorem Uw {a:BitVec 64} {src dst:TypeId} {e:TypeDesc} (hs:c.P.underlying src=some e) (hd:c.P.underlying dst=some (.int .i64)) (aq:bc c E L x (.of a)):b7 c E L ⟨d,.convert src dst x,ty,pos,af,g⟩ (.of (bz a.toNat)):= .pure fun A W s=>
 ⟨.int .i64 (bz a.toNat),by
   simp only [execOp,convert,Sem.run_bind,run_underlying hs,run_underlying hd,fK.1 (aq A W s),Conv.intToInt,Result.andThen_ok]; rfl,of_int.2 rfl⟩
end
end Gv
namespace Gv
open Go
set_option linter.unusedVariables false
set_option linter.unusedSimpArgs false
def ua (tmps:Array Value):ResultVar→Sem Value
 | .tmp t=>pure (tmps.getD t undef)
 | .cell a t=>do loadVar t (← asAddr (tmps.getD a undef))
theorem tG (fn:Func) (tmps:Array Value):results fn tmps=(do
 let vs ← fn.results.mapM (ua tmps)
 pure (if h:vs.size=1 then vs[0] else .tuple vs)):=by
 unfold results
 congr 1
section
variable {c:dh} {E:List (Nat × I)} {L:List aO} {ops:Array Oper} {Q:Exit→Act→World→Prop}
def rP (c:dh) (E:List (Nat × I)) (L:List aO) (r:ResultVar) (τ:I):Prop:=
 ∀ a W,bS c E L a W→ ∃ v,(ua a.tmps r).run c.P W= .ok v W∧τ.holds c.b5 W v
theorem h9 {t:Nat} {τ:I} (h:look E t=some τ):rP c E L (.tmp t) τ:=fun a W s=>by
 obtain⟨v,aa,ae⟩:=s.env t τ h
 exact⟨v,by simp [ua,aa],KM ae⟩
theorem X9 {t:Nat} {ty:TypeId} {i p:Nat} {α:Type} [ai α] {x:α} (eh:bA c.P ty α) (h:look E t=some (.eq (.pointer (some ⟨p,0,none⟩)))) (au:L[i]? =some ⟨some p,.var x⟩):rP c E L (.cell t ty) (.of x):=fun a W s=>by
 obtain⟨v,aa,ae⟩:=s.env t _ h
 subst ae
 obtain⟨jy,eu,cs,T,rfl,fL⟩:=s.own _ (List.mem_of_getElem? au)
 have ao:cs.toList.length=ai.size α:=ai.len fL
 have eV:cs.size=ai.size α:=by simpa using ao
 obtain⟨v,aD,aV⟩:=tx (A:=aP L ++ c.b5) (off:=0) eh eu (by omega) (by rw [List.drop_zero,← ao,List.take_length]; exact fL)
 exact⟨v,by simp [ua,aa,asAddr,aD],KM aV⟩
def uE (c:dh) (ρ:I):Ending→World→Prop:=fun e W'=> ∃ v,e= .returned v∧Fr c.X c.iw W'∧ρ.holds c.b5 W' v
theorem ad.hg {fn:Func} {r:ResultVar} {τ:I} (aQ:fn.results= #[r]) (h:rP c E L r τ) (hU:c.ds= []:=by rfl):ad c (bodyPost c.P fn (uE c τ)) .ret E L:=fun a W s=>by
 obtain⟨v,aa,ae⟩:=h a W s
 exact⟨s.tM hU,v,by simp [tG,aQ,aa],v,rfl,s.dD,ae⟩
theorem ad.p7 {fn:Func} {r iG:ResultVar} {τ ns:I} (aQ:fn.results= #[r,iG]) (h:rP c E L r τ) (ae:rP c E L iG ns) (hU:c.ds= []:=by rfl):ad c (bodyPost c.P fn (uE c (.cN [τ,ns]))) .ret E L:=fun a W s=>by
 obtain⟨v,aD,aV⟩:=h a W s
 obtain⟨v2,a1,bo⟩:=ae a W s
 exact⟨s.tM hU,.tuple #[v,v2],by simp [tG,aQ,aD,a1],_,rfl,s.dD,_,rfl,.cons aV (.cons bo .nil)⟩
theorem ad.qa {fn:Func} {r iG qw:ResultVar} {τ ns AX:I} (aQ:fn.results= #[r,iG,qw]) (h:rP c E L r τ) (ae:rP c E L iG ns) (aD:rP c E L qw AX) (hU:c.ds= []:=by rfl):ad c (bodyPost c.P fn (uE c (.cN [τ,ns,AX]))) .ret E L:=fun a W s=>by
 obtain⟨v,aV,a1⟩:=h a W s
 obtain⟨v2,bo,cX⟩:=ae a W s
 obtain⟨xq,eP,fO⟩:=aD a W s
 exact⟨s.tM hU,.tuple #[v,v2,xq],by simp [tG,aQ,aV,bo,eP],_,rfl,s.dD,_,rfl,.cons a1 (.cons cX (.cons fO .nil))⟩
theorem bw.of {P:Program} {f:FuncId} {fn:Func} {code:Code} {n:Nat} {τs:List I} {ρ:I} (a8:P.funcs[f]? =some fn) (hb:fn.body=some code) (aR:fn.ntmps=n) (hlen:Nat.ble τs.length n=true)
 (h:∀ W A,ah ⟨P,n,W,[],A,none,[]⟩ (bodyPost P fn (uE ⟨P,n,W,[],A,none,[]⟩ ρ)) code (params 0 τs) []):bw P f τs ρ:=bw.enter a8 hb aR hlen h
end
structure kR (P:Program) (t:TypeId) (α:Type) [ai α] [DecidableEq α] (k:Nat):Prop where
 run:∀ d,k≤d→ ∀ A W u v (x y:α),(I.of x).holds A W u→ (I.of y).holds A W v→ (Op.equalIn d t u v).run P W= .ok (decide (x=y)) W
theorem Ma {P t K} (h:P.underlying t=some (.int K)):kR P t Int 1 where
 run d hd A W u v x y aq a6:=by
  obtain⟨d,rfl⟩:∃ e,d=e + 1:=⟨d - 1,by omega⟩
  rw [of_int.1 aq,of_int.1 a6,run_equalIn_int W d t .i64 K x y h]
  congr 1
theorem T2 {P t K} (h:P.underlying t=some (.int K)):kR P t (BitVec 64) 1 where
 run d hd A W u v x y aq a6:=by
  obtain⟨d,rfl⟩:∃ e,d=e + 1:=⟨d - 1,by omega⟩
  rw [fK.1 aq,fK.1 a6,run_equalIn_int W d t .u64 K _ _ h]
  congr 1
  rw [Bool.eq_iff_iff]; simp only [beq_iff_eq,decide_eq_true_eq]
  exact⟨fun h=>BitVec.eq_of_toNat_eq (by omega),fun h=>by rw [h]⟩
theorem Tc {P t} (h:P.underlying t=some .bool):kR P t Bool 1 where
 run d hd A W u v x y aq a6:=by
  obtain⟨d,rfl⟩:∃ e,d=e + 1:=⟨d - 1,by omega⟩
  rw [of_bool.1 aq,of_bool.1 a6,run_equalIn_bool' W d t x y h]
  congr 1
theorem Km {P:Program} {W:World} (f:Nat→Sem Bool) (p:Nat→Bool):∀ (l:List Nat),(∀ i∈l,(f i).run P W= .ok (p i) W)→
 (forIn (m:=Sem) l ((none,()):Option Bool × Unit) (fun i _=>do
  let __do_lift ← f i
  if (!__do_lift)=true then pure (ForInStep.done (some false,())) else
   pure (ForInStep.yield (none,())))).run P W= .ok (if l.all p then(none,()) else(some false,())) W
 | [],_=>by simp
 | i :: r,h=>by
   have aa:=h i (by simp)
   have ae:=Km (P:=P) (W:=W) f p r (fun j aE=>h j (by simp [aE]))
   cases hp:p i with
   | false=>simp [List.forIn_cons,aa,hp]
   | true=>
     rw [List.forIn_cons]
     simp only [Sem.run_bind,aa,hp,Result.andThen_ok,Bool.not_true,Bool.false_eq_true,if_false,Sem.run_pure]
     rw [ae]
     simp [hp]
theorem Gl {P t e n k} {α:Type} [ai α] [Inhabited α] [DecidableEq α] (h:P.underlying t=some (.array n e)) (fC:bA P e α) (he:kR P e α k):kR P t (Vector α n) (k + 1) where
 run d hd A W u v x y aq a6:=by
  obtain⟨d,rfl⟩:∃ e,d=e + 1:=⟨d - 1,by omega⟩
  obtain⟨aa,ae⟩:=aq
  obtain⟨aD,aV⟩:=a6
  obtain⟨xs,rfl⟩:∃ cs,u= .agg cs:=by simpa [shaped,ai.agg] using aa
  obtain⟨ys,rfl⟩:∃ cs,v= .agg cs:=by simpa [shaped,ai.agg] using aD
  simp only [Value.cells] at ae aV
  have uS:xs.toList.length=n * ai.size α:=ai.len ae
  have Iu:ys.toList.length=n * ai.size α:=ai.len aV
  have z4:∀ i∈List.range' 0 n,((do
   let a ← part e xs (i * ai.size α)
   let b ← part e ys (i * ai.size α)
   Op.equalIn d e a b):Sem Bool).run P W= .ok (decide (bD x i=bD y i)) W:=by
   intro i an
   have jr:i < n:=by simpa using an
   have e3:i * ai.size α + ai.size α≤n * ai.size α:=(aL.idx (α:=α) n i jr).gl
   obtain⟨a,bn,uT⟩:=sh (A:=A) (P:=P) (W:=W) (cs:=xs) (off:=i * ai.size α) fC (by simp at uS; omega) ((aL.idx (α:=α) n i jr).il ae)
   obtain⟨b,hb,Iv⟩:=sh (A:=A) (P:=P) (W:=W) (cs:=ys) (off:=i * ai.size α) fC (by simp at Iu; omega) ((aL.idx (α:=α) n i jr).il aV)
   simp only [Sem.run_bind,bn,hb,Result.andThen_ok]
   exact he.run d (by omega) A W a b _ _ uT Iv
  have a8:=Km (P:=P) (W:=W) _ _ _ z4
  have jG:(List.range' 0 n).all (fun i=>decide (bD x i=bD y i))=decide (x=y):=by
   rw [Bool.eq_iff_iff,List.all_eq_true,decide_eq_true_eq]
   constructor
   ·intro h
    apply Vector.ext
    intro i an
    have:=h i (by simpa using an)
    simpa [bD,an] using this
   ·rintro rfl i _
    simp
  rw [jG] at a8
  simp only [Op.equalIn,Sem.run_bind,run_underlying h,Result.andThen_ok,fC.sizeOf,Std.Legacy.Range.forIn_eq_forIn_range']
  simp only [Std.Legacy.Range.size,Nat.sub_zero,Nat.add_one_sub_one,Nat.div_one] at a8 ⊢
  simp only [bind_assoc] at a8
  rw [a8]
  by_cases OQ:x=y
  ·simp [OQ]
  ·simp [OQ]
end Gv
namespace Gv
open Go
set_option linter.unusedVariables false
set_option linter.unusedSimpArgs false
section
variable {c:dh} {E:List (Nat × I)} {L:List aO} {ops:Array Oper} {Q:Exit→Act→World→Prop}
variable {d:Option Tmp} {ty:TypeId} {pos:String} {af:Array Edge} {g:Option (Nat × Bool)} {x y:Operand} {t t2:TypeId}
theorem ug {α:Type} [ai α] [DecidableEq α] {k:Nat} {a b:α} (va:kR c.P t α k) (av:Nat.ble k 10000=true) (bP:c.P.eqGuardType c.P.depth t=false) (bn:ai.agg α=true) (aq:bc c E L x (.of a)) (a6:bc c E L y (.of b)):
 b7 c E L ⟨d,.binOp .eql t x y t2,ty,pos,af,g⟩ (.of (decide (a=b))):= .pure fun A W s=>by
 have aa:=aq A W s
 have ae:=a6 A W s
 obtain⟨xs,iF⟩:∃ cs,A.eval x= .agg cs:=by simpa [shaped,bn] using aa.1
 obtain⟨ys,AY⟩:∃ cs,A.eval y= .agg cs:=by simpa [shaped,bn] using ae.1
 have aD:=va.run 10000 (Nat.le_of_ble_eq_true av) _ W _ _ a b aa ae
 rw [iF,AY] at aD
 refine⟨.bool (decide (a=b)),?_,of_bool.2 rfl⟩
 simp only [execOp,iF,AY,Sem.run_bind,run_eqGuard_agg W .eql t x y xs ys bP,Result.andThen_ok,run_eql_struct,aD,Sem.run_pure]
theorem Dh {α:Type} [ai α] [DecidableEq α] {k:Nat} {a b:α} (va:kR c.P t α k) (av:Nat.ble k 10000=true) (bP:c.P.eqGuardType c.P.depth t=false) (bn:ai.agg α=true) (aq:bc c E L x (.of a)) (a6:bc c E L y (.of b)):
 b7 c E L ⟨d,.binOp .neq t x y t2,ty,pos,af,g⟩ (.of (!decide (a=b))):= .pure fun A W s=>by
 have aa:=aq A W s
 have ae:=a6 A W s
 obtain⟨xs,iF⟩:∃ cs,A.eval x= .agg cs:=by simpa [shaped,bn] using aa.1
 obtain⟨ys,AY⟩:∃ cs,A.eval y= .agg cs:=by simpa [shaped,bn] using ae.1
 have aD:=va.run 10000 (Nat.le_of_ble_eq_true av) _ W _ _ a b aa ae
 rw [iF,AY] at aD
 refine⟨.bool (!decide (a=b)),?_,of_bool.2 rfl⟩
 simp only [execOp,iF,AY,Sem.run_bind,run_eqGuard_agg W .neq t x y xs ys bP,Result.andThen_ok,run_neq_struct,aD,Sem.run_pure]
end
theorem Gm {P:Program} {W:World} {d:Nat} {xs ys:Array Value} :(Op.eqFields d xs ys []).run P W= .ok true W:=rfl
theorem qP {P:Program} {A:List Nat} {W:World} {d:Nat} {xs ys:Array Value} {β γ:Type} [ai β] [ai γ] [DecidableEq γ] (l:aL β γ) {Ju Jv:β} {fd:Field} {fW:List Field} {k:Nat} {r:Bool} (fC:bA P fd.type γ) (bp:fd.offset=l.off) (aR:(fd.name == "_")=false)
 (va:kR P fd.type γ k) (hd:k≤d) (aq:ai.rep A W xs.toList Ju) (a6:ai.rep A W ys.toList Jv) (aQ:(Op.eqFields d xs ys fW).run P W= .ok r W):
 (Op.eqFields d xs ys (fd :: fW)).run P W= .ok (decide (l.get Ju=l.get Jv) && r) W:=by
 have uS:xs.toList.length=ai.size β:=ai.len aq
 have Iu:ys.toList.length=ai.size β:=ai.len a6
 have e3:=l.gl
 obtain⟨a,bn,uT⟩:=sh (A:=A) (P:=P) (W:=W) (cs:=xs) (off:=l.off) fC (by simp at uS; omega) (l.il aq)
 obtain⟨b,hb,Iv⟩:=sh (A:=A) (P:=P) (W:=W) (cs:=ys) (off:=l.off) fC (by simp at Iu; omega) (l.il a6)
 have rF:fd.name≠ "_" :=fun e=>by rw [e] at aR; simp at aR
 simp only [Op.eqFields,if_pos rF,Sem.run_bind,bp,bn,hb,Result.andThen_ok,va.run d hd A W a b _ _ uT Iv]
 by_cases h:l.get Ju=l.get Jv
 ·simp [h,aQ]
 ·simp [h]
theorem Fw {P:Program} {t:TypeId} {β:Type} [ai β] [DecidableEq β] {k:Nat} {fW:Array Field} (bn:ai.agg β=true) (hu:P.underlying t=some (.struct fW)) (hp:P.stoodInHeld t=false)
 (h:∀ d,k≤d→ ∀ A W (xs ys:Array Value) (x y:β),ai.rep A W xs.toList x→ai.rep A W ys.toList y→ (Op.eqFields d xs ys fW.toList).run P W= .ok (decide (x=y)) W):kR P t β (k + 1) where
 run d hd A W u v x y aq a6:=by
  obtain⟨d,rfl⟩:∃ e,d=e + 1:=⟨d - 1,by omega⟩
  obtain⟨xs,rfl⟩:∃ cs,u= .agg cs:=by simpa [shaped,bn] using aq.1
  obtain⟨ys,rfl⟩:∃ cs,v= .agg cs:=by simpa [shaped,bn] using a6.1
  have a8:P.fieldsOf t=fW:=by simp [Program.fieldsOf,hu]
  rw [run_equalIn_struct W d t xs ys (by rw [a8]; exact hu) hp,a8]
  exact h d (by omega) A W xs ys x y (by simpa [Value.cells] using aq.2) (by simpa [Value.cells] using a6.2)
theorem Kh {P:Program} {W:World} (fW:Array Field) (h:fW.all (fun f=>(P.info? f.type).isSome)=true):
 (fW.mapM (m:=Sem) fun f=>do pure (f.offset,← Go.sizeOf f.type)).run P W= .ok (fW.map fun f=>(f.offset,P.cellsOf f.type)) W:=by
 obtain⟨l⟩:=fW
 have key:∀ (l:List Field),l.all (fun f=>(P.info? f.type).isSome)=true→ (l.mapM (m:=Sem) fun f=>do pure (f.offset,← Go.sizeOf f.type)).run P W= .ok (l.map fun f=>(f.offset,P.cellsOf f.type)) W:=by
  intro l
  induction l with
  | nil=>intro _; rfl
  | cons f r b1=>
    intro h
    simp only [List.all_cons,Bool.and_eq_true] at h
    obtain⟨i,an⟩:=Option.isSome_iff_exists.1 h.1
    rw [List.mapM_cons]
    simp only [Sem.run_bind,Go.sizeOf,typeInfo,run_program,Result.andThen_ok,an,Sem.run_pure]
    have:=b1 h.2
    simp only [Sem.run_bind,Go.sizeOf,typeInfo] at this
    rw [this]
    simp [Program.cellsOf,an]
 have cZ:l.all (fun f=>(P.info? f.type).isSome)=true:=by simpa using h
 rw [List.mapM_toArray]
 simp only [Sem.run_map,key l cZ,Result.andThen_ok]
 simp
theorem RN (ds:List Value) (off:Nat):∀ (j:Nat) (cs:Array Value),off + j + ds.length≤cs.size→
 (ds.zipIdx j).foldl (fun cs (c,j)=>cs.setIfInBounds (off + j) c) cs=(cs.toList.take (off + j) ++ ds ++ cs.toList.drop (off + j + ds.length)).toArray:=by
 induction ds with
 | nil=>intro j cs _; simp
 | cons v r b1=>
   intro j cs h
   simp only [List.length_cons] at h
   rw [List.zipIdx_cons,List.foldl_cons,b1 (j + 1) _ (by simp; omega)]
   simp only [Array.toList_setIfInBounds]
   have:=list_seg_step cs.toList (off + j) v r (by simp; omega)
   rw [show off + (j + 1)=off + j + 1 by omega]
   simp only [List.length_cons]
   rw [this]
theorem CO {place:Nat→Option (Nat × Nat)} {cs:Array Value} {i off sz:Nat} {v:Value} {rest:List (Nat × Value)} (hp:place i=some (off,sz)) (aX:v.cells.size=sz) (hle:off + sz≤cs.size):
 Instr.fill place cs ((i,v) :: rest)=Instr.fill place (fR cs.toList off v.cells.toList).toArray rest:=by
 simp only [Instr.fill,hp]
 rw [if_neg (by simp [aX]; omega)]
 have:=RN v.cells.toList off 0 cs (by simp [aX]; omega)
 simp only [Nat.add_zero] at this
 congr 1
 rw [← Array.foldl_toList]
 have dI:(v.cells.zipIdx).toList=v.cells.toList.zipIdx:=by simp
 rw [dI,this]
 simp [fR]
section
variable {c:dh} {E:List (Nat × I)} {L:List aO} {ops:Array Oper} {Q:Exit→Act→World→Prop}
variable {d:Option Tmp} {ty:TypeId} {pos:String} {af:Array Edge} {g:Option (Nat × Bool)} {x y:Operand} {t t2:TypeId}
inductive p4 (c:dh) (E:List (Nat × I)) (L:List aO) (place:Nat→Option (Nat × Nat)) {β:Type} [ai β]:β→List (Nat × Operand)→β→Prop
 | nil {b} :p4 c E L place b [] b
 | cons {b eE b':β} {γ:Type} [ai γ] {v:γ} {i:Nat} {x:Operand} {r:List (Nat × Operand)} (l:aL β γ):place i=some (l.off,ai.size γ)→bc c E L x (.of v)→l.set b v=eE→p4 c E L place eE r b'→p4 c E L place b ((i,x) :: r) b'
theorem p4.run {place:Nat→Option (Nat × Nat)} {β:Type} [ai β] {b b':β} {bq:List (Nat × Operand)} (h:p4 c E L place b bq b'):∀ a W,bS c E L a W→ ∀ cs:Array Value,ai.rep (aP L ++ c.b5) W cs.toList b→
 ∃ dK,Instr.fill place cs (bq.map fun(i,x)=>(i,a.eval x))=some dK∧ai.rep (aP L ++ c.b5) W dK.toList b':=by
 induction h with
 | nil=>intro a W s cs aQ; exact⟨cs,rfl,aQ⟩
 | @cons b eE b' γ _ v i x r l aa ae aD _ b1=>
   intro a W s cs aQ
   subst aD
   have aX:=ae a W s
   have eV:(a.eval x).cells.size=ai.size γ:=by have:=ai.len aX.2; simpa using this
   have ao:cs.toList.length=ai.size β:=ai.len aQ
   have e3:=l.gl
   rw [List.map_cons,CO aa eV (by simp at ao; omega)]
   refine b1 a W s _ ?_
   have:=l.kF aQ aX.2
   simpa [fR,ai.len aX.2] using this
structure hG (P:Program) (t:TypeId) (pl:Array (Nat × Nat)):Prop where
 at_:∃ fW,P.underlying t=some (.struct fW)∧fW.all (fun f=>(P.info? f.type).isSome)=true∧ (fW.map fun f=>(f.offset,P.cellsOf f.type))=pl
theorem cU {β:Type} [ai β] {z b:β} {bq:List (Nat × Operand)} {pl:Array (Nat × Nat)} (bn:ai.agg β=true) (By:hG c.P t pl) (gB:cQ c.P t z)
 (a8:p4 c E L (pl[·]?) z bq b):b7 c E L ⟨d,.build t bq.toArray,ty,pos,af,g⟩ (.of b):= .pure fun a W s=>by
 obtain⟨fW,hu,hs,rfl⟩:=By.at_
 obtain⟨i,dX,aa,ae,aD⟩:=gB.zero
 obtain⟨dK,aV,a1⟩:=a8.run a W s dX.cells (aD _ _).2
 refine⟨.agg dK,?_,by simp [shaped,bn],by simpa [Value.cells] using a1⟩
 have hm:(bq.toArray.map fun(x:Nat × Operand)=>(x.1,a.eval x.2)).toList=bq.map fun(i,x)=>(i,a.eval x):=by simp
 simp only [execOp,Instr.build,Sem.run_bind,zeroValue,typeInfo,run_program,Result.andThen_ok,aa,ae,Sem.run_pure,run_underlying hu,Kh fW hs]
 rw [hm,aV]
 rfl
theorem CM {β:Type} [ai β] {z b:β} {bq:List (Nat × Operand)} {n e sz:Nat} (bn:ai.agg β=true) (hu:c.P.underlying t=some (.array n e)) (hs:(c.P.info? e).map (·.size)=some sz) (gB:cQ c.P t z)
 (a8:p4 c E L (fun i=>some (i * sz,sz)) z bq b):b7 c E L ⟨d,.build t bq.toArray,ty,pos,af,g⟩ (.of b):= .pure fun a W s=>by
 obtain⟨i,dX,aa,ae,aD⟩:=gB.zero
 obtain⟨gp,ef,eV⟩:∃ gp,c.P.info? e=some gp∧gp.size=sz:=by
  cases an:c.P.info? e with
  | none=>simp [an] at hs
  | some gp=>exact⟨gp,rfl,by simpa [an] using hs⟩
 obtain⟨dK,aV,a1⟩:=a8.run a W s dX.cells (aD _ _).2
 refine⟨.agg dK,?_,by simp [shaped,bn],by simpa [Value.cells] using a1⟩
 have hm:(bq.toArray.map fun(x:Nat × Operand)=>(x.1,a.eval x.2)).toList=bq.map fun(i,x)=>(i,a.eval x):=by simp
 simp only [execOp,Instr.build,Sem.run_bind,zeroValue,typeInfo,run_program,Result.andThen_ok,aa,ae,Sem.run_pure,run_underlying hu,Go.sizeOf,ef,eV]
 rw [hm,aV]
 rfl
end
def nx {α:Type} [ai α] (A:List Nat) (W:World) (v:Value) (xs:List α):Prop:=
 (v= .slice none 0 0∧xs= [])∨
 ∃ b off cap cur T gP,v= .slice (some ⟨b,off,none⟩) xs.length cap∧b ∉ A∧W.heap[b]? =some (.cells cur T gP)∧xs.length≤cap∧xs.length≤maxLen∧off + xs.length * ai.size α≤cur.size∧
   gv A W ((cur.toList.drop off).take (xs.length * ai.size α)) xs
theorem nx.mono {α:Type} [ai α] {A W c7 W' v} {xs:List α} (e:Ext A W c7 W') (h:nx A W v xs):nx c7 W' v xs:=by
 rcases h with h | ⟨b,off,cap,cur,T,gP,aa,ae,aD,aV,a1,bo,cX⟩
 ·exact .inl h
 ·have cw:b < W.heap.size:=(Array.getElem?_eq_some_iff.1 aD).1
  exact .inr ⟨b,off,cap,cur,T,gP,aa,fun hm=>ae (e.new b hm cw),by rw [e.block b cw ae]; exact aD,aV,a1,bo,cX.mono e⟩
instance aac {α:Type} [ai α]:ai (List α) where
 size:=1
 agg:=false
 rep A W cs xs:= ∃ v,cs= [v]∧nx A W v xs
 len h:=by obtain⟨v,rfl,_⟩:=h; rfl
 one h:=by
  obtain⟨v,rfl,h⟩:=h
  intro u hu
  rw [List.mem_singleton.1 hu]
  rcases h with⟨rfl,_⟩ | ⟨b,off,cap,cur,T,gP,rfl,_⟩ <;> rfl
 flat _:=rfl
 mono e h:=let⟨v,aa,ae⟩:=h; ⟨v,aa,ae.mono e⟩
theorem nx.one {α:Type} [ai α] {A W v} {xs:List α} (h:nx A W v xs):v.oneCell'=true:=by
 rcases h with⟨rfl,_⟩ | ⟨b,off,cap,cur,T,gP,rfl,_⟩ <;> rfl
theorem mw {α:Type} [ai α] {A W v} {xs:List α} :(I.of xs).holds A W v↔nx A W v xs:=by
 constructor
 ·rintro ⟨aa,u,ae,aD⟩
  have:v=u:=nF aa ae
  rw [this]; exact aD
 ·intro h
  exact⟨h.one,v,by rw [nG h.one],h⟩
def ax {α:Type} [Inhabited α] (xs:List α) (k:Nat):α:=xs[k]?.getD default
theorem ey {α:Type} [Inhabited α] (xs:List α) {k:Nat} (h:k < xs.length):ax xs k=xs[k]:=by simp [ax,h]
def q0 {α:Type} (xs:List α) (lo an:Int):Option (List α):=if 0≤lo∧lo≤an∧an≤xs.length then some ((xs.drop lo.toNat).take (an.toNat - lo.toNat)) else none
theorem RO {α:Type} {xs r:List α} {lo an:Int} (h:q0 xs lo an=some r):∃ a b:Nat,lo=a∧an=b∧a≤b∧b≤xs.length∧r=(xs.drop a).take (b - a):=by
 unfold q0 at h
 split at h
 ·rename_i ar
  simp only [Option.some.injEq] at h
  exact⟨lo.toNat,an.toNat,by omega,by omega,by omega,by omega,h.symm⟩
 ·cases h
def gu {α:Type} (bytes:Nat) (xs ys:List α):Option (List α):=if (xs.length + ys.length) * bytes≤140737488355328∧xs.length + ys.length≤maxLen then some (xs ++ ys) else none
theorem K5 {α:Type} {bytes:Nat} {xs ys r:List α} (h:gu bytes xs ys=some r):(xs.length + ys.length) * bytes≤140737488355328∧xs.length + ys.length≤maxLen∧r=xs ++ ys:=by
 unfold gu at h
 split at h
 ·rename_i ar; simp only [Option.some.injEq] at h; exact⟨ar.1,ar.2,h.symm⟩
 ·cases h
section
variable {c:dh} {E:List (Nat × I)} {L:List aO} {ops:Array Oper} {Q:Exit→Act→World→Prop}
variable {d:Option Tmp} {ty:TypeId} {pos:String} {af:Array Edge} {g:Option (Nat × Bool)} {x y:Operand} {t t2:TypeId}
theorem look_nil {α:Type} [ai α]:bc c E L (.const (.slice none 0 0)) (.of ([]:List α)):=fun _ _ _=>mw.2 (.inl ⟨rfl,rfl⟩)
theorem nx.len {α:Type} [ai α] {A W v} {xs:List α} (h:nx A W v xs):∃ a cap,v= .slice a xs.length cap:=by
 rcases h with⟨rfl,rfl⟩ | ⟨b,off,cap,cur,T,gP,rfl,_⟩
 ·exact⟨none,0,rfl⟩
 ·exact⟨_,_,rfl⟩
theorem eS {α:Type} [ai α] {xs:List α} {e:TypeId} (hu:c.P.underlying t=some (.slice e)) (aq:bc c E L x (.of xs)):b7 c E L ⟨d,.call ⟨.builtin .len,#[x],#[t]⟩,ty,pos,af,g⟩ (.of (xs.length:Int)):= .pure fun a W s=>by
 obtain⟨b,cap,aa⟩:=(mw.1 (aq a W s)).len
 exact⟨.int .i64 xs.length,by simp [execOp,resolve,invoke,builtin,Builtin.len_,aa,run_underlying hu,goInt],of_int.2 rfl⟩
theorem o3 {α:Type} [ai α] [Inhabited α] {xs:List α} {e:TypeId} {i:Int} {k:Nat} (hu:c.P.underlying t=some (.slice e)) (fC:bA c.P e α) (aq:bc c E L x (.of xs)) (a6:bc c E L y (.of i)) (av:k < xs.length∧i=k):
 b7 c E L ⟨d,.indexAddr t x y,ty,pos,af,g⟩ (.ptr (ax xs k)):= .pure fun a W s=>by
 obtain⟨bo,rfl⟩:=av
 have a1:=of_int.1 (a6 a W s)
 rcases mw.1 (aq a W s) with⟨_,rfl⟩ | ⟨b,off,cap,cur,T,gP,aa,ae,aD,aV,cX,eP,fO⟩
 ·simp at bo
 ·obtain⟨gp,ef,eV⟩:=fC.info
  have hle:(k + 1) * ai.size α≤xs.length * ai.size α:=Nat.mul_le_mul_right _ bo
  rw [Nat.succ_mul] at hle
  refine⟨.pointer (some ⟨b,off + k * ai.size α,none⟩),?_,b,off + k * ai.size α,cur,T,gP,rfl,ae,aD,by omega,?_⟩
  ·simp [execOp,Instr.indexAt,asIntOf,run_underlying hu,aa,a1,bo,Go.sizeOf,typeInfo,ef,eV,jh]
  ·have:=fO.2 k bo
   rw [tC _ _ _ _ _ hle] at this
   rw [ey xs bo]
   exact this
theorem pN {P:Program} {W:World} {v:Value} {k:IntKind} {n m:Nat} {code:BoundsCode} (h:n≤m) (aX:v= .int k n):(Instr.sliceBound v m code).run P W= .ok n W:=by
 subst aX
 have bW:(n:Int)≤ (m:Int):=by omega
 simp [Instr.sliceBound,asIntOf,h]
theorem T3 {α:Type} [ai α] {A W} {xs:List α} {b off cap:Nat} {cur:Array Value} {T:TypeId} {gP:Nat × Nat} {lo an:Nat} (ae:b ∉ A) (aD:W.heap[b]? =some (.cells cur T gP)) (aV:xs.length≤cap) (cX:xs.length≤maxLen)
 (eP:off + xs.length * ai.size α≤cur.size) (fO:gv A W ((cur.toList.drop off).take (xs.length * ai.size α)) xs) (h:lo≤an) (cZ:an≤xs.length):
 nx A W (.slice (some (if cap=lo then⟨b,off,none⟩ else⟨b,off + lo * ai.size α,none⟩)) (an - lo) (cap - lo)) ((xs.drop lo).take (an - lo)):=by
 have ao:((xs.drop lo).take (an - lo)).length=an - lo:=by simp; omega
 have hm:an * ai.size α≤xs.length * ai.size α:=Nat.mul_le_mul_right _ cZ
 have po:lo * ai.size α≤an * ai.size α:=Nat.mul_le_mul_right _ h
 have hd:(an - lo) * ai.size α=an * ai.size α - lo * ai.size α:=Nat.sub_mul _ _ _
 by_cases e:cap=lo
 ·subst e
  have bW:an=cap:=by omega
  subst bW
  refine .inr ⟨b,off,an - an,cur,T,gP,by simp,ae,aD,by simp,by simp,by simp; omega,?_⟩
  simp only [Nat.sub_self,List.take_zero,List.length_nil,Nat.zero_mul]
  exact⟨by simp,fun i an=>by simp at an⟩
 ·rw [if_neg e]
  refine .inr ⟨b,off + lo * ai.size α,cap - lo,cur,T,gP,by rw [ao],ae,aD,by omega,by omega,by rw [ao]; omega,?_⟩
  rw [ao]
  refine⟨by simp only [ao,List.length_take,List.length_drop]; simp; omega,fun i jr=> ?_⟩
  rw [ao] at jr
  have jK:=fO.2 (lo + i) (by omega)
  have hle:(lo + i + 1) * ai.size α≤xs.length * ai.size α:=Nat.mul_le_mul_right _ (by omega)
  have D0:(i + 1) * ai.size α≤ (an - lo) * ai.size α:=Nat.mul_le_mul_right _ (by omega)
  rw [Nat.succ_mul] at hle D0
  rw [tC _ _ _ _ _ hle] at jK
  rw [tC _ _ _ _ _ D0]
  have:((xs.drop lo).take (an - lo))[i]'(by rw [ao]; exact jr)=xs[lo + i]:=by simp
  rw [this]
  rw [show off + lo * ai.size α + i * ai.size α=off + (lo + i) * ai.size α by rw [Nat.add_mul]; omega]
  exact jK
inductive tg (c:dh) (E:List (Nat × I)) (L:List aO):Option Operand→Int→Int→Prop
 | none {n} :tg c E L .none n n
 | some {x i n} :bc c E L x (.of (i:Int))→tg c E L (.some x) i n
theorem F5 {α:Type} [ai α] {xs r:List α} {e:TypeId} {lo an:Option Operand} {i j:Int} (hu:c.P.underlying t=some (.slice e)) (fC:bA c.P e α) (aq:bc c E L x (.of xs)) (hC:tg c E L lo i 0) (er:tg c E L an j xs.length)
 (h:q0 xs i j=some r):b7 c E L ⟨d,.slice t x lo an none,ty,pos,af,g⟩ (.of r):= .pure fun a W s=>by
 obtain⟨m,n,rfl,rfl,uU,aR,rfl⟩:=RO h
 obtain⟨gp,ef,eV⟩:=fC.info
 rcases mw.1 (aq a W s) with⟨aa,rfl⟩ | ⟨b,off,cap,cur,T,gP,aa,ae,aD,aV,cX,eP,fO⟩
 ·have s0:n=0:=by simpa using aR
  have hr:m=0:=by omega
  subst s0
  subst hr
  refine⟨.slice none 0 0,?_,mw.2 (.inl ⟨rfl,by simp⟩)⟩
  have au:(match lo.map a.eval with | some v=>Instr.sliceBound v 0 .sliceB | none=>pure 0:Sem Nat).run c.P W= .ok 0 W:=by
   cases hC with
   | none=>rfl
   | some ao=>exact pN (Nat.le_refl _) (of_int.1 (ao a W s))
  have jd:(match an.map a.eval,(none:Option Value) with | some v,some _=>Instr.sliceBound v 0 .slice3B | some v,none=>Instr.sliceBound v 0 .sliceAcap | none,none=>pure 0 | none,some _=>stuck "Slice: max without high" :Sem Nat).run c.P W= .ok 0 W:=by
   cases er with
   | none=>rfl
   | some ao=>exact pN (Nat.le_refl _) (of_int.1 (ao a W s))
  cases hC <;> cases er
  all_goals
   simp only [execOp,Instr.sliceAt,Instr.slice,Instr.sliceBounds,aa,Sem.run_bind,run_underlying hu,Result.andThen_ok,Option.map_none,Option.map_some,Option.isSome_none,Bool.false_eq_true,if_false,if_true,Sem.run_pure] at au jd ⊢
   try simp only [au,jd,Result.andThen_ok,Go.sizeOf,typeInfo,Sem.run_bind,run_program,ef,Sem.run_pure]
   try simp [ef]
 ·refine⟨.slice (some (if cap=m then⟨b,off,none⟩ else⟨b,off + m * ai.size α,none⟩)) (n - m) (cap - m),?_,mw.2 (T3 ae aD aV cX eP fO uU aR)⟩
  have au:∀ v,v=Value.int .i64 m→ (Instr.sliceBound v n .sliceB).run c.P W= .ok m W:=fun v aX=>pN uU aX
  have jd:∀ v,v=Value.int .i64 n→ (Instr.sliceBound v cap .sliceAcap).run c.P W= .ok n W:=fun v aX=>pN (by omega) aX
  have Ot:(if cap=m then(some ⟨b,off,none⟩:Option Addr) else(some (Addr.add ⟨b,off,none⟩ (m * ai.size α))))=some (if cap=m then⟨b,off,none⟩ else⟨b,off + m * ai.size α,none⟩):=by
   split <;> simp [jh]
  generalize e3:(n:Int)=Pw at er
  generalize AZ:(m:Int)=Px at hC
  generalize A0:(xs.length:Int)=Py at er
  generalize OR:(0:Int)=Pz at hC
  cases hC with
  | none=>
    have hr:m=0:=by omega
    cases er with
    | none=>
      have nt:n=xs.length:=by omega
      subst nt
      subst hr
      simp [execOp,Instr.sliceAt,Instr.slice,Instr.sliceBounds,aa,run_underlying hu,Go.sizeOf,typeInfo,ef,eV,jh]
    | some ao=>
      have a1:=of_int.1 (ao a W s)
      rw [← e3] at a1
      have bo:=jd _ a1
      subst hr
      simp [execOp,Instr.sliceAt,Instr.slice,Instr.sliceBounds,aa,run_underlying hu,Go.sizeOf,typeInfo,ef,eV,jh,bo]
  | some ao=>
    have a1:=of_int.1 (ao a W s)
    rw [← AZ] at a1
    have bo:=au _ a1
    cases er with
    | none=>
      have nt:n=xs.length:=by omega
      subst nt
      simp only [execOp,Instr.sliceAt,Instr.slice,Instr.sliceBounds,aa,Sem.run_bind,run_underlying hu,Result.andThen_ok,Option.map_none,Option.map_some,Option.isSome_none,Bool.false_eq_true,if_false,if_true,Sem.run_pure,bo,Go.sizeOf,typeInfo,run_program,ef,eV]
      rw [← Ot]
    | some ld=>
      have OS:=of_int.1 (ld a W s)
      rw [← e3] at OS
      have YW:=jd _ OS
      simp only [execOp,Instr.sliceAt,Instr.slice,Instr.sliceBounds,aa,Sem.run_bind,run_underlying hu,Result.andThen_ok,Option.map_none,Option.map_some,Option.isSome_none,Bool.false_eq_true,if_false,if_true,Sem.run_pure,bo,YW,Go.sizeOf,typeInfo,run_program,ef,eV]
      rw [← Ot]
end
end Gv
namespace Gv
open Go
set_option linter.unusedVariables false
set_option linter.unusedSimpArgs false
def a0:Option Nat→Nat→Nat→Value
 | some p,n,cap=> .slice (some ⟨p,0,none⟩) n cap
 | none,_,_=> .slice none 0 0
theorem RP {L:List aO} {i:Nat} {cp:dM} :∀ k∈aP (L.set i ⟨none,cp⟩),∃ j e,j≠i∧L[j]? =some e∧e.key=some k:=by
 intro k av
 obtain⟨e,he,sY⟩:=kG.1 av
 obtain⟨j,aE⟩:=List.mem_iff_getElem?.1 he
 rw [List.getElem?_set] at aE
 split at aE
 ·split at aE
  ·simp only [Option.some.injEq] at aE; subst aE; cases sY
  ·cases aE
 ·rename_i dz
  exact⟨j,e,fun h=>dz h.symm,aE,sY⟩
theorem vE {L:List aO} {i:Nat} {cp:dM} :aP (L.set i ⟨none,cp⟩) |>.Sublist (aP L):=by
 induction L generalizing i with
 | nil=>simp [aP]
 | cons x r b1=>
   cases i with
   | zero=>
     cases av:x.key with
     | none=>simp [aP,av]
     | some p=>simp [aP,av]
   | succ i=>
     cases av:x.key with
     | none=>simpa [aP,av] using b1
     | some p=>simpa [aP,av] using b1
theorem bS.kill {c E L a W} (h:bS c E L a W) (i:Nat):bS c E (L.set i ⟨none,.dead⟩) a W:=by
 have kJ:=vE (L:=L) (i:=i) (cp:= .dead)
 have av:∀ k∈aP (L.set i ⟨none,.dead⟩),k∈aP L:=fun k av=>kJ.subset av
 have g1:Ext (aP L ++ c.b5) W (aP (L.set i ⟨none,.dead⟩) ++ c.b5) W:= .drop fun k hm=>by
  rcases List.mem_append.1 hm with hm | hm
  ·exact List.mem_append.2 (.inl (av k hm))
  ·exact List.mem_append.2 (.inr hm)
 exact
 {defers:=h.defers
  size:=h.size
  env:=fun t τ ao=>let⟨v,aa,ae⟩:=h.env t τ ao; ⟨v,aa,τ.mono g1 ae⟩
  dD:=h.dD
  own:=fun e he=>by
   obtain⟨j,aE⟩:=List.mem_iff_getElem?.1 he
   rw [List.getElem?_set] at aE
   split at aE
   ·split at aE
    ·simp only [Option.some.injEq] at aE; subst aE; trivial
    ·cases aE
   ·have aa:=h.own e (List.mem_of_getElem? aE)
    unfold aO.ok at *
    split at aa
    ·obtain⟨o',bp,cC⟩:=aa
     exact⟨o',bp,dM.mono _ g1 cC⟩
    ·exact aa
  nodup:=h.nodup.sublist kJ
  lt:=fun k hm=>h.lt k (av k hm)
  fY:=fun k hm=>h.fY k (av k hm)
  eU:=fun k hm=>⟨(h.eU k hm).1,fun ae=>(h.eU k hm).2 (av k ae)⟩ }
theorem bS.yW {c E L a W} (h:bS c E L a W) {i p:Nat} {cp:dM} (an:L[i]? =some ⟨some p,cp⟩):p ∉ aP (L.set i ⟨none,.dead⟩) ++ c.b5:=by
 intro hm
 rcases List.mem_append.1 hm with hm | hm
 ·obtain⟨j,e,dz,aE,sY⟩:=RP p hm
  exact dz (GN h.nodup aE an sY rfl)
 ·exact(h.eU p hm).2 (kG.2 ⟨_,List.mem_of_getElem? an,rfl⟩)
theorem Fo {α:Type} [ai α] {A W} {cs:Array Value} {xs:List α} {cap:Nat} (h:cs.size=cap * ai.size α) (aR:xs.length≤cap) (aQ:gv A W (cs.toList.take (xs.length * ai.size α)) xs):
 0 + xs.length * ai.size α≤cs.size∧gv A W ((cs.toList.drop 0).take (xs.length * ai.size α)) xs:=by
 refine⟨?_,by simpa using aQ⟩
 rw [h,Nat.zero_add]; exact Nat.mul_le_mul_right _ aR
section
variable {c:dh} {E:List (Nat × I)} {L:List aO} {ops:Array Oper} {Q:Exit→Act→World→Prop}
variable {d:Option Tmp} {ty:TypeId} {pos:String} {af:Array Edge} {g:Option (Nat × Bool)} {x y:Operand} {t t2:TypeId}
theorem bS.freeze {a:Act} {W:World} {α:Type} [ai α] {i s cap T:Nat} {key:Option Nat} {xs:List α} (h:bS c E L a W) (ao:look E s=some (.eq (a0 key xs.length cap))) (au:L[i]? =some ⟨key,.row T xs cap⟩):
 bS c ((s,.of xs) :: E) (L.set i ⟨none,.dead⟩) a W:=by
 have av:=h.kill i
 refine { av with env:=fun t τ ej=> ?_ }
 simp only [look] at ej
 by_cases e:Nat.beq s t=true
 ·rw [e] at ej
  simp only [cond_true,Option.some.injEq] at ej
  subst ej
  have:=fc.1 e
  subst this
  obtain⟨v,aa,ae⟩:=h.env s _ ao
  refine⟨v,aa,mw.2 ?_⟩
  have kt:v=a0 key xs.length cap:=ae
  subst kt
  have bp:=h.own _ (List.mem_of_getElem? au)
  cases key with
  | none=>exact .inl ⟨rfl,bp.1⟩
  | some p=>
    obtain⟨o,eu,cs,rfl,eV,aR,oI,aQ⟩:=bp
    obtain⟨aD,aV⟩:=Fo eV aR aQ
    refine .inr ⟨p,0,cap,cs,T,(0,0),rfl,h.yW au,eu,aR,by omega,aD,?_⟩
    have kJ:=vE (L:=L) (i:=i) (cp:= .dead)
    exact aV.mono (.drop fun k hm=>by
     rcases List.mem_append.1 hm with hm | hm
     ·exact List.mem_append.2 (.inl (kJ.subset hm))
     ·exact List.mem_append.2 (.inr hm))
 ·simp only [Bool.not_eq_true] at e
  rw [e] at ej
  exact av.env t τ ej
theorem aj.freeze {l:List Oper} {α:Type} [ai α] {key:Option Nat} {xs:List α} {cap T:Nat} (i s:Nat) (ao:look E s=some (.eq (a0 key xs.length cap))) (au:L[i]? =some ⟨key,.row T xs cap⟩)
 (k:aj c ops Q l ((s,.of xs) :: E) (L.set i ⟨none,.dead⟩)):aj c ops Q l E L:=fun a W st=>k a W (st.freeze ao au)
theorem ad.freeze {x:Exit} {α:Type} [ai α] {key:Option Nat} {xs:List α} {cap T:Nat} (i s:Nat) (ao:look E s=some (.eq (a0 key xs.length cap))) (au:L[i]? =some ⟨key,.row T xs cap⟩)
 (k:ad c Q x ((s,.of xs) :: E) (L.set i ⟨none,.dead⟩)):ad c Q x E L:=fun a W st=>k a W (st.freeze ao au)
theorem ah.freeze {code:Code} {α:Type} [ai α] {key:Option Nat} {xs:List α} {cap T:Nat} (i s:Nat) (ao:look E s=some (.eq (a0 key xs.length cap))) (au:L[i]? =some ⟨key,.row T xs cap⟩)
 (k:ah c Q code ((s,.of xs) :: E) (L.set i ⟨none,.dead⟩)):ah c Q code E L:=fun a W st=>k a W (st.freeze ao au)
theorem bS.UI {a:Act} {W:World} {α:Type} [ai α] (T:TypeId) (h:bS c E L a W):bS c E (⟨none,.row T ([]:List α) 0⟩ :: L) a W:=
 {h with
  own:=fun e he=>by
   rcases List.mem_cons.1 he with rfl | he
   ·exact⟨rfl,rfl⟩
   ·exact h.own e he }
theorem aj.own {l:List Oper} {α:Type} [ai α] (T:TypeId) (k:aj c ops Q l E (⟨none,.row T ([]:List α) 0⟩ :: L)):aj c ops Q l E L:=fun a W st=>k a W (st.UI T)
theorem tJ:bc c E L (.const (.slice none 0 0)) (.eq (a0 none 0 0)):=fun _ _ _=>rfl
theorem sw {key:Option Nat} {n cap:Nat} {e i T:Nat} {α:Type} [ai α] {xs:List α} (hu:c.P.underlying t=some (.slice e)) (aq:bc c E L x (.eq (a0 key n cap))) (aR:n=xs.length) (au:L[i]? =some ⟨key,.row T xs cap⟩):b7 c E L ⟨d,.call ⟨.builtin .len,#[x],#[t]⟩,ty,pos,af,g⟩ (.of (n:Int)):= .pure fun a W s=>by
 subst aR
 have aa:a.eval x=_:=aq a W s
 have bp:=s.own _ (List.mem_of_getElem? au)
 cases key with
 | none=>
   have:xs= []:=bp.1
   subst this
   exact⟨.int .i64 0,by simp [execOp,resolve,invoke,builtin,Builtin.len_,aa,a0,run_underlying hu,goInt],of_int.2 rfl⟩
 | some p=>exact⟨.int .i64 xs.length,by simp [execOp,resolve,invoke,builtin,Builtin.len_,aa,a0,run_underlying hu,goInt],of_int.2 rfl⟩
theorem gv.one {α:Type} [ai α] {A W} {cs:List Value} {xs:List α} (h:gv A W cs xs):∀ u∈cs,u.oneCell'=true:=by
 intro u hu
 obtain⟨j,aE⟩:=List.mem_iff_getElem?.1 hu
 have cw:=(List.getElem?_eq_some_iff.1 aE).1
 have aa:=h.1
 by_cases hs:ai.size α=0
 ·rw [hs,Nat.mul_zero] at aa; omega
 ·have hp:0 < ai.size α:=Nat.pos_of_ne_zero hs
  have an:j / ai.size α < _:=(Nat.div_lt_iff_lt_mul hp).2 (by rw [aa] at cw; exact cw)
  refine ai.one (h.2 _ an) u (List.mem_iff_getElem?.2 ⟨j % ai.size α,?_⟩)
  rw [List.getElem?_take,if_pos (Nat.mod_lt _ hp),List.getElem?_drop,Nat.mul_comm,Nat.div_add_mod]
  exact aE
theorem sb {α:Type} [ai α] {A W} {cs ds:List Value} {xs ys:List α} (h:gv A W cs xs) (cZ:gv A W ds ys):gv A W (cs ++ ds) (xs ++ ys):=by
 refine⟨by rw [List.length_append,h.1,cZ.1,List.length_append,Nat.add_mul],fun i an=> ?_⟩
 rw [List.length_append] at an
 by_cases cw:i < xs.length
 ·have aa:=h.2 i cw
  have hle:(i + 1) * ai.size α≤xs.length * ai.size α:=Nat.mul_le_mul_right _ cw
  rw [Nat.succ_mul] at hle
  have lO:=h.1
  rw [List.drop_append_of_le_length (by omega),List.take_append_of_le_length (by simp; omega)]
  rw [List.getElem_append_left cw]
  exact aa
 ·have aa:=cZ.2 (i - xs.length) (by omega)
  have e:i * ai.size α=cs.length + (i - xs.length) * ai.size α:=by
   rw [h.1,← Nat.add_mul]; congr 1; omega
  rw [e,List.drop_append,List.drop_of_length_le (by omega),List.nil_append,show cs.length + (i - xs.length) * ai.size α - cs.length=(i - xs.length) * ai.size α by omega]
  rw [List.getElem_append_right (by omega)]
  exact aa
theorem nx.cells {α:Type} [ai α] {A W v} {ys:List α} (h:nx A W v ys):
 (v= .slice none 0 0∧ys= [])∨ ∃ (b off cap:Nat) (news:List Value),v= .slice (some ⟨b,off,none⟩) ys.length cap∧news.length=ys.length * ai.size α∧ (∀ (j:Nat) (u:Value),news[j]? =some u→W.cell? ((⟨b,off,none⟩:Addr).add j)=some u)∧
  (∀ u∈news,u.oneCell'=true)∧gv A W news ys:=by
 rcases h with h | ⟨b,off,cap,cur,T,gP,aa,ae,aD,aV,a1,bo,cX⟩
 ·exact .inl h
 ·refine .inr ⟨b,off,cap,_,aa,cX.1,fun j u hu=> ?_,fun u hu=> ?_,cX⟩
  ·rw [List.getElem?_take] at hu
   split at hu
   ·rw [jh,cell_of_row W b (off + j) cur T gP aD]
    rw [List.getElem?_drop] at hu
    simpa using hu
   ·cases hu
  ·exact cX.one u hu
theorem bS.grow {a:Act} {W:World} (h:bS c E L a W) {i:Nat} {jN:aO} (an:L[i]? =some jN) {o:Obj} {cp:dM} (ar:cp.holds (aP L ++ c.b5) W o):
 bS c E (L.set i ⟨some W.heap.size,cp⟩) a (W.alloc o):=by
 have aa:=h.alloc ar
 refine aa.sub (fun e he=> ?_) ?_
 ·obtain⟨j,aE⟩:=List.mem_iff_getElem?.1 he
  rw [List.getElem?_set] at aE
  split at aE
  ·split at aE
   ·simp only [Option.some.injEq] at aE; subst aE; simp
   ·cases aE
  ·exact List.mem_cons_of_mem _ (List.mem_of_getElem? aE)
 ·have Ax:W.heap.size ∉ aP L:=fun hm=>Nat.lt_irrefl _ (h.lt _ hm)
  have key:∀ (L:List aO) (i:Nat) (q:Nat),q ∉ aP L→ (aP L).Nodup→ (aP (L.set i ⟨some q,cp⟩)).Nodup∧ ∀ k∈aP (L.set i ⟨some q,cp⟩),k=q∨k∈aP L:=by
   intro L
   induction L with
   | nil=>intro i q _ aR; exact⟨by simpa using aR,by simp [aP]⟩
   | cons x r b1=>
     intro i q hq aR
     cases aq:x.key with
     | none=>
       have fI:q ∉ aP r:=by simpa [aP,aq] using hq
       have rF:(aP r).Nodup:=by simpa [aP,aq] using aR
       cases i with
       | zero=>exact⟨by simp only [List.set_cons_zero,aP]; exact List.nodup_cons.2 ⟨fI,rF⟩,fun k av=>by
        simp only [List.set_cons_zero,aP,List.mem_cons] at av; rcases av with rfl | av
        ·exact .inl rfl
        ·exact .inr (by simpa [aP,aq] using av)⟩
       | succ i=>
         obtain⟨aa,ae⟩:=b1 i q fI rF
         exact⟨by simpa [aP,aq] using aa,fun k av=>by have:=ae k (by simpa [aP,aq] using av); simpa [aP,aq] using this⟩
     | some p=>
       simp only [aP,aq,List.mem_cons,not_or] at hq
       simp only [aP,aq] at aR
       obtain⟨hp,rF⟩:=List.nodup_cons.1 aR
       cases i with
       | zero=>exact⟨by simp only [List.set_cons_zero,aP]; exact List.nodup_cons.2 ⟨hq.2,rF⟩,fun k av=>by
        simp only [List.set_cons_zero,aP,List.mem_cons] at av; rcases av with rfl | av
        ·exact .inl rfl
        ·exact .inr (by simp [aP,aq,av])⟩
       | succ i=>
         obtain⟨aa,ae⟩:=b1 i q hq.2 rF
         refine⟨?_,fun k av=> ?_⟩
         ·simp only [List.set_cons_succ,aP,aq]
          refine List.nodup_cons.2 ⟨fun hm=> ?_,aa⟩
          rcases ae p hm with e | rG
          ·exact hq.1 e.symm
          ·exact hp rG
         ·simp only [List.set_cons_succ,aP,aq,List.mem_cons] at av
          rcases av with rfl | av
          ·exact .inr (by simp [aP,aq])
          ·rcases ae k av with e | rG
           ·exact .inl e
           ·exact .inr (by simp [aP,aq,rG])
  exact(key L i _ Ax h.nodup).1
theorem Gn {α:Type} [ai α] {A W} {cs ds:List Value} {xs:List α} {T cap:Nat} (h:gv A W cs xs) (dI:ds.length=(cap - xs.length) * ai.size α) (aR:xs.length≤cap) (hm:cap≤maxLen) {arr:Array Value} (bn:arr.toList=cs ++ ds):
 (dM.row T xs cap).holds A W (.cells arr T (0,0)):=by
 refine⟨arr,rfl,?_,aR,hm,?_⟩
 ·have:arr.size=(cs ++ ds).length:=by rw [← bn]; simp
  rw [this,List.length_append,h.1,dI,← Nat.add_mul]; congr 1; omega
 ·rw [bn,← h.1,List.take_left]; exact h
theorem aj.app {α:Type} [ai α] {rest:List Oper} {bb i e bytes cap:Nat} {key:Option Nat} {xs ys r:List α} {z:α} (hu:c.P.underlying t=some (.slice e)) (fC:bA c.P e α) (gB:cQ c.P e z)
 (uV:(c.P.info? e).map (·.bytes)=some bytes) (hs:bc c E L x (.eq (a0 key xs.length cap))) (au:L[i]? =some ⟨key,.row e xs cap⟩) (a6:bc c E L y (.of ys)) (h:gu bytes xs ys=some r) (aR:Nat.blt bb c.n=true)
 (k:∀ pc cap',aj c ops Q rest ((bb,.eq (a0 pc r.length cap')) :: E) (L.set i ⟨pc,.row e r cap'⟩)):
 aj c ops Q (⟨some bb,.call ⟨.builtin .append,#[x,y],#[t,t]⟩,ty,pos,af,none⟩ :: rest) E L:=fun a W s=>by
 obtain⟨uP,pn,rfl⟩:=K5 h
 obtain⟨gp,dX,ef,dI,qm⟩:=gB.zero
 have mI:gp.size=ai.size α:=by
  obtain⟨i2,aa,ae⟩:=fC.info
  rw [ef] at aa; cases aa; exact ae
 have GO:gp.bytes=bytes:=by simpa [ef] using uV
 have uW:dX.cells.size=ai.size α:=by have:=ai.len (qm [] W).2; simpa using this
 subst GO
 have aa:a.eval x=_:=hs a W s
 have bp:=s.own _ (List.mem_of_getElem? au)
 have kY:bb < c.n:=by simpa using aR
 have qs:=(mw.1 (a6 a W s)).cells
 have po:maxLen=9223372036854775807:=rfl
 have main:∃ pc cap' W',(Builtin.append_ #[t,t] ty #[a.eval x,a.eval y]).run c.P W= .ok (a0 pc (xs ++ ys).length cap') W'∧bS c E (L.set i ⟨pc,.row e (xs ++ ys) cap'⟩) a W':=by
  cases key with
  | none=>
    obtain⟨YX,YY⟩:xs= []∧cap=0:=bp
    subst YX
    subst YY
    have wM:L.set i ⟨none,.row e ([]:List α) 0⟩=L:=by
     obtain⟨cw,he⟩:=List.getElem?_eq_some_iff.1 au
     rw [← he]; exact List.set_getElem_self cw
    rcases qs with⟨aX,rfl⟩ | ⟨b,off,cp,news,aX,lP,DG,Ei,fL⟩
    ·refine⟨none,0,W,?_,by simpa [wM] using s⟩
     simp [aa,aX,a0,Builtin.append_,run_underlying hu,Go.sizeOf,typeInfo,ef,Builtin.lenOf,Builtin.firstCells]
    ·by_cases hm:ys.length=0
     ·have:ys= []:=List.eq_nil_of_length_eq_zero hm
      subst this
      refine⟨none,0,W,?_,by simpa [wM] using s⟩
      simp [aa,aX,a0,Builtin.append_,run_underlying hu,Go.sizeOf,typeInfo,ef,Builtin.lenOf,Builtin.firstCells,loadCells,loadCellsFrom]
     ·simp only [List.length_nil,Nat.zero_add] at uP pn
      have aQ:=run_append_nil (P:=c.P) W t ty e gp dX hu ef dI ⟨b,off,none⟩ ys.length cp news (by rw [mI]; exact lP) DG (by omega) (by omega) (by omega)
      refine⟨some W.heap.size,grownCap W ys.length 0 e,_,by rw [aa,aX]; simpa [a0] using aQ,?_⟩
      have uX:=grownCap_ge W ys.length 0 e
      have hle:=grownCap_le_maxLen W ys.length 0 e pn
      have:=(s.world (Fr.drew W)).grow au (o:= .cells (news.toArray ++ Builtin.zeroCells dX.cells (grownCap W ys.length 0 e - ys.length)) e) (cp:= .row e ([] ++ ys) (grownCap W ys.length 0 e))
       (Gn (T:=e) (fL.mono (Ext.dD (Fr.drew W))) (ds:=(Builtin.zeroCells dX.cells (grownCap W ys.length 0 e - ys.length)).toList) (by rw [Array.length_toList,size_zeroCells,uW]) uX hle (by simp))
      simpa using this
  | some p=>
    obtain⟨jy,eu,cs,rfl,eV,YZ,oI,Ej⟩:=bp
    have Iw:a.eval x= .slice (some ⟨p,0,none⟩) xs.length cap:=aa
    rcases qs with⟨aX,rfl⟩ | ⟨b,off,cp,news,aX,lP,DG,Ei,fL⟩
    ·refine⟨some p,cap,W,?_,?_⟩
     ·simp [Iw,aX,a0,Builtin.append_,run_underlying hu,Go.sizeOf,typeInfo,ef,Builtin.lenOf,Builtin.firstCells,storeCells,YZ]
     ·have:L.set i ⟨some p,.row e (xs ++ []) cap⟩=L:=by
       obtain⟨cw,he⟩:=List.getElem?_eq_some_iff.1 au
       rw [List.append_nil,← he]; exact List.set_getElem_self cw
      rw [this]; exact s
    ·by_cases wK:xs.length + ys.length≤cap
     ·have Ou:xs.length * gp.size + news.length≤cs.size:=by rw [mI,lP,eV,← Nat.add_mul]; exact Nat.mul_le_mul_right _ wK
      have aQ:=run_append_room (P:=c.P) W t ty e gp hu ef p xs.length cap cs eu ⟨b,off,none⟩ ys.length cp news (by rw [mI]; exact lP) DG Ei wK Ou
      refine⟨some p,cap,_,by rw [Iw,aX]; simpa [a0] using aQ,?_⟩
      refine s.store au eu ⟨_,rfl,?_,by simpa using wK,oI,?_⟩
      ·simp only [List.size_toArray,List.length_append,List.length_take,List.length_drop,Array.length_toList]; omega
      ·have ao:(cs.toList.take (xs.length * gp.size)).length=xs.length * ai.size α:=by rw [mI]; exact Ej.1
       have wY:=sb Ej fL
       rw [mI]
       have hlen:(xs ++ ys).length * ai.size α=(cs.toList.take (xs.length * ai.size α) ++ news).length:=by rw [wY.1]
       have PA:((cs.toList.take (xs.length * ai.size α) ++ news ++ cs.toList.drop (xs.length * ai.size α + news.length)).toArray).toList.take ((xs ++ ys).length * ai.size α)=cs.toList.take (xs.length * ai.size α) ++ news:=by
        rw [hlen]; exact List.take_left
       rw [List.append_assoc] at PA
       rw [PA]
       exact wY
     ·have holds:∀ (j:Nat) u,(cs.toList.take (xs.length * ai.size α))[j]? =some u→W.cell? ((⟨p,0,none⟩:Addr).add j)=some u:=by
       intro j u n5
       rw [List.getElem?_take] at n5
       split at n5
       ·rw [jh,Nat.zero_add,cell_of_row W p j cs e (0,0) eu]; simpa using n5
       ·cases n5
      have aQ:=run_append_grow (P:=c.P) W t ty e gp dX hu ef dI ⟨p,0,none⟩ xs.length cap _ (by rw [mI]; exact Ej.1) holds ⟨b,off,none⟩ ys.length cp news (by rw [mI]; exact lP) DG (by omega) (by omega) (growslice_fits (by omega) uP)
      have uX:=grownCap_ge W (xs.length + ys.length) cap e
      have hle:=grownCap_le_maxLen W (xs.length + ys.length) cap e pn
      refine⟨some W.heap.size,grownCap W (xs.length + ys.length) cap e,_,by rw [Iw,aX]; simpa [a0] using aQ,?_⟩
      have wY:=(sb Ej fL).mono (Ext.dD (Fr.drew W))
      have:=(s.world (Fr.drew W)).grow au (o:= .cells ((cs.toList.take (xs.length * ai.size α)).toArray ++ news.toArray ++ Builtin.zeroCells dX.cells (grownCap W (xs.length + ys.length) cap e - (xs.length + ys.length))) e)
       (cp:= .row e (xs ++ ys) (grownCap W (xs.length + ys.length) cap e))
       (Gn (T:=e) wY (ds:=(Builtin.zeroCells dX.cells (grownCap W (xs.length + ys.length) cap e - (xs.length + ys.length))).toList) (by rw [Array.length_toList,size_zeroCells,uW,List.length_append]) (by rw [List.length_append]; exact uX) hle (by simp))
      simpa using this
 obtain⟨pc,cap',W',kK,kQ⟩:=main
 refine h6 rfl (R:=fun v hH=>v=a0 pc (xs ++ ys).length cap'∧hH=W') (.l5 ?_ ⟨rfl,rfl⟩) fun v hH ⟨aX,hw⟩=> ?_
 ·simp only [execOp,resolve,invoke,builtin,Sem.run_bind,Sem.run_pure,Result.andThen_ok]
  have aA:(#[x,y]:Array Operand).map a.eval= #[a.eval x,a.eval y]:=by simp
  rw [aA,kK]
  rfl
 ·subst aX
  subst hw
  exact k pc cap' _ _ (kQ.put kY rfl)
inductive na (c:dh) (E:List (Nat × I)) (L:List aO) {α:Type} [ai α]:List α→List (Nat × Operand)→List α→Prop
 | nil {b} :na c E L b [] b
 | cons {b b':List α} {v:α} {i:Nat} {x:Operand} {r:List (Nat × Operand)} :i < b.length→bc c E L x (.of v)→na c E L (b.set i v) r b'→na c E L b ((i,x) :: r) b'
theorem na.run {α:Type} [ai α] {b b':List α} {bq:List (Nat × Operand)} (h:na c E L b bq b'):∀ a W,bS c E L a W→ ∀ cs:Array Value,gv (aP L ++ c.b5) W cs.toList b→
 ∃ dK,Instr.fill (fun i=>some (i * ai.size α,ai.size α)) cs (bq.map fun(i,x)=>(i,a.eval x))=some dK∧gv (aP L ++ c.b5) W dK.toList b'∧b'.length=b.length:=by
 induction h with
 | nil=>intro a W s cs aQ; exact⟨cs,rfl,aQ,rfl⟩
 | @cons b b' v i x r an ae _ b1=>
   intro a W s cs aQ
   have aX:=ae a W s
   have eV:(a.eval x).cells.size=ai.size α:=by have:=ai.len aX.2; simpa using this
   have ao:=aQ.1
   have hle:(i + 1) * ai.size α≤b.length * ai.size α:=Nat.mul_le_mul_right _ an
   rw [Nat.succ_mul] at hle
   rw [List.map_cons,CO rfl eV (by simp at ao; omega)]
   obtain⟨dK,aD,aV,a1⟩:=b1 a W s (fR cs.toList (i * ai.size α) (a.eval x).cells.toList).toArray (by
    have:=FU aQ an aX.2
    simpa [fR,ai.len aX.2] using this)
   exact⟨dK,aD,aV,by rw [a1,List.length_set]⟩
theorem yQ {α:Type} [ai α] {A W} {z:α} {dX:Value} (h:(I.of z).holds A W dX) (n:Nat) (hs:ai.size α≠0):gv A W ((Array.range (n * ai.size α)).map (dX.cells[· % dX.cells.size]!)).toList (List.replicate n z):=by
 have ao:dX.cells.size=ai.size α:=by have:=ai.len h.2; simpa using this
 have hp:0 < ai.size α:=Nat.pos_of_ne_zero hs
 refine⟨by simp,fun i an=> ?_⟩
 have jr:i < n:=by simpa using an
 have hle:(i + 1) * ai.size α≤n * ai.size α:=Nat.mul_le_mul_right _ jr
 rw [Nat.succ_mul] at hle
 have:((((Array.range (n * ai.size α)).map (dX.cells[· % dX.cells.size]!)).toList.drop (i * ai.size α)).take (ai.size α))=dX.cells.toList:=by
  apply List.ext_getElem?
  intro j
  rw [List.getElem?_take]
  split
  ·rename_i aE
   rw [List.getElem?_drop]
   have cw:i * ai.size α + j < n * ai.size α:=by omega
   have AB:(i * ai.size α + j) % ai.size α=j:=by rw [Nat.mul_comm,Nat.mul_add_mod]; exact Nat.mod_eq_of_lt aE
   simp only [Array.getElem?_toList,Array.getElem?_map,Array.getElem?_range,cw,if_true,Option.map_some,ao,AB]
   rw [getElem!_pos dX.cells j (by omega)]
   simp [ao,aE]
  ·rename_i aE
   symm
   simp only [Array.getElem?_toList]
   exact Array.getElem?_eq_none (by omega)
 rw [this]
 simpa using h.2
theorem jW {α:Type} [ai α] {e n:Nat} {z:α} {r:List α} {bq:List (Nat × Operand)} (hu:c.P.underlying t=some (.slice e)) (fC:bA c.P e α) (gB:cQ c.P e z) (hs:Nat.beq (ai.size α) 0=false) (aR:Nat.ble (n * ai.size α) 16777216=true)
 (a8:na c E L (List.replicate n z) bq r):b7 c E L ⟨d,.buildSlice t n bq.toArray,ty,pos,af,g⟩ (.of r):=fun a W s=>by
 obtain⟨gp,dX,ef,dI,qm⟩:=gB.zero
 have mI:gp.size=ai.size α:=by
  obtain⟨i2,aa,ae⟩:=fC.info
  rw [ef] at aa; cases aa; exact ae
 have fr:ai.size α≠0:=fun h=>by rw [h] at hs; cases hs
 have pv:=yQ (qm (aP L ++ c.b5) W) n fr
 obtain⟨dK,aD,aV,a1⟩:=a8.run a W s _ pv
 have hlen:r.length=n:=by rw [a1]; simp
 have hm:(bq.toArray.map fun(x:Nat × Operand)=>(x.1,a.eval x.2)).toList=bq.map fun(i,x)=>(i,a.eval x):=by simp
 have Ya:=Nat.le_of_ble_eq_true aR
 refine .l5 (v:= .slice (some ⟨W.heap.size,0,none⟩) n n) (W':=W.alloc (.cells dK e)) ?_ ⟨Fr.alloc W _,mw.2 ?_⟩
 ·simp only [execOp,Instr.buildSlice,Sem.run_bind,run_underlying hu,Result.andThen_ok,Go.sizeOf,typeInfo,run_program,ef,Sem.run_pure,mI]
  rw [if_neg (by omega)]
  try simp only [Sem.run_pure,Result.andThen_ok,Sem.run_bind]
  by_cases bW:n * ai.size α=0
  ·have s0:n=0:=by
    rcases Nat.mul_eq_zero.1 bW with h | h
    ·exact h
    ·exact absurd h fr
   subst s0
   simp only [Nat.zero_mul,if_true,Sem.run_pure,Result.andThen_ok]
   try simp only [Nat.zero_mul] at aD
   have jN:((Array.range 0).map (fun x=>(#[]:Array Value)[x % (#[]:Array Value).size]!))=((Array.range 0).map (dX.cells[· % dX.cells.size]!)):=by simp
   simp only [pure_bind]
   rw [jN,hm,aD]
   simp [newRow]
  ·simp only [bW,if_false,Sem.run_bind,zeroValue,typeInfo,run_program,Result.andThen_ok,ef,dI,Sem.run_pure]
   rw [hm,aD]
   simp [newRow]
 ·have g1:Ext (aP L ++ c.b5) W (aP L ++ c.b5) (W.alloc (.cells dK e)):=Ext.dD (Fr.alloc W _)
  refine .inr ⟨W.heap.size,0,n,dK,e,(0,0),by rw [hlen],fun wZ=>Nat.lt_irrefl _ (s.Da _ wZ),GM W _,by omega,?_,?_,?_⟩
  ·have:r.length * 1≤n * ai.size α:=by rw [hlen]; exact Nat.mul_le_mul_left _ (by omega)
   have:maxLen=9223372036854775807:=rfl
   omega
  ·have:=aV.1; simp at this; omega
  ·have bo:=aV.1
   rw [List.drop_zero,← bo,List.take_length]
   exact aV.mono g1
end
end Gv
namespace Gv
open Go
set_option linter.unusedVariables false
set_option linter.unusedSimpArgs false
theorem CY {cs:List Value} {o s:Nat} {u:Value} (h:u∈cs.drop o):u∈ (cs.drop o).take s∨u∈cs.drop (o + s):=by
 rw [← List.take_append_drop s (cs.drop o)] at h
 rcases List.mem_append.1 h with h | h
 ·exact .inl h
 ·rw [List.drop_drop] at h; exact .inr h
theorem Mb {cs:List Value} {n o:Nat} {u:Value} {p:Prop} (ao:cs.length=n) (bp:o=n) (h:u∈cs.drop o):p:=by
 rw [List.drop_of_length_le (by omega)] at h; cases h
theorem UJ {cs ds:List Value} {o s n:Nat} (ao:cs.length=n) (hd:ds.length=s) (h:o + s≤n):(cs.take o ++ ds ++ cs.drop (o + s)).length=n:=by
 simp only [List.length_append,List.length_take,List.length_drop]; omega
theorem Mc {cs ds:List Value} {o s n:Nat} (ao:cs.length=n) (hd:ds.length=s) (h:o + s≤n):((cs.take o ++ ds ++ cs.drop (o + s)).drop o).take s=ds:=by
 have aa:(cs.take o).length=o:=by simp; omega
 rw [List.append_assoc,List.drop_append,aa,List.drop_of_length_le (by omega),List.nil_append,Nat.sub_self,List.drop_zero,List.take_append_of_le_length (by omega),List.take_of_length_le (by omega)]
theorem FV {cs ds:List Value} {o s n cK s2:Nat} (ao:cs.length=n) (hd:ds.length=s) (h:o + s≤n) (dz:cK + s2≤o∨o + s≤cK):((cs.take o ++ ds ++ cs.drop (o + s)).drop cK).take s2=(cs.drop cK).take s2:=by
 apply List.ext_getElem?
 intro i
 simp only [List.getElem?_take,List.getElem?_drop]
 split
 ·rename_i an
  simp only [List.getElem?_append,List.length_append,List.length_take,List.getElem?_take,List.getElem?_drop]
  have aa:min o cs.length=o:=by omega
  rw [aa,hd]
  rcases dz with ae | ae
  ·rw [if_pos (by omega),if_pos (by omega),if_pos (by omega)]
  ·rw [if_neg (by omega)]; congr 1; omega
 ·rfl
structure s3 (P:Type) where
 size:Nat
 rep:List Nat→World→List Value→Nat→P→Prop
 one:∀ {A W cs o x n},rep A W cs o x→cs.length=n→o + size=n→ ∀ u∈cs.drop o,u.oneCell'=true
 mono:∀ {A W c7 W' cs o x},Ext A W c7 W'→rep A W cs o x→rep c7 W' cs o x
 ri:∀ {A W cs o x n ds p s},rep A W cs o x→cs.length=n→ds.length=s→p + s≤n→p + s≤o→rep A W (cs.take p ++ ds ++ cs.drop (p + s)) o x
@[reducible] def hK (B:Type) [ai B]:s3 B where
  size:=ai.size B
  rep A W cs o x:=ai.rep A W ((cs.drop o).take (ai.size B)) x
  one h ao bp u hu:=by
   rcases CY (s:=ai.size B) hu with aa | bW
   ·exact ai.one h u aa
   ·exact Mb ao bp bW
  mono e h:=ai.mono e h
  ri h ao hd aR hp:=by rw [FV ao hd aR (.inr hp)]; exact h
@[reducible] def dp (B:Type) [ai B] {P:Type} (S:s3 P):s3 (B × P) where
  size:=ai.size B + S.size
  rep A W cs o x:=ai.rep A W ((cs.drop o).take (ai.size B)) x.1∧S.rep A W cs (o + ai.size B) x.2
  one h ao bp u hu:=by
   rcases CY (s:=ai.size B) hu with aa | bW
   ·exact ai.one h.1 u aa
   ·exact S.one h.2 ao (by omega) u bW
  mono e h:=⟨ai.mono e h.1,S.mono e h.2⟩
  ri h ao hd aR hp:=⟨by rw [FV ao hd aR (.inr hp)]; exact h.1,S.ri h.2 ao hd aR (by omega)⟩
@[reducible] def ai.str {T P:Type} (S:s3 P) (to:T→P) (N:Nat) (kY:S.size=N:=by rfl):ai T where
  size:=N
  agg:=true
  rep A W cs x:=cs.length=N∧S.rep A W cs 0 (to x)
  len h:=h.1
  one h:=fun u hu=>S.one h.2 h.1 (by omega) u (by simpa using hu)
  flat h:=by cases h
  mono e h:=⟨h.1,S.mono e h.2⟩
structure A1 {P:Type} (S:s3 P) (G:Type) [ai G] where
 off:Nat
 get:P→G
 set:P→G→P
 gl:off + ai.size G≤S.size
 il:∀ {A W cs o b},S.rep A W cs o b→ai.rep A W ((cs.drop (o + off)).take (ai.size G)) (get b)
 kF:∀ {A W cs n o b ds g},cs.length=n→o + S.size≤n→S.rep A W cs o b→ai.rep A W ds g→S.rep A W (cs.take (o + off) ++ ds ++ cs.drop (o + off + ai.size G)) o (set b g)
def iu {B:Type} [ai B]:A1 (hK B) B where
 off:=0
 get b:=b
 set _ g:=g
 gl:=by show 0 + ai.size B≤ai.size B; omega
 il h:=h
 kF ao bp _ bP:=by
  have h:=Mc ao (ai.len bP) bp
  show ai.rep _ _ ((List.drop _ _).take _) _
  rw [Nat.add_zero,h]; exact bP
def dF {B:Type} [ai B] {P:Type} {S:s3 P} :A1 (dp B S) B where
 off:=0
 get b:=b.1
 set b g:=(g,b.2)
 gl:=by show 0 + ai.size B≤ai.size B + S.size; omega
 il h:=h.1
 kF {A W cs n o b ds g} ao bp h bP:=by
  have bp:o + (ai.size B + S.size)≤n:=bp
  refine⟨?_,S.ri h.2 ao (ai.len bP) (by omega) (by omega)⟩
  rw [Nat.add_zero,Mc ao (ai.len bP) (by omega)]; exact bP
def bF {B:Type} [ai B] {P:Type} {S:s3 P} {G:Type} [ai G] (l:A1 S G):A1 (dp B S) G where
 off:=ai.size B + l.off
 get b:=l.get b.2
 set b g:=(b.1,l.set b.2 g)
 gl:=by have:=l.gl; show ai.size B + l.off + ai.size G≤ai.size B + S.size; omega
 il h:=by rw [← Nat.add_assoc]; exact l.il h.2
 kF {A W cs n o b ds g} ao bp h bP:=by
  have bp:o + (ai.size B + S.size)≤n:=bp
  have an:=l.gl
  have ae:=l.kF ao (by omega) h.2 bP
  rw [Nat.add_assoc o] at ae
  exact⟨by rw [FV ao (ai.len bP) (by omega) (.inl (by omega))]; exact h.1,ae⟩
def aL.str {T P G:Type} [ai G] {S:s3 P} {to:T→P} {N:Nat} (l:A1 S G) (off:Nat) (get:T→G) (set:T→G→T) (kY:S.size=N:=by rfl) (bp:l.off=off:=by rfl) (aa:∀ b,l.get (to b)=get b:=by intro b; rfl) (ae:∀ b g,l.set (to b) g=to (set b g):=by intro b g; rfl): @aL T G (ai.str S to N kY) _:=
 @aL.mk T G (ai.str S to N kY) _ off get set (by have:=l.gl; show off + ai.size G≤N; omega)
  (fun {A W cs b} h=>by have:=l.il h.2; rw [Nat.zero_add,bp,aa] at this; exact this)
  (fun {A W cs b ds g} h bP=>by
   have aD:=l.kF h.1 (by omega) h.2 bP
   rw [Nat.zero_add,bp,ae] at aD
   have aV:=l.gl
   exact⟨UJ h.1 (ai.len bP) (by omega),aD⟩)
class bd (α:Type) [ai α] [Inhabited α] where
 cells:List Value
 ok:∀ A W,ai.rep A W cells (default:α)
instance:bd Bool:=⟨[.bool false],fun _ _=>rfl⟩
instance:bd Int:=⟨[.int .i64 0],fun _ _=>rfl⟩
instance:bd (BitVec 64):=⟨[.int .u64 0],fun _ _=>rfl⟩
instance:bd (BitVec 32):=⟨[.int .u32 0],fun _ _=>rfl⟩
instance:bd (BitVec 16):=⟨[.int .u16 0],fun _ _=>rfl⟩
instance:bd (BitVec 8):=⟨[.int .u8 0],fun _ _=>rfl⟩
instance:bd ByteArray:=⟨[.string ByteArray.empty],fun _ _=>rfl⟩
instance {α:Type} [ai α]:bd (List α):=⟨[.slice none 0 0],fun _ _=>⟨_,rfl,.inl ⟨rfl,rfl⟩⟩⟩
theorem Lu {α:Type} [ai α] {A W} {Jw:List Value} {z:α} (h:ai.rep A W Jw z):∀ n,gv A W (List.replicate n Jw).flatten (List.replicate n z)
 | 0=>⟨by simp,fun i an=>by simp at an⟩
 | n + 1=>by
   have aa:=Lu h n
   have ae:gv A W Jw [z]:=⟨by simp [ai.len h],fun i an=>by
    have:i=0:=by simpa using an
    subst this
    rw [Nat.zero_mul,List.drop_zero,← ai.len h,List.take_length]; exact h⟩
   have:=sb ae aa
   simpa [List.replicate_succ] using this
instance {α:Type} [ai α] [Inhabited α] [bd α] {n:Nat} :bd (Vector α n):=⟨(List.replicate n (bd.cells α)).flatten,fun A W=>by
 have:=Lu (bd.ok (α:=α) A W) n
 show gv A W _ (Vector.replicate n default).toList
 simpa using this⟩
def HR (α:Type) [ai α] [Inhabited α] [bd α]:Value:=if ai.agg α=true then .agg (bd.cells α).toArray else(bd.cells α).headD undef
theorem cQ.of {P:Program} {t:TypeId} {α:Type} [ai α] [Inhabited α] [bd α] (h:(P.info? t).bind (·.zero)=some (HR α)):cQ P t (default:α) where
 zero:=by
  cases an:P.info? t with
  | none=>simp [an] at h
  | some i=>
    refine⟨i,HR α,rfl,by simpa [an] using h,fun A W=> ?_⟩
    have ok:=bd.ok (α:=α) A W
    unfold HR
    cases bn:ai.agg α with
    | true=>simp only [if_true]; exact⟨by simp [shaped,bn],by simpa [Value.cells] using ok⟩
    | false=>
      have aa:=ai.len ok
      rw [ai.flat bn] at aa
      obtain⟨v,aX⟩:=List.length_eq_one_iff.1 aa
      have aD:v.oneCell'=true:=ai.one ok v (by rw [aX]; simp)
      simp only [Bool.false_eq_true,if_false,aX,List.headD_cons]
      exact⟨by simp [shaped,bn,aD],by rw [nG aD]; rw [aX] at ok; exact ok⟩
theorem bA.of {P:Program} {t:TypeId} {α:Type} [ai α] {d:TypeDesc} (bn:(match d with | .struct _ | .array _ _=>true | _=>false)=ai.agg α) (hu:P.underlying t=some d) (hs:(P.info? t).map (·.size)=some (ai.size α)):bA P t α:=⟨hs,d,hu,bn⟩
theorem cq.of {P:Program} {s f o:Nat} {fW:Array Field} {fd:Field} {γ:Type} [ai γ] (hu:P.underlying s=some (.struct fW)) (a8:fW[f]? =some fd) (bp:fd.offset=o) (eh:bA P fd.type γ) (hs:Nat.beq (ai.size γ) 0=false):cq P s f o:=by
 obtain⟨i,aa,ae⟩:=eh.info
 exact⟨fW,fd,i,hu,a8,bp,aa,fun h=>by rw [← ae,h] at hs; cases hs⟩
theorem qv.of {P:Program} {t n e s:Nat} {γ:Type} [ai γ] (hu:P.underlying t=some (.array n e)) (eh:bA P e γ) (hs:ai.size γ=s):qv P t n s:=by
 obtain⟨i,aa,ae⟩:=eh.info
 exact⟨e,i,hu,aa,by rw [ae,hs]⟩
theorem bind_some {α β:Type} {m:Option α} {f:α→Option β} {r:β} (h:m.bind f=some r):∃ y,m=some y∧f y=some r:=Option.bind_eq_some_iff.1 h
theorem gQ {α:Type} {b:Bool} {p q:Option α} {r:α} (hb:b=true) (h:cond b p q=some r):p=some r:=by rw [hb] at h; exact h
theorem gR {α:Type} {b:Bool} {p q:Option α} {r:α} (hb:b=false) (h:cond b p q=some r):q=some r:=by rw [hb] at h; exact h
theorem aG {α:Type} {a b:α} (h:some a=some b):a=b:=Option.some.inj h
def c4 {α:Type} [Inhabited α] (b want:Bool) (m:Option α):Option α:=if b=want then m else some default
theorem ha {α:Type} [Inhabited α] {b want:Bool} {m:Option α} {y:α} (h:c4 b want m=some y) (hb:b=want):m=some y:=by unfold c4 at h; rw [if_pos hb] at h; exact h
def eo:Nat:=2 ^ 80
theorem bS.nX {c E L a W} (h:bS c E L a W) (n:Nat):bS c E (L.drop n) a W:=
 h.sub (fun e he=>List.mem_of_mem_drop he) (by
   have:(aP (L.drop n)).Sublist (aP L):=by
    induction L generalizing n with
    | nil=>simp
    | cons x r b1=>
      cases n with
      | zero=>simp
      | succ n=>
        have aQ:∀ n,(aP (r.drop n)).Sublist (aP r):=by
         intro n
         have key:∀ (r:List aO) n,(aP (r.drop n)).Sublist (aP r):=by
          intro r
          induction r with
          | nil=>intro n; simp
          | cons y r OT=>
            intro n
            cases n with
            | zero=>simp
            | succ n=>
              simp only [List.drop_succ_cons]
              cases av:y.key with
              | none=>simpa [aP,av] using OT n
              | some p=>simp only [aP,av]; exact(OT n).cons _
         exact key r n
        simp only [List.drop_succ_cons]
        cases av:x.key with
        | none=>simpa [aP,av] using aQ n
        | some p=>simp only [aP,av]; exact(aQ n).cons _
   exact h.nodup.sublist this)
section
variable {c:dh} {E:List (Nat × I)} {L:List aO} {ops:Array Oper} {Q:Exit→Act→World→Prop}
theorem ah.c4 {γ:Type} {x:Operand} {b:Bool} {y z:Code} (E':γ→List (Nat × I)) (ay:γ→List aO) (ao:bc c E L x (.of b)) (th:∀ g,ad c Q .normal (E' g) (ay g))
 (cj:(∀ g,ad c Q .normal (E' g) (ay g))→b=true→ah c Q y E L) (a8:(∀ g,ad c Q .normal (E' g) (ay g))→b=false→ah c Q z E L):ah c Q (.cond x y z) E L:=
 ah.cond ao (cj th) (a8 th)
theorem ad.meet {x:Exit} {E':List (Nat × I)} {ay:List aO} (n:Nat) (au:L.drop n=ay) (h:hv E E') (k:ad c Q x E' ay):ad c Q x E L:=fun a W s=>k a W (by rw [← au]; exact(s.nX n).less h.look)
def xd {σ ε γ δ:Type} (c:dh) (E:σ→γ→List (Nat × I)) (L:σ→γ→List aO) (xs:ε→Exit) (fJ:ε→δ→List (Nat × I)) (Lx:ε→δ→List aO):σ ⊕ ε→Exit→Act→World→Prop
 | .inl s,x,a,W=>x= .normal∧ ∃ g,bS c (E s g) (L s g) a W
 | .inr e,x,a,W=>x≠ .normal∧x=xs e∧ ∃ g,bS c (fJ e g) (Lx e g) a W
theorem ad.UK {σ ε γ δ:Type} {E':σ→γ→List (Nat × I)} {ay:σ→γ→List aO} {xs:ε→Exit} {fJ:ε→δ→List (Nat × I)} {Lx:ε→δ→List aO} {s:σ} (g:γ) (n:Nat)
 (au:L.drop n=ay s g) (h:hv E (E' s g)):ad c (xd c E' ay xs fJ Lx (.inl s)) .normal E L:=fun a W st=>⟨rfl,g,by rw [← au]; exact(st.nX n).less h.look⟩
theorem ad.UL {σ ε γ δ:Type} {E':σ→γ→List (Nat × I)} {ay:σ→γ→List aO} {xs:ε→Exit} {fJ:ε→δ→List (Nat × I)} {Lx:ε→δ→List aO} {e:ε} {x:Exit} (g:δ) (n:Nat)
 (aq:x=xs e) (aR:x≠ .normal) (au:L.drop n=Lx e g) (h:hv E (fJ e g)):ad c (xd c E' ay xs fJ Lx (.inr e)) x E L:=fun a W st=>⟨aR,aq,g,by rw [← au]; exact(st.nX n).less h.look⟩
theorem ah.q3 {σ ε γ δ:Type} {body:Code} {N:Nat} {b:σ→Option (σ ⊕ ε)} {cd:σ} {e:ε} (ao:ei N b cd=some e)
 (E':σ→γ→List (Nat × I)) (ay:σ→γ→List aO) (xs:ε→Exit) (fJ:ε→δ→List (Nat × I)) (Lx:ε→δ→List aO) (g0:γ) (au:L=ay cd g0) (aH:hv E (E' cd g0))
 (q9:∀ s r,b s=some r→ ∀ g,ah c (xd c E' ay xs fJ Lx r) body (E' s g) (ay s g))
 (nN:∀ g,ad c Q (xs e) (fJ e g) (Lx e g)):ah c Q (.loop body) E L:=fun a W st=>by
 subst au
 exact K2 b (fun s a W=> ∃ g,bS c (E' s g) (ay s g) a W) (fun e x a W=>x=xs e∧ ∃ g,bS c (fJ e g) (Lx e g) a W)
  (fun s r hs a W ⟨g,kA⟩=>wpIn_mono (q9 s r hs g a W kA) (fun x a W h=>by
   cases r with
   | inl ca=>exact h
   | inr e'=>exact⟨h.1,h.2⟩)) Q e (fun x a W ⟨aq,g,hs⟩=>by subst aq; exact nN g a W hs) ao ⟨g0,st.less aH.look⟩
end
end Gv
namespace Gv
open Go
set_option linter.unusedVariables false
set_option linter.unusedSimpArgs false
theorem b7.as {c E L o} {α:Type} [ai α] {a b:α} (h:b7 c E L o (.of a)) (e:a=b):b7 c E L o (.of b):=by subst e; exact h
def I.pe {α β:Type} [ai α] [ai β] (P:Program) (F:α→Option β):I where
 holds A W v:= ∃ f fst cap,v= .func (.func f) fst cap∧bT P f∧ ∀ c7 W',Ext A W c7 W'→ (∀ k∈c7,k < W'.heap.size)→ ∀ x r n9,F x=some r→ (I.of x).holds c7 W' n9→
  Calls P f (fst ++ #[n9] ++ cap) W' fun e A2=> ∃ v,e= .returned v∧Fr [] W' A2∧ (I.of r).holds c7 A2 v
 mono e h:=let⟨f,fst,cap,aa,ae,aD⟩:=h; ⟨f,fst,cap,aa,ae,fun c7 W' e'=>aD c7 W' (e.trans e')⟩
def I.w7 {α β γ:Type} [ai α] [ai β] [ai γ] (P:Program) (F:α→β→Option γ):I where
 holds A W v:= ∃ f fst cap,v= .func (.func f) fst cap∧bT P f∧ ∀ c7 W',Ext A W c7 W'→ (∀ k∈c7,k < W'.heap.size)→ ∀ x y r n9 xr,F x y=some r→ (I.of x).holds c7 W' n9→ (I.of y).holds c7 W' xr→
  Calls P f (fst ++ #[n9,xr] ++ cap) W' fun e A2=> ∃ v,e= .returned v∧Fr [] W' A2∧ (I.of r).holds c7 A2 v
 mono e h:=let⟨f,fst,cap,aa,ae,aD⟩:=h; ⟨f,fst,cap,aa,ae,fun c7 W' e'=>aD c7 W' (e.trans e')⟩
section
variable {c:dh} {E:List (Nat × I)} {L:List aO} {d:Option Tmp} {ty:TypeId} {pos:String} {af:Array Edge} {g:Option (Nat × Bool)}
theorem Ln {α β:Type} [ai α] [ai β] {F:α→Option β} {f:FuncId} (ea:bT c.P f) (h:∀ x r,F x=some r→bw c.P f [.of x] (.of r)):bc c E L (.func f) (.pe c.P F):=fun a W s=>
 ⟨f,#[],#[],rfl,ea,fun c7 W' _ fV x r n9 mT aq=>by simpa using h x r mT c7 W' [n9] fV (.cons aq .nil)⟩
theorem yV {α β γ:Type} [ai α] [ai β] [ai γ] {F:α→β→Option γ} {f:FuncId} (ea:bT c.P f) (h:∀ x y r,F x y=some r→bw c.P f [.of x,.of y] (.of r)):bc c E L (.func f) (.w7 c.P F):=fun a W s=>
 ⟨f,#[],#[],rfl,ea,fun c7 W' _ fV x y r n9 xr mT aq a6=>by simpa using h x y r mT c7 W' [n9,xr] fV (.cons aq (.cons a6 .nil))⟩
theorem vV {α β:Type} [ai α] [ai β] {F:α→Option β} {ny x:Operand} {ats:Array TypeId} {Bz:α} {r:β} (a8:bc c E L ny (.pe c.P F)) (aq:bc c E L x (.of Bz)) (h:F Bz=some r):
 b7 c E L ⟨d,.call ⟨.value ny,#[x],ats⟩,ty,pos,af,g⟩ (.of r):=fun a W s=>by
 obtain⟨f,fst,cap,aa,ea,ae⟩:=a8 a W s
 refine .tN (f:=f) (args:=fst ++ #[a.eval x] ++ cap) (W':=W) ?_ (ae _ W (Ext.refl _ _) s.Da _ _ _ h (aq a W s))
 simp [execOp,resolve,Deferred.ofValue,aa,invoke,ea.run]
theorem FQ {α β γ:Type} [ai α] [ai β] [ai γ] {F:α→β→Option γ} {ny x y:Operand} {ats:Array TypeId} {Bz:α} {PB:β} {r:γ} (a8:bc c E L ny (.w7 c.P F)) (aq:bc c E L x (.of Bz)) (a6:bc c E L y (.of PB)) (h:F Bz PB=some r):
 b7 c E L ⟨d,.call ⟨.value ny,#[x,y],ats⟩,ty,pos,af,g⟩ (.of r):=fun a W s=>by
 obtain⟨f,fst,cap,aa,ea,ae⟩:=a8 a W s
 refine .tN (f:=f) (args:=fst ++ #[a.eval x,a.eval y] ++ cap) (W':=W) ?_ (ae _ W (Ext.refl _ _) s.Da _ _ _ _ _ h (aq a W s) (a6 a W s))
 simp [execOp,resolve,Deferred.ofValue,aa,invoke,ea.run]
end
end Gv
namespace Gv
open Go Go.ChangeShapes Go.WideShapes Go.RowKit
set_option linter.unusedVariables false
structure Arg (P:Program) (t:TypeId) (α:Type) [ai α]:Prop where
 cells:P.cellsOf t=ai.size α
 read:∀ {H:Type} {enc:TypeId × Value→H} {W:World} {n:Nat} {cs:List Value} {x:DataW H × List MemPlace},DataW.trod enc P W 0 (fun _=>true) true n t cs=some x→ ∃ a:α,ai.rep [] W cs a
 form:∀ {W:World} {b:Nat} {v:Value},Value.okWide P W .any b t v→shaped (ai.agg α) v
variable {P:Program} {t e:TypeId}
theorem SF (hu:P.underlying t=some .bool) {H:Type} {enc:TypeId × Value→H} {W:World} {n:Nat} {cs:List Value} {x:DataW H × List MemPlace} (h:DataW.trod enc P W 0 (fun _=>true) true n t cs=some x):
 ∃ b:Bool,cs= [.bool b]:=by
 cases n with
 | zero=>simp [DataW.trod] at h
 | succ n=>
   unfold DataW.trod at h
   rw [hu] at h
   split at h <;> first | exact⟨_,rfl⟩ | (simp at h)
   all_goals simp_all
theorem Arg.bool (hu:P.underlying t=some .bool) (ar:P.cellsOf t=1):Arg P t Bool where
 cells:=ar
 read {H enc W n cs x} h:=by
  obtain⟨b,rfl⟩:=SF hu h
  exact⟨b,rfl⟩
 form {W b v} h:=by
  unfold Value.okWide Cell.okWide at h
  simp only [hu] at h
  unfold Cell.ok at h
  rw [hu] at h
  cases v <;> first | rfl | simp at h
theorem yX {k:IntKind} (hu:P.underlying t=some (.int k)) {H:Type} {enc:TypeId × Value→H} {W:World} {n:Nat} {cs:List Value} {x:DataW H × List MemPlace} (h:DataW.trod enc P W 0 (fun _=>true) true n t cs=some x):
 ∃ z:Int,cs= [.int k z]∧k.min≤z∧z≤k.max:=by
 cases n with
 | zero=>simp [DataW.trod] at h
 | succ n=>
   unfold DataW.trod at h
   rw [hu] at h
   split at h <;> simp_all [Lit.wf]
theorem yY {k:IntKind} (hu:P.underlying t=some (.int k)) {W:World} {b:Nat} {v:Value} (h:Value.okWide P W .any b t v):v.oneCell'=true:=by
 unfold Value.okWide Cell.okWide at h
 simp only [hu] at h
 unfold Cell.ok at h
 rw [hu] at h
 cases v <;> first | rfl | simp at h
theorem Arg.int (hu:P.underlying t=some (.int .i64)) (ar:P.cellsOf t=1):Arg P t Int where
 cells:=ar
 read h:=by obtain⟨z,rfl,_⟩:=yX hu h; exact⟨z,rfl⟩
 form h:=yY hu h
theorem Arg.u64 (hu:P.underlying t=some (.int .u64)) (ar:P.cellsOf t=1):Arg P t (BitVec 64) where
 cells:=ar
 read h:=by
  obtain⟨z,rfl,aa,ae⟩:=yX hu h
  simp [IntKind.min,IntKind.max,IntKind.signed,IntKind.bits] at aa ae
  exact⟨BitVec.ofInt 64 z,by show [_]= [_]; simp; omega⟩
 form h:=yY hu h
theorem Arg.u32 (hu:P.underlying t=some (.int .u32)) (ar:P.cellsOf t=1):Arg P t (BitVec 32) where
 cells:=ar
 read h:=by
  obtain⟨z,rfl,aa,ae⟩:=yX hu h
  simp [IntKind.min,IntKind.max,IntKind.signed,IntKind.bits] at aa ae
  exact⟨BitVec.ofInt 32 z,by show [_]= [_]; simp; omega⟩
 form h:=yY hu h
theorem Arg.u16 (hu:P.underlying t=some (.int .u16)) (ar:P.cellsOf t=1):Arg P t (BitVec 16) where
 cells:=ar
 read h:=by
  obtain⟨z,rfl,aa,ae⟩:=yX hu h
  simp [IntKind.min,IntKind.max,IntKind.signed,IntKind.bits] at aa ae
  exact⟨BitVec.ofInt 16 z,by show [_]= [_]; simp; omega⟩
 form h:=yY hu h
theorem Arg.u8 (hu:P.underlying t=some (.int .u8)) (ar:P.cellsOf t=1):Arg P t (BitVec 8) where
 cells:=ar
 read h:=by
  obtain⟨z,rfl,aa,ae⟩:=yX hu h
  simp [IntKind.min,IntKind.max,IntKind.signed,IntKind.bits] at aa ae
  exact⟨BitVec.ofInt 8 z,by show [_]= [_]; simp; omega⟩
 form h:=yY hu h
theorem Lv (hs:(∃ fW,P.underlying t=some (.struct fW))∨ (∃ n e,P.underlying t=some (.array n e))) {W:World} {b:Nat} {v:Value} (h:Value.okWide P W .any b t v):shaped true v:=by
 unfold Value.okWide at h
 rcases hs with⟨fW,hu⟩ | ⟨n,e,hu⟩ <;> rw [hu] at h <;> exact⟨h.choose,h.choose_spec.1⟩
theorem Arg.arr {α:Type} [ai α] [Inhabited α] {n:Nat} (hu:P.underlying t=some (.array n e)) (he:Arg P e α) (ar:P.cellsOf t=n * ai.size α):Arg P t (Vector α n) where
 cells:=ar
 read {H enc W m cs x} h:=by
  obtain⟨xs,q,_,_,ao,hlen,a8⟩:=DataW.trod_array hu h
  have aQ:∀ i,i < n→ ∃ a:α,ai.rep [] W ((cs.drop (i * ai.size α)).take (ai.size α)) a:=by
   intro i an
   have aa:=a8 i an
   rw [List.getElem?_eq_getElem (by omega)] at aa
   rw [← he.cells]
   exact he.read aa
  refine⟨Vector.ofFn fun i=>(aQ i.1 i.2).choose,by rw [ao,ar]; simp,fun i an=> ?_⟩
  have jr:i < n:=by simpa using an
  have:=(aQ i jr).choose_spec
  simpa using this
 form h:=Lv (.inr ⟨_,_,hu⟩) h
theorem Lw {H:Type} {enc:TypeId × Value→H} {W:World} {n:Nat} {cs:List Value} {α:Type} [ai α] {fW:Array Field} {xs:List (DataW H × List MemPlace)} {f:Field} (i:Nat) (bn:Arg P f.type α) (an:fW[i]? =some f) (hlen:xs.length=fW.size)
 (a8:∀ (i:Nat) (f:Field),fW[i]? =some f→DataW.trod enc P W 0 (fun _=>true) true n f.type ((cs.drop f.offset).take (P.cellsOf f.type))=xs[i]?):∃ a:α,ai.rep [] W ((cs.drop f.offset).take (ai.size α)) a:=by
 have aa:=a8 i f an
 rw [List.getElem?_eq_getElem (by have:=(Array.getElem?_eq_some_iff.1 an).1; omega)] at aa
 rw [← bn.cells]
 exact bn.read aa
theorem K6 {H:Type} {enc:TypeId × Value→H} {W W':World} (ao:laidOutB P=true) {sp:Nat→Bool} :∀ {hi:List TypeId} {vs:List Value} {ds:List (DataW H)} {bq:List MemPlace},
 (∀ t∈hi,P.readableRec t=true∧t < P.types.size)→DataW.TrodAll enc P W 0 (fun _=>true) true hi vs ds bq→ (∀ p∈bq,W.sameAt W' p)→ (∀ p∈bq,sp p.block=true)→DataW.TrodAll enc P W' 0 sp true hi vs ds bq
 | [],_,_,_,_,h,_,_=>by
   obtain⟨rfl,rfl,rfl⟩:=trodAll_nil h
   exact rfl
 | _ :: _,_,_,_,cj,h,hs,hp=>by
   obtain⟨v,Ix,d,Iy,p,q,rfl,rfl,rfl,aa,ae⟩:=trodAll_cons h
   have bW:=cj _ (List.mem_cons_self ..)
   exact⟨p,q,WideElems.Trod_stays ao bW.1 bW.2 aa (fun x aq=>hs x (by simp [aq])) (fun x aq=>hp x (by simp [aq])),
    K6 ao (fun t AU=>cj t (List.mem_cons_of_mem _ AU)) ae (fun x aq=>hs x (by simp [aq])) (fun x aq=>hp x (by simp [aq])),rfl⟩
theorem Fr.below {W W':World} (h:Fr [] W W'):Below W.heap.size W W':=⟨h.os,h.tape,h.output,h.size,fun k av=>h.block k av (by simp)⟩
theorem Td {H:Type} {enc:TypeId × Value→H} {f:Func} {s:ChangeSpec} {W W':World} {args:Array Value} {ds gs:List (DataW H)} {before:List MemPlace} {eF:TypeId}
 (ao:laidOutB P=true) (hp:∀ t∈f.params.toList,P.readableRec t=true∧t < P.types.size) (aQ:f.resultTypes= #[eF]) (hb:P.underlying eF=some .bool) (aX:s.vars= [])
 (hs:s.fn H ds= { results:= [.lit (.bool true)],args:=ds })
 (xt:DataW.Whole enc P f.params.toList s.vars false W args.toList ds gs before) (mT:Fr [] W W'):
 s.post enc P f false true false false W args (.bool true) W':=by
 have Y0:=xt
 obtain⟨p,q,fV,Jx,rfl,dI,aR⟩:=Y0
 rw [aX] at Jx
 obtain⟨rfl,rfl⟩:=trodVars_none Jx
 have cw:∀ x∈p,x.block < W.heap.size:=fun x aq=>xt.lt x (by simpa using aq)
 have A3:=mT.below
 have DH:∀ x∈p,W.sameAt W' x:=fun x aq=>A3.same (cw x aq)
 have Yb:∀ (b:Nat) (sp:Nat→Bool) (hd:Bool),DataW.TrodAll enc P W' b sp hd f.resultTypes.toList ((Value.bool true).resultList f.resultTypes.size) [.lit (.bool true)] []:=by
  intro b sp hd
  rw [aQ]
  exact⟨[],[],shut_bool hb true,rfl,rfl⟩
 refine⟨ds,[],p ++ [],[],p,[],xt,?_,?_,?_,World.keptBut_mono (fun x aq=> ?_) (A3.frame fun _=>False),fun h=>by cases h⟩
 ·rw [List.append_nil,hs]; exact Yb _ _ _
 ·rw [List.append_nil,hs]; exact K6 ao hp fV DH (fun x aq=>by simpa using cw x aq)
 ·rw [List.append_nil,hs,aX]; rfl
 ·exact aq.elim
end Gv
namespace Gv
open Go Go.ChangeShapes Go.WideShapes Go.RowKit
set_option linter.unusedVariables false
set_option linter.unusedSimpArgs false
theorem Te {P:Program} {fits:TypeId→Bool} {d:Nat} {e:TypeId} {count off n:Nat} (h:rowAt P fits d e count off n=true):off≤count * P.cellsOf e:=by
 cases d with
 | zero=>cases h
 | succ d=>
   unfold rowAt at h
   simp only at h
   split at h
   ·cases h
   ·rename_i hs
    have hp:0 < P.cellsOf e:=Nat.pos_of_ne_zero hs
    have aat:=Nat.div_add_mod off (P.cellsOf e)
    rw [Bool.or_eq_true] at h
    rcases h with h | h
    ·simp only [Bool.and_eq_true,beq_iff_eq,decide_eq_true_eq] at h
     have:P.cellsOf e * (off / P.cellsOf e)≤P.cellsOf e * count:=Nat.mul_le_mul_left _ (by omega)
     rw [Nat.mul_comm count]; omega
    ·simp only [Bool.and_eq_true,decide_eq_true_eq] at h
     have hm:=Nat.mod_lt off hp
     have:P.cellsOf e * (off / P.cellsOf e + 1)≤P.cellsOf e * count:=Nat.mul_le_mul_left _ (by omega)
     rw [Nat.mul_add] at this
     rw [Nat.mul_comm count]; omega
theorem K7 {P:Program} :∀ {d:Nat} {e:TypeId} {count off:Nat} {u:TypeId} {n:Nat},liesAt P d e count off u n=true→off≤count * P.cellsOf e
 | 0,_,_,_,_,_,h=>by cases h
 | d + 1,e,count,off,u,n,h=>by
   unfold liesAt at h
   rw [Bool.or_eq_true] at h
   rcases h with h | h
   ·exact Te h
   ·split at h
    ·exact K7 h
    ·cases h
structure qd (P:Program) (t:TypeId) (α:Type) [ai α]:Prop where
 top:∀ {H:Type} {enc:TypeId × Value→H} {W:World} {n b:Nat} {v:Value} {x:DataW H × List MemPlace},DataW.trod enc P W 0 (fun _=>true) true n t v.cells.toList=some x→Value.okWide P W .any b t v→ ∃ a:α,(I.of a).holds [] W v
variable {P:Program} {t e:TypeId}
theorem qd.of {α:Type} [ai α] (h:Arg P t α):qd P t α where
 top aa ae:=let⟨a,aD⟩:=h.read aa; ⟨a,h.form ae,aD⟩
theorem Tf {α:Type} [ai α] (hu:P.underlying t=some (.slice e)) (he:Arg P e α) (dI:Nat.beq (ai.size α) 0=false) {H:Type} {enc:TypeId × Value→H} {W:World} {n b:Nat} {v:Value} {x:DataW H × List MemPlace}
 (h:DataW.trod enc P W 0 (fun _=>true) true n t [v]=some x) (hV:Cell.okWide P W .any b t v):∃ a:List α,(I.of a).holds [] W v:=by
 have jb:ai.size α≠0:=fun h=>by rw [h] at dI; cases dI
 rcases DataW.trod_slice hu h with⟨aa,_⟩ | ⟨a,len,cap,elems,rest,m,_,aa,_,_,aau,oI,aav,Yc,aag,_⟩
 ·have:=List.singleton_inj.1 aa
  subst this
  exact⟨[],mw.2 (.inl ⟨rfl,rfl⟩)⟩
 ·have:=List.singleton_inj.1 aa
  subst this
  unfold Cell.okWide at hV
  simp only [hu] at hV
  unfold Cell.ok at hV
  rw [hu] at hV
  obtain⟨_,_,_,NQ,row,cells,xe,Yd⟩:=hV
  obtain⟨PC,rQ,aaw⟩:=a
  simp only at NQ
  subst NQ
  unfold World.shape? at xe
  cases eu:W.heap[PC]? with
  | none=>rw [eu] at xe; cases xe
  | some jy=>
    rw [eu] at xe
    cases jy <;> simp at xe
    rename_i s4 T gP
    obtain⟨PD,eV⟩:=xe
    have aak:rQ≤s4.size:=by
     have a1:rQ≤_:=K7 Yd
     have bo:=Nat.div_mul_le_self cells (P.cellsOf row)
     omega
    have WD:=he.cells
    have fL:∀ i,i < len→ ∃ a:α,ai.rep [] W ((s4.toList.drop (rQ + i * ai.size α)).take (ai.size α)) a∧rQ + (i + 1) * ai.size α≤s4.size:=fun i an=>by
     have a1:=Yc i an
     rw [List.getElem?_eq_getElem (by omega)] at a1
     obtain⟨dK,bo,cX⟩:=Option.bind_eq_some_iff.1 a1
     obtain⟨_,ao,ar⟩:=World.cells?_some bo
     rw [WD] at ao ar bo
     have ra:∀ j,j < ai.size α→s4[rQ + i * ai.size α + j]? =dK[j]? :=fun j aE=>by
      rw [← ar j aE,jh,jh]
      unfold World.cell?
      simp [eu]
     have heq:(s4.toList.drop (rQ + i * ai.size α)).take (ai.size α)=dK:=by
      apply List.ext_getElem?
      intro j
      rw [List.getElem?_take]
      by_cases aE:j < ai.size α
      ·rw [if_pos aE,List.getElem?_drop,Array.getElem?_toList]; exact ra j aE
      ·rw [if_neg aE]; symm; exact List.getElem?_eq_none (by omega)
     obtain⟨a,bn⟩:=he.read cX
     refine⟨a,by rw [heq]; exact bn,?_⟩
     have eP:=ra (ai.size α - 1) (by omega)
     rw [List.getElem?_eq_getElem (show ai.size α - 1 < dK.length by omega)] at eP
     have:=(Array.getElem?_eq_some_iff.1 eP).1
     rw [Nat.add_mul]; omega
    have hex:∃ xs:List α,xs.length=len∧ ∀ i (h:i < xs.length),ai.rep [] W ((s4.toList.drop (rQ + i * ai.size α)).take (ai.size α)) xs[i]:=by
     refine⟨List.ofFn fun i:Fin len=>(fL i.1 i.2).choose,by simp,fun i an=> ?_⟩
     have jr:i < len:=by simpa using an
     rw [List.getElem_ofFn]
     exact(fL i jr).choose_spec.1
    obtain⟨xs,A0,Iz⟩:=hex
    have hbound:rQ + xs.length * ai.size α≤s4.size:=by
     rw [A0]
     rcases Nat.eq_zero_or_pos len with bW | bW
     ·rw [bW]; omega
     ·have:=(fL (len - 1) (by omega)).choose_spec.2
      rw [show len - 1 + 1=len by omega] at this
      exact this
    refine⟨xs,mw.2 (.inr ⟨PC,rQ,cap,s4,T,gP,by rw [A0],by simp,eu,by omega,by omega,hbound,?_,fun i an=> ?_⟩)⟩
    ·rw [List.length_take,List.length_drop]; simp; omega
    ·have hle:(i + 1) * ai.size α≤xs.length * ai.size α:=Nat.mul_le_mul_right _ an
     rw [Nat.succ_mul] at hle
     rw [tC _ _ _ _ _ hle]
     exact Iz i an
theorem qd.OU {α:Type} [ai α] (hu:P.underlying t=some (.slice e)) (he:Arg P e α) (dI:Nat.beq (ai.size α) 0=false):qd P t (List α) where
 top {H enc W n b v x} h hV:=by
  have w0:Cell.okWide P W .any b t v:=by
   unfold Value.okWide at hV
   simp only [hu] at hV
   exact hV
  have Ye:v.oneCell'=true:=by
   unfold Cell.okWide at w0
   simp only [hu] at w0
   unfold Cell.ok at w0
   rw [hu] at w0
   cases v <;> first | rfl | simp at w0
  rw [nG Ye] at h
  exact Tf hu he dI h w0
theorem CD {H:Type} {enc:TypeId × Value→H} {W:World} {hi:List TypeId} {vs:List Value} {ds:List (DataW H)} {bq:List MemPlace} {α:Type} [ai α] {b:Nat} (bn:qd P t α)
 (h:DataW.TrodAll enc P W 0 (fun _=>true) true (t :: hi) vs ds bq) (hV:∀ (j:Nat) u v,(t :: hi)[j]? =some u→vs[j]? =some v→Value.okWide P W .any b u v):
 ∃ (a:α) (v:Value) (IA:List Value) (OV:List (DataW H)) (mO:List MemPlace) (d:DataW H),vs=v :: IA∧ds=d :: OV∧ (I.of a).holds [] W v∧DataW.TrodAll enc P W 0 (fun _=>true) true hi IA OV mO∧
   (∀ (j:Nat) u w,hi[j]? =some u→IA[j]? =some w→Value.okWide P W .any b u w):=by
 obtain⟨v,Ix,d,Iy,p,q,rfl,rfl,rfl,⟨n,aa⟩,ae⟩:=trodAll_cons h
 obtain⟨a,aD⟩:=bn.top aa (hV 0 t v rfl rfl)
 exact⟨a,v,Ix,Iy,q,d,rfl,rfl,aD,ae,fun j u w aE hw=>hV (j + 1) u w (by simpa using aE) (by simpa using hw)⟩
end Gv
namespace Gv
open Go
set_option linter.unusedVariables false
set_option linter.unusedSimpArgs false
theorem R6 {ay L:List aO} (h:ay.Sublist L):(aP ay).Sublist (aP L):=by
 induction h with
 | slnil=>simp [aP]
 | cons e _ b1=>cases av:e.key <;> simp only [aP,av] <;> first | exact b1 | exact b1.cons _
 | cons_cons e _ b1=>cases av:e.key <;> simp only [aP,av] <;> first | exact b1 | exact b1.cons_cons _
theorem aO.sr {e:aO} {A c7 W W'} (h:e.ok A W) (x:Ext A W c7 W') (hb:∀ p,e.key=some p→W'.heap[p]? =W.heap[p]?):e.ok c7 W':=by
 unfold aO.ok at *
 cases av:e.key with
 | none=>rw [av] at h; exact h
 | some p=>
   rw [av] at h
   obtain⟨o,aa,ae⟩:=h
   exact⟨o,by rw [hb p av]; exact aa,dM.mono _ x ae⟩
def jD (X b5:List Nat) (iw:World) {δ:Type} (ρ:δ→I) (Lo:δ→List aO):Ending→World→Prop:=fun e W'=>
 ∃ v d,e= .returned v∧Fr X iw W'∧ (aP (Lo d)).Nodup∧ (∀ k∈aP (Lo d),k < W'.heap.size∧ (k < iw.heap.size→k∈X)∧k ∉ b5)∧ (∀ e∈Lo d,e.ok (aP (Lo d) ++ b5) W')∧ (ρ d).holds (aP (Lo d) ++ b5) W' v
def cy (P:Program) (f:FuncId) (τs:List I) (Lin:List aO) {δ:Type} (ρ:δ→I) (Lo:δ→List aO):Prop:=
 ∀ (A:List Nat) (W:World) (vs:List Value),(∀ k∈A,k < W.heap.size∧k ∉ aP Lin)→ (aP Lin).Nodup→ (∀ k∈aP Lin,k < W.heap.size)→ (∀ e∈Lin,e.ok (aP Lin ++ A) W)→gq (aP Lin ++ A) W τs vs→
   Calls P f vs.toArray W (jD (aP Lin) A W ρ Lo)
theorem cy.of {P:Program} {f:FuncId} {fn:Func} {code:Code} {n:Nat} {τs:List I} {Lin:List aO} {δ:Type} {ρ:δ→I} {Lo:δ→List aO} (a8:P.funcs[f]? =some fn) (hb:fn.body=some code) (aR:fn.ntmps=n) (hlen:Nat.ble τs.length n=true)
 (h:∀ W A,ah ⟨P,n,W,aP Lin,A,none,[]⟩ (bodyPost P fn (jD (aP Lin) A W ρ Lo)) code (params 0 τs) Lin):cy P f τs Lin ρ Lo:=by
 intro A W vs fV iM cw hV aX
 refine calls_of_wp a8 hb (wpIn_wide.1 (h W A _ _ ?_))
 have ao:=aX.length
 have hle:τs.length≤n:=Nat.le_of_ble_eq_true hlen
 exact
 {defers:=rfl
  size:=by simp [aR,ao]; omega
  env:=fun t τ ld=>by
   obtain⟨_,v,ae,aD⟩:=tE aX 0 t τ ld
   refine⟨v,?_,aD⟩
   have cw:t < vs.length:=(List.getElem?_eq_some_iff.1 ae).1
   rw [Array.getElem?_append_left (by simpa using cw)]
   simpa using ae
  dD:= .refl _ _
  own:=hV
  nodup:=iM
  lt:=cw
  fY:=fun k av _=>av
  eU:=fV }
section
variable {c:dh} {E:List (Nat × I)} {L:List aO} {ops:Array Oper} {Q:Exit→Act→World→Prop}
variable {d:Option Tmp} {ty:TypeId} {pos:String} {af:Array Edge} {g:Option (Nat × Bool)} {x y:Operand} {t t2:TypeId}
def s5 (c:dh) (E:List (Nat × I)) (L:List aO) (r:ResultVar) (τ:I):Prop:=
 ∀ a W,bS c E L a W→ ∃ v,(ua a.tmps r).run c.P W= .ok v W∧τ.holds (aP L ++ c.b5) W v
theorem eD {t:Nat} {τ:I} (h:look E t=some τ):s5 c E L (.tmp t) τ:=fun a W s=>by
 obtain⟨v,aa,ae⟩:=s.env t τ h
 exact⟨v,by simp [ua,aa],ae⟩
theorem jV {t:Nat} {ty:TypeId} {i p:Nat} {α:Type} [ai α] {x:α} (eh:bA c.P ty α) (h:look E t=some (.eq (.pointer (some ⟨p,0,none⟩)))) (au:L[i]? =some ⟨some p,.var x⟩):s5 c E L (.cell t ty) (.of x):=fun a W s=>by
 obtain⟨v,aa,ae⟩:=s.env t _ h
 subst ae
 obtain⟨jy,eu,cs,T,rfl,fL⟩:=s.own _ (List.mem_of_getElem? au)
 have ao:cs.toList.length=ai.size α:=ai.len fL
 have eV:cs.size=ai.size α:=by simpa using ao
 obtain⟨v,aD,aV⟩:=tx (A:=aP L ++ c.b5) (off:=0) eh eu (by omega) (by rw [List.drop_zero,← ao,List.take_length]; exact fL)
 exact⟨v,by simp [ua,aa,asAddr,aD],aV⟩
theorem bS.ends {a:Act} {W:World} (s:bS c E L a W) {δ:Type} {ρ:δ→I} {Lo:δ→List aO} (bb:δ) (hs:(Lo bb).Sublist L) {v:Value} (aX:(ρ bb).holds (aP L ++ c.b5) W v):jD c.X c.b5 c.iw ρ Lo (.returned v) W:=by
 have kJ:=R6 hs
 have av:∀ k∈aP (Lo bb),k∈aP L:=fun k av=>kJ.subset av
 have g1:Ext (aP L ++ c.b5) W (aP (Lo bb) ++ c.b5) W:= .drop fun k hm=>by
  rcases List.mem_append.1 hm with hm | hm
  ·exact List.mem_append.2 (.inl (av k hm))
  ·exact List.mem_append.2 (.inr hm)
 exact⟨v,bb,rfl,s.dD,s.nodup.sublist kJ,fun k hm=>⟨s.lt k (av k hm),s.fY k (av k hm),fun bn=>(s.eU k bn).2 (av k hm)⟩,
  fun e he=>aO.sr (s.own e (hs.subset he)) g1 fun _ _=>rfl,I.mono _ g1 aX⟩
theorem ad.hj {fn:Func} {r:ResultVar} {τ:I} {δ:Type} {ρ:δ→I} {Lo:δ→List aO} (bb:δ) (hs:(Lo bb).Sublist L) (aQ:fn.results= #[r]) (rH:ρ bb=τ) (h:s5 c E L r τ) (hU:c.ds= []:=by rfl):ad c (bodyPost c.P fn (jD c.X c.b5 c.iw ρ Lo)) .ret E L:=fun a W s=>by
 subst rH
 obtain⟨v,aa,ae⟩:=h a W s
 exact⟨s.tM hU,v,by simp [tG,aQ,aa],s.ends bb hs ae⟩
theorem ad.k5 {fn:Func} {r iG:ResultVar} {τ ns:I} {δ:Type} {ρ:δ→I} {Lo:δ→List aO} (bb:δ) (hs:(Lo bb).Sublist L) (aQ:fn.results= #[r,iG]) (rH:ρ bb= .cN [τ,ns]) (h:s5 c E L r τ) (ae:s5 c E L iG ns) (hU:c.ds= []:=by rfl):ad c (bodyPost c.P fn (jD c.X c.b5 c.iw ρ Lo)) .ret E L:=fun a W s=>by
 obtain⟨v,aD,aV⟩:=h a W s
 obtain⟨v2,a1,bo⟩:=ae a W s
 exact⟨s.tM hU,.tuple #[v,v2],by simp [tG,aQ,aD,a1],s.ends bb hs (by rw [rH]; exact⟨_,rfl,.cons aV (.cons bo .nil)⟩)⟩
theorem ad.Hb {fn:Func} {r iG qw:ResultVar} {τ ns AX:I} {δ:Type} {ρ:δ→I} {Lo:δ→List aO} (bb:δ) (hs:(Lo bb).Sublist L) (aQ:fn.results= #[r,iG,qw]) (rH:ρ bb= .cN [τ,ns,AX]) (h:s5 c E L r τ) (ae:s5 c E L iG ns) (aD:s5 c E L qw AX) (hU:c.ds= []:=by rfl):ad c (bodyPost c.P fn (jD c.X c.b5 c.iw ρ Lo)) .ret E L:=fun a W s=>by
 obtain⟨v,aA,f1⟩:=h a W s
 obtain⟨v2,aU,f2⟩:=ae a W s
 obtain⟨xq,cL,f3⟩:=aD a W s
 exact⟨s.tM hU,.tuple #[v,v2,xq],by simp [tG,aQ,aA,aU,cL],s.ends bb hs (by rw [rH]; exact⟨_,rfl,.cons f1 (.cons f2 (.cons f3 .nil))⟩)⟩
theorem sc:∀ {L:List aO} {i:Nat} {e:aO},L[i]? =some e→L.Perm (e :: L.eraseIdx i)
 | [],i,e,h=>by simp at h
 | x :: r,0,e,h=>by simp only [List.getElem?_cons_zero,Option.some.injEq] at h; subst h; exact .refl _
 | x :: r,i + 1,e,h=>by
   simp only [List.getElem?_cons_succ] at h
   exact((sc h).cons x).trans (.swap e x _)
theorem bS.bU {a:Act} {W:World} (s:bS c E L a W) {i:Nat} {e:aO} (h:L[i]? =some e):bS c E (e :: L.eraseIdx i) a W:=s.perm (sc h)
theorem aj.bU {l:List Oper} (i:Nat) {e:aO} (h:L[i]? =some e) (k:aj c ops Q l E (e :: L.eraseIdx i)):aj c ops Q l E L:=fun a W s=>k a W (s.bU h)
theorem ad.bU {z:Exit} (i:Nat) {e:aO} (h:L[i]? =some e) (k:ad c Q z E (e :: L.eraseIdx i)):ad c Q z E L:=fun a W s=>k a W (s.bU h)
theorem bS.after {a:Act} {W W':World} {Lin Lr:List aO} (s:bS c E (Lin ++ Lr) a W) {Lo:List aO} (a8:Fr (aP Lin) W W') (iM:(aP Lo).Nodup)
 (av:∀ k∈aP Lo,k < W'.heap.size∧ (k < W.heap.size→k∈aP Lin)∧k ∉ aP Lr ++ c.b5) (hV:∀ e∈Lo,e.ok (aP Lo ++ (aP Lr ++ c.b5)) W'):bS c E (Lo ++ Lr) a W':=by
 have g1:Ext (aP (Lin ++ Lr) ++ c.b5) W (aP (Lo ++ Lr) ++ c.b5) W':=
  ⟨a8.size,fun k cw bn=>a8.block k cw fun hm=>bn (by rw [e6]; simp [hm]),fun k hm cw=>by
   rw [e6] at hm ⊢
   simp only [List.mem_append] at hm ⊢
   rcases hm with(hm | hm) | hm
   ·exact .inl (.inl ((av k hm).2.1 cw))
   ·exact .inl (.inr hm)
   ·exact .inr hm⟩
 have lE:=s.nodup
 rw [e6] at lE
 obtain⟨mQ,qn,pw⟩:=List.nodup_append.1 lE
 have OW:∀ k∈aP Lr,k < W.heap.size∧k ∉ aP Lin:=fun k hm=>⟨s.lt k (by rw [e6]; exact List.mem_append.2 (.inr hm)),fun h=>pw k h k hm rfl⟩
 exact
 {defers:=s.defers
  size:=s.size
  env:=fun t τ ao=>let⟨v,aa,ae⟩:=s.env t τ ao; ⟨v,aa,τ.mono g1 ae⟩
  dD:=⟨a8.os.trans s.dD.os,a8.tape.trans s.dD.tape,a8.output.trans s.dD.output,Nat.le_trans s.dD.size a8.size,fun k cw aq=>
   (a8.block k (Nat.lt_of_lt_of_le cw s.dD.size) fun hm=>aq (s.fY k (by rw [e6]; exact List.mem_append.2 (.inl hm)) cw)).trans (s.dD.block k cw aq)⟩
  own:=fun e he=>by
   rcases List.mem_append.1 he with he | he
   ·have:=hV e he
    refine aO.sr this (.drop fun k hm=> ?_) fun _ _=>rfl
    rw [e6] at hm
    simp only [List.mem_append] at hm ⊢
    rcases hm with(hm | hm) | hm
    ·exact .inl hm
    ·exact .inr (.inl hm)
    ·exact .inr (.inr hm)
   ·exact aO.sr (s.own e (List.mem_append.2 (.inr he))) g1 fun p hp=>by
     have:=OW p (kG.2 ⟨e,he,hp⟩)
     exact a8.block p this.1 this.2
  nodup:=by
   rw [e6]
   exact List.nodup_append.2 ⟨iM,qn,fun k aa j ae e=>by subst e; exact(av k aa).2.2 (List.mem_append.2 (.inl ae))⟩
  lt:=fun k hm=>by
   rw [e6] at hm
   rcases List.mem_append.1 hm with hm | hm
   ·exact(av k hm).1
   ·exact Nat.lt_of_lt_of_le (OW k hm).1 a8.size
  fY:=fun k hm bW=>by
   rw [e6] at hm
   have cw:k < W.heap.size:=Nat.lt_of_lt_of_le bW s.dD.size
   rcases List.mem_append.1 hm with hm | hm
   ·exact s.fY k (by rw [e6]; exact List.mem_append.2 (.inl ((av k hm).2.1 cw))) bW
   ·exact s.fY k (by rw [e6]; exact List.mem_append.2 (.inr hm)) bW
  eU:=fun k hm=>by
   obtain⟨aa,ae⟩:=s.eU k hm
   refine⟨Nat.lt_of_lt_of_le aa a8.size,fun h=> ?_⟩
   rw [e6] at h ae
   rcases List.mem_append.1 h with h | h
   ·exact(av k h).2.2 (List.mem_append.2 (.inr hm))
   ·exact ae (List.mem_append.2 (.inr h)) }
theorem hA.MQ {xs:List Operand} {τs:List I} (h:hA c E L xs τs) {a:Act} {W:World} (s:bS c E L a W):gq (aP L ++ c.b5) W τs (xs.map a.eval):=h.holds a W s
theorem yM {a:Act} {W:World} {f:FuncId} {xs:List Operand} {ats:Array TypeId} {τs:List I} {Lin Lr:List aO} {δ:Type} {ρ:δ→I} {Lo:δ→List aO} (ea:bT c.P f) (h:cy c.P f τs Lin ρ Lo)
 (s:bS c E (Lin ++ Lr) a W) (aq:gq (aP (Lin ++ Lr) ++ c.b5) W τs (xs.map a.eval)):
 gw c.P ⟨d,.call ⟨.value (.func f),xs.toArray,ats⟩,ty,pos,af,g⟩ a W fun v W'=> ∃ bb,bS c E (Lo bb ++ Lr) a W'∧ (ρ bb).holds (aP (Lo bb ++ Lr) ++ c.b5) W' v:=by
 have lE:=s.nodup
 rw [e6] at lE
 obtain⟨mQ,qn,pw⟩:=List.nodup_append.1 lE
 have lF:Ext (aP (Lin ++ Lr) ++ c.b5) W (aP Lin ++ (aP Lr ++ c.b5)) W:= .drop fun k hm=>by
  rw [e6]
  simp only [List.mem_append] at hm ⊢
  rcases hm with hm | hm | hm
  ·exact .inl (.inl hm)
  ·exact .inl (.inr hm)
  ·exact .inr hm
 have fV:∀ k∈aP Lr ++ c.b5,k < W.heap.size∧k ∉ aP Lin:=fun k hm=>by
  rcases List.mem_append.1 hm with hm | hm
  ·exact⟨s.lt k (by rw [e6]; exact List.mem_append.2 (.inr hm)),fun h=>pw k h k hm rfl⟩
  ·obtain⟨aa,ae⟩:=s.eU k hm
   exact⟨aa,fun h=>ae (by rw [e6]; exact List.mem_append.2 (.inl h))⟩
 have cw:∀ k∈aP Lin,k < W.heap.size:=fun k hm=>s.lt k (by rw [e6]; exact List.mem_append.2 (.inl hm))
 refine .tN (f:=f) (args:=(xs.map a.eval).toArray) (W':=W) (by simp [execOp,resolve,Deferred.ofValue,Act.eval,invoke,ea.run]) ?_
 refine(h (aP Lr ++ c.b5) W (xs.map a.eval) fV mQ cw (fun e he=>aO.sr (s.own e (List.mem_append.2 (.inl he))) lF fun _ _=>rfl) (aq.mono lF)).mono fun e W' ⟨v,bb,he,a8,aa,ae,aD,aV⟩=> ?_
 refine⟨v,he,bb,s.after a8 aa ae aD,(ρ bb).mono (.drop fun k hm=> ?_) aV⟩
 rw [e6] at hm
 simp only [List.mem_append] at hm ⊢
 rcases hm with(hm | hm) | hm
 ·exact .inl hm
 ·exact .inr (.inl hm)
 ·exact .inr (.inr hm)
theorem aj.l6 {rest:List Oper} {bb:Nat} {f:FuncId} {xs:List Operand} {ats:Array TypeId} {τs:List I} {Lin Lr:List aO} {δ:Type} {ρ:δ→I} {Lo:δ→List aO} (ea:bT c.P f) (h:cy c.P f τs Lin ρ Lo)
 (aq:hA c E (Lin ++ Lr) xs τs) (aR:Nat.blt bb c.n=true) (k:∀ q,aj c ops Q rest ((bb,ρ q) :: E) (Lo q ++ Lr)):
 aj c ops Q (⟨some bb,.call ⟨.value (.func f),xs.toArray,ats⟩,ty,pos,af,none⟩ :: rest) E (Lin ++ Lr):=fun a W s=>
 h6 rfl (yM ea h s (aq.holds a W s)) fun v W' ⟨q,ca,aX⟩=>k q _ _ (ca.put (by simpa using aR) aX)
end
end Gv
namespace Gv
open Go
set_option linter.unusedVariables false
set_option linter.unusedSimpArgs false
def hk {α:Type} (xs:List α) (k:Nat) (v:α):List α:=xs.set k v
section
variable {c:dh} {E:List (Nat × I)} {L:List aO} {ops:Array Oper} {Q:Exit→Act→World→Prop}
variable {d:Option Tmp} {ty:TypeId} {pos:String} {af:Array Edge} {g:Option (Nat × Bool)} {x y:Operand} {t t2:TypeId}
theorem bS.rowAt {a:Act} {W:World} (s:bS c E L a W) {i:Nat} {key:Option Nat} {T cap:Nat} {α:Type} [ai α] {xs:List α} (au:L[i]? =some ⟨key,.row T xs cap⟩) (aq:0 < xs.length):
 ∃ p cs,key=some p∧W.heap[p]? =some (.cells cs T (0,0))∧cs.size=cap * ai.size α∧xs.length≤cap∧cap≤maxLen∧gv (aP L ++ c.b5) W (cs.toList.take (xs.length * ai.size α)) xs:=by
 have bp:=s.own _ (List.mem_of_getElem? au)
 cases key with
 | none=>have:xs= []:=bp.1; subst this; simp at aq
 | some p=>
   obtain⟨o,eu,cs,rfl,aa,ae,aD,aV⟩:=bp
   exact⟨p,cs,rfl,eu,aa,ae,aD,aV⟩
theorem p0 {e i k T cap:Nat} {key:Option Nat} {α:Type} [ai α] {xs:List α} {z:Int} (hu:c.P.underlying t=some (.slice e)) (fC:bA c.P e α) (aq:bc c E L x (.eq (a0 key xs.length cap))) (a6:bc c E L y (.of z))
 (au:L[i]? =some ⟨key,.row T xs cap⟩) (av:k < xs.length∧z=k):b7 c E L ⟨d,.indexAddr t x y,ty,pos,af,g⟩ (.eq (.pointer (some ⟨key.getD 0,k * ai.size α,none⟩))):= .pure fun a W s=>by
 obtain⟨bo,rfl⟩:=av
 obtain⟨p,cs,rfl,_⟩:=s.rowAt au (by omega)
 have aa:a.eval x=_:=aq a W s
 have a1:=of_int.1 (a6 a W s)
 obtain⟨gp,ef,eV⟩:=fC.info
 exact⟨_,by simp [execOp,Instr.indexAt,asIntOf,run_underlying hu,aa,a1,bo,Go.sizeOf,typeInfo,ef,eV,jh,a0]; rfl,by simp [I.eq]⟩
theorem wi {k n s:Nat} (h:k < n):k * s + s≤n * s:=by rw [← Nat.succ_mul]; exact Nat.mul_le_mul_right _ h
theorem CX {i k T cap o:Nat} {key:Option Nat} {α γ:Type} [ai α] [Inhabited α] [ai γ] {xs:List α} (l:aL α γ) {r:γ} (eh:bA c.P t γ) (aq:bc c E L x (.eq (.pointer (some ⟨key.getD 0,o,none⟩))))
 (au:L[i]? =some ⟨key,.row T xs cap⟩) (av:k < xs.length) (bp:o=k * ai.size α + l.off) (aQ:l.get (ax xs k)=r):b7 c E L ⟨d,.load t x,ty,pos,af,g⟩ (.of r):= .pure fun a W s=>by
 subst bp; subst aQ
 obtain⟨p,cs,rfl,eu,aa,ae,aD,aV⟩:=s.rowAt au (by omega)
 have e3:=wi (s:=ai.size α) av
 have ao:=l.gl
 have hle:xs.length * ai.size α≤cap * ai.size α:=Nat.mul_le_mul_right _ ae
 have fL:=l.il (aV.2 k av)
 rw [tC _ _ _ _ _ l.gl,List.drop_take,List.take_take,Nat.min_eq_left (by omega)] at fL
 rw [ey xs av]
 obtain⟨v,a1,bo⟩:=tx (A:=aP L ++ c.b5) eh eu (off:=k * ai.size α + l.off) (by omega) fL
 have cX:a.eval x=_:=aq a W s
 simp only [Option.getD_some] at cX
 exact⟨v,by simp [execOp,Instr.loadAt,Instr.sureAddr,cX,a1],bo⟩
theorem aj.wc {rest:List Oper} {i k T cap o:Nat} {key:Option Nat} {α γ:Type} [ai α] [Inhabited α] [ai γ] {xs r:List α} {v:γ} (l:aL α γ) (eh:bA c.P t γ) (aq:bc c E L x (.eq (.pointer (some ⟨key.getD 0,o,none⟩)))) (a6:bc c E L y (.of v))
 (au:L[i]? =some ⟨key,.row T xs cap⟩) (av:k < xs.length) (bp:o=k * ai.size α + l.off) (aQ:hk xs k (l.set (ax xs k) v)=r)
 (k':aj c ops Q rest E (L.set i ⟨key,.row T r cap⟩)):aj c ops Q (⟨none,.store t x y,ty,pos,af,none⟩ :: rest) E L:=fun a W s=>by
 subst bp; subst aQ
 obtain⟨p,cs,rfl,eu,aa,ae,aD,aV⟩:=s.rowAt au (by omega)
 have e3:=wi (s:=ai.size α) av
 have ao:=l.gl
 have hle:xs.length * ai.size α≤cap * ai.size α:=Nat.mul_le_mul_right _ ae
 have aX:=a6 a W s
 have xf:(a.eval y).cells.toList.length=ai.size γ:=ai.len aX.2
 have a1:=yp (A:=aP L ++ c.b5) eh eu (off:=k * ai.size α + l.off) (by omega) aX
 have cX:a.eval x=_:=aq a W s
 simp only [Option.getD_some] at cX
 refine h6 rfl (R:=fun v W'=>W'=W.setRow p (fR cs.toList (k * ai.size α + l.off) (a.eval y).cells.toList).toArray) (.v8 ?_ rfl) fun u W' hw=> ?_
 ·simp [execOp,Instr.storeAt,Instr.sureAddr,cX,a1]
 ·subst hw
  refine k' _ _ (s.store au eu ?_)
  have lO:cs.toList.length=cap * ai.size α:=by simpa using aa
  have lN:(fR cs.toList (k * ai.size α + l.off) (a.eval y).cells.toList).length=cs.toList.length:=by
   simp only [fR,List.length_append,List.length_take,List.length_drop,xf]; omega
  refine⟨_,rfl,by simpa [lO] using lN,by simpa [hk] using ae,aD,?_⟩
  have az:=aV.2 k av
  have a5:=l.kF az aX.2
  have bu:=FU aV av a5
  have lP:(cs.toList.take (xs.length * ai.size α)).length=xs.length * ai.size α:=by rw [List.length_take]; omega
  rw [K4 _ _ _ _ _ _ l.gl (by omega)] at bu
  have hlen:(hk xs k (l.set (ax xs k) v)).length=xs.length:=by simp [hk]
  rw [hlen,List.toList_toArray]
  have e:(fR cs.toList (k * ai.size α + l.off) (a.eval y).cells.toList).take (xs.length * ai.size α)=
   (cs.toList.take (xs.length * ai.size α)).take (k * ai.size α + l.off) ++ (a.eval y).cells.toList ++ (cs.toList.take (xs.length * ai.size α)).drop (k * ai.size α + l.off + ai.size γ):=by
   have aA:(cs.toList.take (k * ai.size α + l.off)).length=k * ai.size α + l.off:=by rw [List.length_take]; omega
   have aU:(cs.toList.take (k * ai.size α + l.off) ++ (a.eval y).cells.toList).length=k * ai.size α + l.off + ai.size γ:=by rw [List.length_append,aA,xf]
   rw [fR,xf,List.take_append,aU,List.take_of_length_le (by omega),List.take_take,Nat.min_eq_left (by omega),List.drop_take]
  rw [e,show hk xs k (l.set (ax xs k) v)=xs.set k (l.set xs[k] v) by rw [hk,ey xs av]]
  exact bu
def iD (key:Option Nat) (lo n cap size:Nat):Value:=match key with
 | some p=> .slice (some (if cap=lo then⟨p,0,none⟩ else⟨p,lo * size,none⟩)) n (cap - lo)
 | none=> .slice none 0 0
theorem yO {key:Option Nat} {n cap size:Nat} :iD key 0 n cap size=a0 key n cap:=by
 cases key <;> simp [iD,a0]
theorem CN {i T cap:Nat} {key:Option Nat} {α:Type} [ai α] {xs:List α} {e:TypeId} {lo an:Option Operand} {m n:Nat} {BA BB:Int} (hu:c.P.underlying t=some (.slice e)) (fC:bA c.P e α) (aq:bc c E L x (.eq (a0 key xs.length cap)))
 (au:L[i]? =some ⟨key,.row T xs cap⟩) (hC:tg c E L lo BA 0) (er:tg c E L an BB xs.length) (hm:BA=m) (aR:BB=n) (h:m≤n∧n≤xs.length):
 b7 c E L ⟨d,.slice t x lo an none,ty,pos,af,g⟩ (.eq (iD key m (n - m) cap (ai.size α))):= .pure fun a W s=>by
 subst hm; subst aR
 obtain⟨uU,nt⟩:=h
 obtain⟨gp,ef,eV⟩:=fC.info
 have aa:a.eval x=_:=aq a W s
 have bp:=s.own _ (List.mem_of_getElem? au)
 cases key with
 | none=>
   have iF:xs= []:=bp.1
   subst iF
   have s0:n=0:=by simpa using nt
   have hr:m=0:=by omega
   subst s0
   subst hr
   refine⟨.slice none 0 0,?_,rfl⟩
   have au:(match lo.map a.eval with | some v=>Instr.sliceBound v 0 .sliceB | none=>pure 0:Sem Nat).run c.P W= .ok 0 W:=by
    cases hC with
    | none=>rfl
    | some ao=>exact pN (Nat.le_refl _) (of_int.1 (ao a W s))
   have jd:(match an.map a.eval,(none:Option Value) with | some v,some _=>Instr.sliceBound v 0 .slice3B | some v,none=>Instr.sliceBound v 0 .sliceAcap | none,none=>pure 0 | none,some _=>stuck "Slice: max without high" :Sem Nat).run c.P W= .ok 0 W:=by
    cases er with
    | none=>rfl
    | some ao=>exact pN (Nat.le_refl _) (of_int.1 (ao a W s))
   cases hC <;> cases er
   all_goals
    simp only [a0,execOp,Instr.sliceAt,Instr.slice,Instr.sliceBounds,aa,Sem.run_bind,run_underlying hu,Result.andThen_ok,Option.map_none,Option.map_some,Option.isSome_none,Bool.false_eq_true,if_false,if_true,Sem.run_pure] at au jd ⊢
    try simp only [au,jd,Result.andThen_ok,Go.sizeOf,typeInfo,Sem.run_bind,run_program,ef,Sem.run_pure]
    try simp [ef]
 | some p=>
   obtain⟨o,eu,cs,rfl,az,a5,bu,cM⟩:=bp
   refine⟨_,?_,rfl⟩
   simp only [iD]
   have au:∀ v,v=Value.int .i64 m→ (Instr.sliceBound v n .sliceB).run c.P W= .ok m W:=fun v aX=>pN uU aX
   have jd:∀ v,v=Value.int .i64 n→ (Instr.sliceBound v cap .sliceAcap).run c.P W= .ok n W:=fun v aX=>pN (by omega) aX
   generalize e3:(n:Int)=Pw at er
   generalize AZ:(m:Int)=Px at hC
   generalize A0:(xs.length:Int)=Py at er
   generalize OR:(0:Int)=Pz at hC
   cases hC with
   | none=>
     have hr:m=0:=by omega
     cases er with
     | none=>
       have nt:n=xs.length:=by omega
       subst nt
       subst hr
       simp [execOp,Instr.sliceAt,Instr.slice,Instr.sliceBounds,aa,a0,run_underlying hu,Go.sizeOf,typeInfo,ef,eV,jh]
     | some cC=>
       subst e3
       subst hr
       simp [execOp,Instr.sliceAt,Instr.slice,Instr.sliceBounds,aa,a0,run_underlying hu,Go.sizeOf,typeInfo,ef,eV,jh,jd _ (of_int.1 (cC a W s))]
   | some ao=>
     subst AZ
     cases er with
     | none=>
       have nt:n=xs.length:=by omega
       subst nt
       simp [execOp,Instr.sliceAt,Instr.slice,Instr.sliceBounds,aa,a0,run_underlying hu,Go.sizeOf,typeInfo,ef,eV,jh,au _ (of_int.1 (ao a W s))]
       split <;> rfl
     | some cC=>
       subst e3
       simp [execOp,Instr.sliceAt,Instr.slice,Instr.sliceBounds,aa,a0,run_underlying hu,Go.sizeOf,typeInfo,ef,eV,jh,au _ (of_int.1 (ao a W s)),jd _ (of_int.1 (cC a W s))]
       split <;> rfl
theorem bS.again {a:Act} {W:World} (s:bS c E L a W) {i:Nat} {key:Option Nat} {cp cp':dM} (au:L[i]? =some ⟨key,cp⟩) (h:∀ A W o,cp.holds A W o→cp'.holds A W o) (aR:cp.nf→cp'.nf):bS c E (L.set i ⟨key,cp'⟩) a W:=by
 have g5:aP (L.set i ⟨key,cp'⟩)=aP L:=wh (e:=⟨key,cp⟩) (cp:=cp') au
 exact
 {defers:=s.defers
  size:=s.size
  env:=fun t τ ao=>by rw [g5]; exact s.env t τ ao
  dD:=s.dD
  own:=fun e he=>by
   rw [g5]
   obtain⟨j,aE⟩:=List.mem_iff_getElem?.1 he
   rw [List.getElem?_set] at aE
   split at aE
   ·split at aE
    ·simp only [Option.some.injEq] at aE
     subst aE
     have bp:=s.own _ (List.mem_of_getElem? au)
     cases key with
     | none=>exact aR bp
     | some p=>obtain⟨o,aa,ae⟩:=bp; exact⟨o,aa,h _ _ _ ae⟩
    ·cases aE
   ·exact s.own e (List.mem_of_getElem? aE)
  nodup:=by rw [g5]; exact s.nodup
  lt:=by rw [g5]; exact s.lt
  fY:=by rw [g5]; exact s.fY
  eU:=by rw [g5]; exact s.eU }
theorem FW {T cap n:Nat} {α:Type} [ai α] {xs:List α} (aR:n≤xs.length) {A W o} (h:(dM.row T xs cap).holds A W o):(dM.row T (xs.take n) cap).holds A W o:=by
 obtain⟨cs,rfl,aa,ae,aD,aV⟩:=h
 have ao:(xs.take n).length=n:=by rw [List.length_take]; omega
 have hle:n * ai.size α≤xs.length * ai.size α:=Nat.mul_le_mul_right _ aR
 have D0:xs.length * ai.size α≤cap * ai.size α:=Nat.mul_le_mul_right _ ae
 refine⟨cs,rfl,aa,by omega,aD,?_⟩
 rw [ao]
 have lO:cs.toList.length=cap * ai.size α:=by simpa using aa
 refine⟨by rw [List.length_take,ao]; omega,fun i an=> ?_⟩
 have jr:i < n:=by omega
 have e3:=wi (s:=ai.size α) jr
 have:=aV.2 i (by omega)
 rw [List.drop_take,List.take_take,Nat.min_eq_left (by omega)] at this ⊢
 rw [List.getElem_take]
 exact this
theorem aj.VG {l:List Oper} {i T cap n:Nat} {key:Option Nat} {α:Type} [ai α] {xs r:List α} (bb:Nat) (ao:look E bb=some (.eq (iD key 0 (n - 0) cap (ai.size α)))) (au:L[i]? =some ⟨key,.row T xs cap⟩) (aR:n≤xs.length) (aQ:xs.take n=r)
 (k:aj c ops Q l ((bb,.eq (a0 key r.length cap)) :: E) (L.set i ⟨key,.row T r cap⟩)):aj c ops Q l E L:=fun a W s=>by
 subst aQ
 have hlen:(xs.take n).length=n:=by rw [List.length_take]; omega
 have ca:=s.again au (fun _ _ _ h=>FW aR h) (cp':= .row T (xs.take n) cap) (fun⟨aa,ae⟩=>⟨by rw [aa]; simp,ae⟩)
 refine k a W { ca with env:=fun t τ ej=> ?_ }
 simp only [look] at ej
 by_cases e:Nat.beq bb t=true
 ·rw [e] at ej
  simp only [cond_true,Option.some.injEq] at ej
  subst ej
  have:=fc.1 e
  subst this
  obtain⟨v,aa,ae⟩:=s.env bb _ ao
  refine⟨v,aa,?_⟩
  have kt:v=_:=ae
  rw [Nat.sub_zero,yO] at kt
  rw [hlen]
  exact kt
 ·simp only [Bool.not_eq_true] at e
  rw [e] at ej
  exact ca.env t τ ej
end
end Gv
namespace Gv
open Go
set_option linter.unusedVariables false
set_option linter.unusedSimpArgs false
def nM {α:Type} [Inhabited α] (xs:List α) (lo n:Nat):List α:=xs.take lo ++ List.replicate n default ++ xs.drop (lo + n)
theorem K8 {α:Type} [ai α] {A W} {cs ds:List Value} {xs ys:List α} {lo:Nat} (h:gv A W cs xs) (cZ:gv A W ds ys) (av:lo + ys.length≤xs.length):
 gv A W (cs.take (lo * ai.size α) ++ ds ++ cs.drop (lo * ai.size α + ds.length)) (xs.take lo ++ ys ++ xs.drop (lo + ys.length)):=by
 have ao:=h.1
 have hle:lo * ai.size α≤xs.length * ai.size α:=Nat.mul_le_mul_right _ (by omega)
 have t1:gv A W (cs.take (lo * ai.size α)) (xs.take lo):=by
  have e:(xs.take lo).length=lo:=by rw [List.length_take]; omega
  refine⟨by rw [List.length_take,e]; omega,fun i an=> ?_⟩
  have jr:i < lo:=by omega
  have:=h.2 i (by omega)
  have e3:=wi (s:=ai.size α) jr
  rw [List.drop_take,List.take_take,Nat.min_eq_left (by omega),List.getElem_take]
  exact this
 have t3:gv A W (cs.drop (lo * ai.size α + ds.length)) (xs.drop (lo + ys.length)):=by
  have e:lo * ai.size α + ds.length=(lo + ys.length) * ai.size α:=by rw [cZ.1,Nat.add_mul]
  rw [e]
  refine⟨by rw [List.length_drop,List.length_drop,ao,← Nat.sub_mul],fun i an=> ?_⟩
  rw [List.length_drop] at an
  have:=h.2 (lo + ys.length + i) (by omega)
  rw [List.drop_drop,← Nat.add_mul,List.getElem_drop]
  exact this
 exact sb (sb t1 cZ) t3
section
variable {c:dh} {E:List (Nat × I)} {L:List aO} {ops:Array Oper} {Q:Exit→Act→World→Prop}
variable {d:Option Tmp} {ty:TypeId} {pos:String} {af:Array Edge} {g:Option (Nat × Bool)} {x y:Operand} {t t2:TypeId}
theorem aj.clear {rest:List Oper} {i e T cap lo n:Nat} {key:Option Nat} {α:Type} [ai α] [Inhabited α] {xs r:List α} (hu:c.P.underlying t=some (.slice e)) (fC:bA c.P e α) (gB:cQ c.P e (default:α)) (eV:Nat.beq (ai.size α) 0=false)
 (aq:bc c E L x (.eq (iD key lo n cap (ai.size α)))) (au:L[i]? =some ⟨key,.row T xs cap⟩) (aR:lo + n≤xs.length) (aQ:nM xs lo n=r)
 (k:aj c ops Q rest E (L.set i ⟨key,.row T r cap⟩)):aj c ops Q (⟨none,.call ⟨.builtin .clear,#[x],#[t]⟩,ty,pos,af,none⟩ :: rest) E L:=fun a W s=>by
 subst aQ
 have aa:a.eval x=_:=aq a W s
 have bp:=s.own _ (List.mem_of_getElem? au)
 have lF:∀ cp,L.set i ⟨key,cp⟩=L.set i ⟨key,cp⟩:=fun _=>rfl
 by_cases bW:n=0∨key=none
 ·have iF:nM xs lo n=xs:=by
   rcases bW with bW | bW
   ·subst bW; simp [nM]
   ·subst bW
    have:xs= []:=bp.1
    subst this
    have:n=0:=by simp at aR; omega
    subst this; simp [nM]
  have kK:(execOp a.eval ⟨none,.call ⟨.builtin .clear,#[x],#[t]⟩,ty,pos,af,none⟩).run c.P W= .ok (.value (.tuple #[])) W:=by
   rcases bW with bW | bW
   ·subst bW
    cases key <;> simp [execOp,resolve,invoke,builtin,Builtin.clear_,aa,iD,run_underlying hu]
   ·subst bW
    simp [execOp,resolve,invoke,builtin,Builtin.clear_,aa,iD,run_underlying hu]
  refine h6 rfl (R:=fun v W'=>W'=W) (.l5 kK rfl) fun v W' hw=> ?_
  subst hw
  rw [iF] at k
  have:L.set i ⟨key,.row T xs cap⟩=L:=by
   apply List.ext_getElem?
   intro j
   rw [List.getElem?_set]
   split
   ·rename_i fz; subst fz
    have:=(List.getElem?_eq_some_iff.1 au).1
    rw [if_pos this,au]
   ·rfl
  rw [this] at k
  exact k _ _ s
 ·have s0:0 < n:=by
   rcases Nat.eq_zero_or_pos n with h | h
   ·exact absurd (.inl h) bW
   ·exact h
  obtain⟨p,cs,rfl,eu,az,a5,bu,cM⟩:=s.rowAt au (by omega)
  obtain⟨gp,dX,ef,dI,IB⟩:=gB.zero
  have Ek:=IB (aP L ++ c.b5) W
  have Y1:dX.cells.toList.length=ai.size α:=ai.len Ek.2
  have jb:ai.size α≠0:=fun h=>by rw [h] at eV; cases eV
  have A4:=yQ Ek n jb
  have uW:dX.cells.size=ai.size α:=by simpa using Y1
  have IC:Builtin.zeroCells dX.cells n=(Array.range (n * ai.size α)).map (dX.cells[· % dX.cells.size]!):=by rw [Builtin.zeroCells,uW]
  rw [← IC] at A4
  generalize kB:(Builtin.zeroCells dX.cells n).toList=D at A4
  have aax:D.length=n * ai.size α:=by rw [A4.1]; simp
  have hC:cap≠lo:=by omega
  have hle:(lo + n) * ai.size α≤cap * ai.size α:=Nat.mul_le_mul_right _ (by omega)
  rw [Nat.add_mul] at hle
  have kQ:=run_storeCells_at (P:=c.P) p (lo * ai.size α) _ D 0 cs W eu (by omega) A4.one
  have kK:(execOp a.eval ⟨none,.call ⟨.builtin .clear,#[x],#[t]⟩,ty,pos,af,none⟩).run c.P W= .ok (.value (.tuple #[])) (W.setRow p (fR cs.toList (lo * ai.size α) D).toArray):=by
   obtain⟨m,rfl⟩:∃ m,n=m + 1:=⟨n - 1,by omega⟩
   simp only [Nat.add_zero] at kQ
   simp [execOp,resolve,invoke,builtin,Builtin.clear_,aa,iD,run_underlying hu,hC,zeroValue,typeInfo,run_program,ef,dI,kB,kQ,fR]
  refine h6 rfl (R:=fun v W'=>W'=W.setRow p (fR cs.toList (lo * ai.size α) D).toArray) (.l5 kK rfl) fun v W' hw=> ?_
  subst hw
  refine k _ _ (s.store au eu ?_)
  have lO:cs.toList.length=cap * ai.size α:=by simpa using az
  have hlen:(nM xs lo n).length=xs.length:=by simp [nM]; omega
  have lP:(cs.toList.take (xs.length * ai.size α)).length=xs.length * ai.size α:=by
   rw [List.length_take]
   have:xs.length * ai.size α≤cap * ai.size α:=Nat.mul_le_mul_right _ a5
   omega
  have Yf:(lo + n) * ai.size α≤xs.length * ai.size α:=Nat.mul_le_mul_right _ aR
  rw [Nat.add_mul] at Yf
  have aal:xs.length * ai.size α≤cap * ai.size α:=Nat.mul_le_mul_right _ a5
  refine⟨_,rfl,?_,by rw [hlen]; exact a5,bu,?_⟩
  ·simp only [List.size_toArray,fR,List.length_append,List.length_take,List.length_drop]; omega
  ·rw [hlen,List.toList_toArray]
   have gO:=K8 (lo:=lo) cM A4 (by simpa using aR)
   have e:(fR cs.toList (lo * ai.size α) D).take (xs.length * ai.size α)=(cs.toList.take (xs.length * ai.size α)).take (lo * ai.size α) ++ D ++ (cs.toList.take (xs.length * ai.size α)).drop (lo * ai.size α + D.length):=by
    have aA:(cs.toList.take (lo * ai.size α)).length=lo * ai.size α:=by rw [List.length_take]; omega
    have aU:(cs.toList.take (lo * ai.size α) ++ D).length=lo * ai.size α + D.length:=by rw [List.length_append,aA]
    rw [fR,List.take_append,aU,List.take_of_length_le (by omega),List.take_take,Nat.min_eq_left (by omega),List.drop_take]
   rw [e]
   simpa [nM] using gO
theorem bS.share {a:Act} {W:World} (s:bS c E L a W) {i fo p:Nat} {α:Type} [ai α] {z:α} (ao:look E fo=some (.eq (.pointer (some ⟨p,0,none⟩)))) (au:L[i]? =some ⟨some p,.var z⟩):bS c ((fo,.ptr z) :: E) (L.set i ⟨none,.dead⟩) a W:=by
 have av:=s.kill i
 refine { av with env:=fun t τ ej=> ?_ }
 simp only [look] at ej
 by_cases e:Nat.beq fo t=true
 ·rw [e] at ej
  simp only [cond_true,Option.some.injEq] at ej
  subst ej
  have:=fc.1 e
  subst this
  obtain⟨v,aa,ae⟩:=s.env fo _ ao
  have kt:v=_:=ae
  subst kt
  obtain⟨o,eu,cs,T,rfl,aQ⟩:=s.own _ (List.mem_of_getElem? au)
  have hlen:cs.toList.length=ai.size α:=ai.len aQ
  refine⟨_,aa,p,0,cs,T,(0,0),rfl,s.yW au,eu,by simp at hlen; omega,?_⟩
  rw [List.drop_zero,← hlen,List.take_length]
  have kJ:=vE (L:=L) (i:=i) (cp:= .dead)
  exact ai.mono (.drop fun k hm=>by
   rcases List.mem_append.1 hm with hm | hm
   ·exact List.mem_append.2 (.inl (kJ.subset hm))
   ·exact List.mem_append.2 (.inr hm)) aQ
 ·simp only [Bool.not_eq_true] at e
  rw [e] at ej
  exact av.env t τ ej
theorem aj.share {l:List Oper} {p:Nat} {α:Type} [ai α] {z:α} (i fo:Nat) (ao:look E fo=some (.eq (.pointer (some ⟨p,0,none⟩)))) (au:L[i]? =some ⟨some p,.var z⟩) (k:aj c ops Q l ((fo,.ptr z) :: E) (L.set i ⟨none,.dead⟩)):aj c ops Q l E L:=
 fun a W s=>k a W (s.share ao au)
theorem ah.share {code:Code} {p:Nat} {α:Type} [ai α] {z:α} (i fo:Nat) (ao:look E fo=some (.eq (.pointer (some ⟨p,0,none⟩)))) (au:L[i]? =some ⟨some p,.var z⟩) (k:ah c Q code ((fo,.ptr z) :: E) (L.set i ⟨none,.dead⟩)):ah c Q code E L:=
 fun a W s=>k a W (s.share ao au)
theorem wa {α β:Type} [ai α] [ai β] {F:α→Option β} {f:FuncId} {xs:List Operand} {τs:List I} (ea:bT c.P f) (aq:hA c E L xs τs) (h:∀ x r,F x=some r→bw c.P f (.of x :: τs) (.of r)):
 b7 c E L ⟨d,.makeFunc (.func f) #[] xs.toArray,ty,pos,af,g⟩ (.pe c.P F):= .pure fun a W s=>by
 have cC:=aq.holds a W s
 refine⟨.func (.func f) #[] (xs.map a.eval).toArray,by simp [execOp,Instr.makeFunc],f,_,_,rfl,ea,fun c7 W' e fV x r n9 mT aX=> ?_⟩
 simpa using h x r mT c7 W' (n9 :: xs.map a.eval) fV (.cons aX (cC.mono e))
def I.Flat (τ:I):Prop:= ∀ A W c7 W' v,τ.holds A W v→τ.holds c7 W' v
theorem CI {b:Bool} :(I.of b).Flat:=fun _ _ _ _ _ h=>h
theorem tL {b:Int} :(I.of b).Flat:=fun _ _ _ _ _ h=>h
theorem b7.XE {o:Oper} {τ:I} {T cap:Nat} {key:Option Nat} {α:Type} [ai α] {xs:List α} (i s:Nat) (ao:look E s=some (.eq (a0 key xs.length cap))) (au:L[i]? =some ⟨key,.row T xs cap⟩) (a8:τ.Flat)
 (h:b7 c ((s,.of xs) :: E) (L.set i ⟨none,.dead⟩) o τ):b7 c E L o τ:=fun a W st=>by
 have:=h a W (st.freeze ao au)
 unfold gw at this ⊢
 exact Oper.wp_mono (fun ie W' ⟨v,aa,ae,aD⟩=>⟨v,aa,ae,a8 _ _ _ _ _ aD⟩) this
def I.Ov {α:Type} (xs:List α):I where
 holds _ _ v:= ∃ b:Bool,v= .bool b∧ (b=true→xs= [])
 mono _ h:=h
theorem KO {P:Program} {e:TypeId} (W:World) (d:Nat) {t:TypeId} (a:Option Addr) (l cp:Nat) (h:P.underlying t=some (.slice e)):(Op.equalIn (d + 1) t (.slice a l cp) (.slice none 0 0)).run P W= .ok a.isNone W:=by
 cases a <;> simp [Op.equalIn,run_underlying h]
theorem GX {α:Type} [ai α] {xs:List α} {e:TypeId} (hu:c.P.underlying t=some (.slice e)) (aq:bc c E L x (.of xs)):b7 c E L ⟨d,.binOp .eql t x (.const (.slice none 0 0)) t2,ty,pos,af,g⟩ (.Ov xs):= .pure fun a W s=>by
 have aR:a.eval (.const (.slice none 0 0))= .slice none 0 0:=rfl
 rcases mw.1 (aq a W s) with⟨aa,rfl⟩ | ⟨b,off,cap,cur,T,gP,aa,ae⟩
 ·exact⟨.bool true,by
   simp only [execOp,eqGuard,binOp,aa,aR,Op.equal,Op.maxDepth]
   simp [KO W 9999 none 0 0 hu],true,rfl,fun _=>rfl⟩
 ·exact⟨.bool false,by
   simp only [execOp,eqGuard,binOp,aa,aR,Op.equal,Op.maxDepth]
   simp [KO W 9999 (some ⟨b,off,none⟩) xs.length cap hu],false,rfl,fun h=>by cases h⟩
theorem ah.GY {α:Type} {y z:Code} {xs:List α} (ao:bc c E L x (.Ov xs)) (cj:xs= []→ah c Q y E L) (a8:ah c Q z E L):ah c Q (.cond x y z) E L:=fun a W s=>by
 obtain⟨b,aa,ae⟩:=ao a W s
 exact wpIn_cond_split aa (fun h=>cj (ae h) a W s) (fun _=>a8 a W s)
end
def Aw (n:Nat) (lo an:Int):Option (Nat × Nat):=if 0≤lo∧lo≤an∧an≤n then some (lo.toNat,an.toNat) else none
theorem vS {n:Nat} {lo an:Int} {y:Nat × Nat} (h:Aw n lo an=some y):lo=y.1∧an=y.2∧y.1≤y.2∧y.2≤n:=by
 unfold Aw at h
 split at h
 ·rename_i ar
  simp only [Option.some.injEq] at h
  subst h
  simp only
  omega
 ·cases h
end Gv
namespace Gv
open Go
set_option linter.unusedVariables false
set_option linter.unusedSimpArgs false
def bB (c:dh) (ops:Array Oper) (Q:Exit→Act→World→Prop) (f:Nat) (b4:Array Bool) (E:List (Nat × I)) (L:List aO):Prop:=
 ∀ a W,bS c E L a W→wpAnyIn c.F 9 c.P .any ops Q f b4 a W
def qx (K:Act→World→Prop) (Q:Exit→Act→World→Prop):Exit→Act→World→Prop
 | .normal,a,W=>K a W
 | x,a,W=>Q x a W
section
variable {c:dh} {E:List (Nat × I)} {L:List aO} {ops:Array Oper} {Q:Exit→Act→World→Prop}
theorem qx.out {K:Act→World→Prop} (h:LetsOut (qx K Q)):LetsOut Q:=h
theorem Oper.SG {F:Fence} {n:Nat} {P:Program} {o:Oper} {a:Act} {K:Act→World→Prop} {r:Result Next} (h:o.uponIn F n P a K (qx K Q) r):o.uponIn F n P a K Q r:=by
 cases r with
 | ok m u9=>
   cases m <;> simp only [Oper.uponIn] at h ⊢ <;>
    first
     | exact h
     | exact⟨h.1,CallsIn.mono h.2 (fun e sV he=>by cases e <;> exact he)⟩
     | exact⟨h.1,RoundIn.mono h.2 (fun e sV he=>by cases e <;> exact he)⟩
 | halt x u9=>cases x <;> simp only [Oper.uponIn] at h ⊢ <;> exact h
theorem Kv {i:Nat} {o:Oper} {K:Act→World→Prop} {a:Act} {W:World} (an:ops[i]? =some o) (h:c.rA ops (qx K Q) [o] a W):wpOpIn c.F 9 c.P ops Q i K a W:=by
 unfold wpOpIn
 simp only [an]
 simp only [dh.rA,wpListIn] at h
 split
 ·rename_i hw
  rw [if_pos hw] at h
  exact⟨h.1,Oper.SG h.2⟩
 ·rename_i hw
  rw [if_neg hw] at h
  exact h
def z5 (c:dh) (ops:Array Oper) (Q:Exit→Act→World→Prop) (f:Nat) (b4:Array Bool) (E:List (Nat × I)) (L:List aO):List Nat→Prop
 | []=>True
 | i :: r=>(∃ o,ops[i]? =some o∧aj c ops (qx (wpAnyIn c.F 9 c.P .any ops Q f (b4.setIfInBounds i true)) Q) [o] E L)∧z5 c ops Q f b4 E L r
theorem z5.get {f:Nat} {b4:Array Bool} :∀ {xu:List Nat},z5 c ops Q f b4 E L xu→ ∀ i∈xu,∃ o,ops[i]? =some o∧aj c ops (qx (wpAnyIn c.F 9 c.P .any ops Q f (b4.setIfInBounds i true)) Q) [o] E L
 | _ :: _,h,i,an=>by
   rcases List.mem_cons.1 an with rfl | an
   ·exact h.1
   ·exact z5.get h.2 i an
theorem bB.step {f:Nat} {b4:Array Bool} (xu:List Nat) (aQ:Region.ready .any ops b4=xu) (dz:xu.isEmpty=false) (h:z5 c ops Q f b4 E L xu):bB c ops Q (f + 1) b4 E L:=fun a W s=>
 ⟨fun bW=>(by rw [← aQ,bW] at dz; exact absurd dz (by simp)),fun i an=>(by
  rw [aQ] at an
  obtain⟨o,aa,ae⟩:=h.get i an
  exact Kv aa (ae a W s))⟩
theorem bB.le {f:Nat} {b4:Array Bool} {E':List (Nat × I)} (h:hv E E') (k:bB c ops Q f b4 E' L):bB c ops Q f b4 E L:=fun a W s=>k a W (s.less h.look)
theorem ad.any {f:Nat} {b4 y9:Array Bool} (ao:b4=y9) (k:bB c ops Q f y9 E L):ad c (qx (wpAnyIn c.F 9 c.P .any ops Q f b4) Q) .normal E L:=fun a W s=>by
 subst ao
 exact k a W s
theorem bB.cut {γ:Type} (xv:Nat) (y9:Array Bool) (E':γ→List (Nat × I)) (ay:γ→List aO) {f:Nat} {b4:Array Bool} (aa:∀ g,bB c ops Q xv y9 (E' g) (ay g))
 (ae:(∀ g,bB c ops Q xv y9 (E' g) (ay g))→bB c ops Q f b4 E L):bB c ops Q f b4 E L:=ae aa
theorem ah.NJ {rD:Nat} {l:List Oper} (hm:c.P.follows .mixedOrders=true) (n:Nat) (ls:Array Bool) (aR:l.length=n) (ID:Array.replicate n false=ls) (h:bB c l.toArray Q n ls E L):ah c Q (.region rD l.toArray true) E L:=fun a W s=>by
 subst aR ID
 refine wpIn_region_any hm ?_
 have:=h a W.drew (s.world (Fr.drew W))
 simpa using this
theorem ad.perm {x:Exit} {ay:List aO} (h:L.Perm ay) (k:ad c Q x E ay):ad c Q x E L:=fun a W s=>k a W (s.perm h)
end
end Gv
