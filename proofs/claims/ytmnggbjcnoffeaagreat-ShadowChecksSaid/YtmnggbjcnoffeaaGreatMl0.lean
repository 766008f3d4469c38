/-
  The library of the decompiler, as far as it is needed here. Conditions: none.
-/
import Derived.WalkKit
import Derived.StillTail
import Derived.OwnWalkIn
import Derived.RangeFuncNested
import Derived.RangeFuncLeaves
import Derived.RangeFuncCalls
import Derived.ChangeSame
import Derived.OpenShut
import Derived.Carry
import Derived.DataReads
namespace Gv
open Go
theorem CJ (w:World) (o:Obj) (i:Nat) (h:i < w.heap.size):(w.alloc o).heap[i]? =w.heap[i]? :=by
 show(w.heap.push o)[i]? =w.heap[i]?
 rw [Array.getElem?_push,if_neg (Nat.ne_of_lt h)]
theorem MR (w:World) (o:Obj):(w.alloc o).heap[w.heap.size]? =some o:=by
 show(w.heap.push o)[w.heap.size]? =some o
 simp
structure Fr (X:List Nat) (W W':World):Prop where
 os:W'.os=W.os
 tape:W'.tape=W.tape
 output:W'.output=W.output
 size:W.heap.size≤W'.heap.size
 block:∀ k,k < W.heap.size→k ∉ X→W'.heap[k]? =W.heap[k]?
theorem Fr.refl (X:List Nat) (W:World):Fr X W W:=⟨rfl,rfl,rfl,Nat.le_refl _,fun _ _ _=>rfl⟩
theorem Fr.trans {X:List Nat} {A B C:World} (h:Fr X A B) (k:Fr X B C):Fr X A C:=
 ⟨k.os.trans h.os,k.tape.trans h.tape,k.output.trans h.output,Nat.le_trans h.size k.size,
   fun i aj an=>(k.block i (Nat.lt_of_lt_of_le aj h.size) an).trans (h.block i aj an)⟩
theorem Fr.weaken {X Y:List Nat} {A B:World} (h:Fr X A B) (s:∀ k∈X,k∈Y):Fr Y A B:=
 ⟨h.os,h.tape,h.output,h.size,fun i aj an=>h.block i aj fun hm=>an (s _ hm)⟩
theorem Fr.nil {X:List Nat} {A B:World} (h:Fr [] A B):Fr X A B:=h.weaken (by simp)
theorem Fr.only {X Y:List Nat} {A B:World} (h:Fr X A B) (s:∀ k∈X,k < A.heap.size→k∈Y):Fr Y A B:=
 ⟨h.os,h.tape,h.output,h.size,fun i aj an=>h.block i aj fun hm=>an (s _ hm aj)⟩
theorem Fr.alloc {X:List Nat} (W:World) (o:Obj):Fr X W (W.alloc o):=
 ⟨rfl,rfl,rfl,by simp,fun k aq _=>CJ W o k aq⟩
theorem Fr.drew {X:List Nat} (W:World):Fr X W W.drew:=⟨rfl,rfl,rfl,Nat.le_refl _,fun _ _ _=>rfl⟩
theorem Fr.setRow {X:List Nat} (W:World) (g:Nat) (cs:Array Value) (h:g∈X):Fr X W (W.setRow g cs):=
 ⟨rfl,rfl,rfl,by simp,fun k _ an=>setRow_other W g k cs (fun e=>an (e ▸ h))⟩
structure Ext (A:List Nat) (W:World) (c0:List Nat) (W':World):Prop where
 size:W.heap.size≤W'.heap.size
 block:∀ k,k < W.heap.size→k ∉ A→W'.heap[k]? =W.heap[k]?
 new:∀ k∈c0,k < W.heap.size→k∈A
theorem Ext.refl (A:List Nat) (W:World):Ext A W A W:=⟨Nat.le_refl _,fun _ _ _=>rfl,fun _ h _=>h⟩
theorem Ext.trans {A B C:List Nat} {U V W:World} (h:Ext A U B V) (k:Ext B V C W):Ext A U C W:=
 ⟨Nat.le_trans h.size k.size,
  fun i aj a9=>(k.block i (Nat.lt_of_lt_of_le aj h.size) (fun hb=>a9 (h.new i hb aj))).trans (h.block i aj a9),
  fun i ao aj=>h.new i (k.new i ao (Nat.lt_of_lt_of_le aj h.size)) aj⟩
theorem Ext.Xd {A X:List Nat} {W W':World} (h:Fr X W W') (s:∀ k∈X,k∈A):Ext A W A W':=
 ⟨h.size,fun k aq a9=>h.block k aq fun an=>a9 (s k an),fun _ h _=>h⟩
theorem Ext.dw {A:List Nat} {W W':World} (h:Fr [] W W'):Ext A W A W':= .Xd h (by simp)
theorem Ext.drop {A c0:List Nat} {W:World} (s:∀ k∈c0,k∈A):Ext A W c0 W:=⟨Nat.le_refl _,fun _ _ _=>rfl,fun k h _=>s k h⟩
structure I where
 holds:List Nat→World→Value→Prop
 mono:∀ {A W c0 W' v},Ext A W c0 W'→holds A W v→holds c0 W' v
class ah (α:Type) where
 size:Nat
 agg:Bool
 rep:List Nat→World→List Value→α→Prop
 len:∀ {A W cs x},rep A W cs x→cs.length=size
 one:∀ {A W cs x},rep A W cs x→ ∀ v∈cs,v.oneCell'=true
 flat:agg=false→size=1
 mono:∀ {A W c0 W' cs x},Ext A W c0 W'→rep A W cs x→rep c0 W' cs x
def shaped (b:Bool) (v:Value):Prop:=if b=true then ∃ cs,v= .agg cs else v.oneCell'=true
theorem n6 {v:Value} (h:v.oneCell'=true):v.cells= #[v]:=by cases v <;> first | rfl | simp [Value.oneCell'] at h
def I.of {α:Type} [ah α] (x:α):I where
 holds A W v:=shaped (ah.agg α) v∧ah.rep A W v.cells.toList x
 mono e h:=⟨h.1,ah.mono e h.2⟩
def I.eq (u:Value):I where
 holds _ _ v:=v=u
 mono _ h:=h
def I.cond (c:Prop) (τ:I):I where
 holds A W v:=(c→τ.holds A W v)∧ (¬ c→v=undef)
 mono e h:=⟨fun ao=>τ.mono e (h.1 ao),h.2⟩
def I.any:I where
 holds _ _ _:=True
 mono _ h:=h
inductive gW (A:List Nat) (W:World):List I→List Value→Prop
 | nil:gW A W [] []
 | cons {τ v τs vs} :τ.holds A W v→gW A W τs vs→gW A W (τ :: τs) (v :: vs)
theorem gW.mono {A W c0 W'} (e:Ext A W c0 W'):∀ {τs vs},gW A W τs vs→gW c0 W' τs vs
 | _,_,.nil=> .nil
 | _,_,.cons h r=> .cons (I.mono _ e h) (r.mono e)
theorem gW.length {A W} :∀ {τs vs},gW A W τs vs→vs.length=τs.length
 | _,_,.nil=>rfl
 | _,_,.cons _ r=>by simp [r.length]
def I.eI (τs:List I):I where
 holds A W v:= ∃ vs:Array Value,v= .tuple vs∧gW A W τs vs.toList
 mono e h:=let⟨vs,a3,cE⟩:=h; ⟨vs,a3,cE.mono e⟩
def I.ptr {α:Type} [ah α] (x:α):I where
 holds A W v:= ∃ b off cur T hl,v= .pointer (some ⟨b,off,none⟩)∧b ∉ A∧W.heap[b]? =some (.cells cur T hl)∧off + ah.size α≤cur.size∧ah.rep A W ((cur.toList.drop off).take (ah.size α)) x
 mono e h:=by
  obtain⟨b,off,cur,T,hl,rfl,hb,cE,hs,aQ⟩:=h
  have cv:b < _:=(Array.getElem?_eq_some_iff.1 cE).1
  exact⟨b,off,cur,T,hl,rfl,fun hm=>hb (e.new b hm cv),by rw [e.block b cv hb]; exact cE,hs,ah.mono e aQ⟩
structure dB where
 holds:List Nat→World→Obj→Prop
 l1:Prop
 mono:∀ {A W c0 W' o},Ext A W c0 W'→holds A W o→holds c0 W' o
def dB.var {α:Type} [ah α] (x:α):dB where
 holds A W o:= ∃ cs T,o= .cells cs T (0,0)∧ah.rep A W cs.toList x
 l1:=False
 mono e h:=let⟨cs,T,bo,aQ⟩:=h; ⟨cs,T,bo,ah.mono e aQ⟩
def gi {α:Type} [ah α] (A:List Nat) (W:World) (cs:List Value) (xs:List α):Prop:=
 cs.length=xs.length * ah.size α∧ ∀ i (h:i < xs.length),ah.rep A W ((cs.drop (i * ah.size α)).take (ah.size α)) xs[i]
theorem gi.mono {α:Type} [ah α] {A W c0 W'} {cs:List Value} {xs:List α} (e:Ext A W c0 W') (h:gi A W cs xs):gi c0 W' cs xs:=
 ⟨h.1,fun i aj=>ah.mono e (h.2 i aj)⟩
def dB.row {α:Type} [ah α] (T:TypeId) (xs:List α) (cap:Nat):dB where
 holds A W o:= ∃ cs,o= .cells cs T (0,0)∧cs.size=cap * ah.size α∧xs.length≤cap∧cap≤maxLen∧gi A W (cs.toList.take (xs.length * ah.size α)) xs
 l1:=xs= []∧cap=0
 mono e h:=let⟨cs,J,ab,aE,aW,aX⟩:=h; ⟨cs,J,ab,aE,aW,aX.mono e⟩
def dB.dead:dB where
 holds _ _ _:=True
 l1:=True
 mono _ h:=h
structure aN where
 key:Option Nat
 cp:dB
def aN.ok (A:List Nat) (W:World) (e:aN):Prop:=
 match e.key with
 | some p=> ∃ o,W.heap[p]? =some o∧e.cp.holds A W o
 | none=>e.cp.l1
def aP:List aN→List Nat
 | []=> []
 | e :: r=>match e.key with
   | some p=>p :: aP r
   | none=>aP r
theorem kH {L:List aN} {k:Nat} :k∈aP L↔ ∃ e∈L,e.key=some k:=by
 induction L with
 | nil=>simp [aP]
 | cons e r bO=>
   cases aq:e.key with
   | none=>simp [aP,aq,bO]
   | some p=>simp [aP,aq,bO,eq_comm]
structure c8 where
 P:Program
 n:Nat
 iD:World
 X:List Nat
 b2:List Nat
 rd:Option Nat
 ds:List Nat
def Dn (D:Nat):Deferred:= { target:= .collected D,args:= #[] }
abbrev c8.F (c:c8):Fence:= { fn:=fun _=>True,depth:=none,alive:=false,round:=c.rd }
abbrev c8.wp (c:c8) (y:Code) (Q:Exit→Act→World→Prop):Act→World→Prop:=y.wpIn c.F 9 c.P Q
abbrev c8.p6 (c:c8) (ops:Array Oper) (Q:Exit→Act→World→Prop):List Oper→Act→World→Prop:=wpListIn c.F 9 c.P ops Q
def look:List (Nat × I)→Nat→Option I
 | [],_=>none
 | (s,τ) :: r,t=>bif Nat.beq s t then some τ else look r t
structure bG (c:c8) (E:List (Nat × I)) (L:List aN) (a:Act) (W:World):Prop where
 defers:a.defers=c.ds.map Dn
 size:a.tmps.size=c.n
 env:∀ t τ,look E t=some τ→ ∃ v,a.tmps[t]? =some v∧τ.holds (aP L ++ c.b2) W v
 dw:Fr c.X c.iD W
 own:∀ e∈L,e.ok (aP L ++ c.b2) W
 nodup:(aP L).Nodup
 lt:∀ k∈aP L,k < W.heap.size
 fH:∀ k∈aP L,k < c.iD.heap.size→k∈c.X
 eQ:∀ k∈c.b2,k < W.heap.size∧k ∉ aP L
theorem ep {s t:Nat} :Nat.beq s t=true↔s=t:=by
 constructor
 ·exact Nat.eq_of_beq_eq_true
 ·rintro rfl; exact Nat.beq_refl s
theorem bG.CK {c E L a W} (h:bG c E L a W):∀ k∈aP L ++ c.b2,k < W.heap.size:=by
 intro k aq
 rcases List.mem_append.1 aq with aq | aq
 ·exact h.lt k aq
 ·exact(h.eQ k aq).1
theorem bG.world {c E L a W W'} (h:bG c E L a W) (f:Fr [] W W'):bG c E L a W' where
 defers:=h.defers
 size:=h.size
 env t τ al:=let⟨v,J,ab⟩:=h.env t τ al; ⟨v,J,τ.mono (.dw f) ab⟩
 dw:=h.dw.trans f.nil
 own e he:=by
  have J:=h.own e he
  unfold aN.ok at *
  split at J
  ·rename_i p hp
   obtain⟨o,bo,cE⟩:=J
   have cv:=h.lt p (kH.2 ⟨e,he,hp⟩)
   exact⟨o,by rw [f.block p cv (by simp)]; exact bo,dB.mono _ (.dw f) cE⟩
  ·exact J
 nodup:=h.nodup
 lt k aq:=Nat.lt_of_lt_of_le (h.lt k aq) f.size
 fH:=h.fH
 eQ k aq:=⟨Nat.lt_of_lt_of_le (h.eQ k aq).1 f.size,(h.eQ k aq).2⟩
theorem bG.put {c E L a W} (h:bG c E L a W) {d:Nat} (hd:d < c.n) {v:Value} {τ:I} (a3:τ.holds (aP L ++ c.b2) W v):
 bG c ((d,τ) :: E) L (a.put (some d) v) W where
 defers:=h.defers
 size:=by simp [Act.put,h.size]
 env t ma al:=by
  simp only [look] at al
  simp only [Act.put]
  by_cases e:Nat.beq d t=true
  ·rw [e] at al
   simp only [cond_true,Option.some.injEq] at al
   subst al
   have:=ep.1 e
   subst this
   exact⟨v,by simp [h.size,hd],a3⟩
  ·simp only [Bool.not_eq_true] at e
   rw [e] at al
   simp only [cond_false] at al
   obtain⟨u,J,ab⟩:=h.env t ma al
   have dk:d≠t:=fun h=>by rw [ep.2 h] at e; cases e
   exact⟨u,by rw [Array.getElem?_setIfInBounds_ne dk]; exact J,ab⟩
 dw:=h.dw
 own:=h.own
 nodup:=h.nodup
 lt:=h.lt
 fH:=h.fH
 eQ:=h.eQ
theorem bG.v7 {c E L a W} (s:bG c E L a W) (h:c.ds= []):a.defers= []:=by rw [s.defers,h]; rfl
theorem bG.less {c E E' L a W} (h:bG c E L a W) (aL:∀ t τ,look E' t=some τ→ ∃ σ,look E t=some σ∧ ∀ A W v,σ.holds A W v→τ.holds A W v):bG c E' L a W:=
 {h with env:=fun t τ al=>let⟨_,J,ab⟩:=aL t τ al; let⟨v,aE,aW⟩:=h.env t _ J; ⟨v,aE,ab _ _ _ aW⟩ }
theorem bG.alloc {c E L a W} (h:bG c E L a W) {o:Obj} {cp:dB} (ao:cp.holds (aP L ++ c.b2) W o):
 bG c E (⟨some W.heap.size,cp⟩ :: L) a (W.alloc o):=by
 have zR:W.heap.size ∉ aP L:=fun hm=>Nat.lt_irrefl _ (h.lt _ hm)
 have gZ:Ext (aP L ++ c.b2) W (aP (⟨some W.heap.size,cp⟩ :: L) ++ c.b2) (W.alloc o):=
  ⟨by simp,fun k aq _=>CJ W o k aq,fun k aq cv=>by
   simp only [aP,List.cons_append,List.mem_cons] at aq
   rcases aq with rfl | aq
   ·exact absurd cv (Nat.lt_irrefl _)
   ·exact aq⟩
 exact
 {defers:=h.defers
  size:=h.size
  env:=fun t τ al=>let⟨v,J,ab⟩:=h.env t τ al; ⟨v,J,τ.mono gZ ab⟩
  dw:=h.dw.trans (Fr.alloc W o)
  own:=fun e he=>by
   rcases List.mem_cons.1 he with rfl | he
   ·exact⟨o,MR W o,cp.mono gZ ao⟩
   ·have J:=h.own e he
    unfold aN.ok at *
    split at J
    ·rename_i p hp
     obtain⟨o',bo,cE⟩:=J
     exact⟨o',by rw [CJ W o p (h.lt p (kH.2 ⟨e,he,hp⟩))]; exact bo,dB.mono _ gZ cE⟩
    ·exact J
  nodup:=by simp only [aP]; exact List.nodup_cons.2 ⟨zR,h.nodup⟩
  lt:=fun k aq=>by
   simp only [aP,List.mem_cons] at aq
   rw [World.size_alloc]
   rcases aq with rfl | aq
   ·omega
   ·have:=h.lt k aq; omega
  fH:=fun k aq cv=>by
   simp only [aP,List.mem_cons] at aq
   rcases aq with rfl | aq
   ·have:=h.dw.size; omega
   ·exact h.fH k aq cv
  eQ:=fun k aq=>by
   obtain⟨J,ab⟩:=h.eQ k aq
   refine⟨by rw [World.size_alloc]; omega,fun hm=> ?_⟩
   simp only [aP,List.mem_cons] at hm
   rcases hm with rfl | hm
   ·omega
   ·exact ab hm }
theorem bG.sub {c E L aC a W} (h:bG c E L a W) (av:∀ e∈aC,e∈L) (aO:(aP aC).Nodup):bG c E aC a W:=by
 have aq:∀ k∈aP aC,k∈aP L:=fun k aq=>by
  obtain⟨e,he,ab⟩:=kH.1 aq
  exact kH.2 ⟨e,av e he,ab⟩
 have gZ:Ext (aP L ++ c.b2) W (aP aC ++ c.b2) W:= .drop fun k hm=>by
  rcases List.mem_append.1 hm with hm | hm
  ·exact List.mem_append.2 (.inl (aq k hm))
  ·exact List.mem_append.2 (.inr hm)
 exact
 {defers:=h.defers
  size:=h.size
  env:=fun t τ al=>let⟨v,J,ab⟩:=h.env t τ al; ⟨v,J,τ.mono gZ ab⟩
  dw:=h.dw
  own:=fun e he=>by
   have J:=h.own e (av e he)
   unfold aN.ok at *
   split at J
   ·obtain⟨o',bo,cE⟩:=J
    exact⟨o',bo,dB.mono _ gZ cE⟩
   ·exact J
  nodup:=aO
  lt:=fun k hm=>h.lt k (aq k hm)
  fH:=fun k hm=>h.fH k (aq k hm)
  eQ:=fun k hm=>⟨(h.eQ k hm).1,fun ab=>(h.eQ k hm).2 (aq k ab)⟩ }
theorem e0 (L R:List aN):aP (L ++ R)=aP L ++ aP R:=by
 induction L with
 | nil=>rfl
 | cons e r bO=>cases aq:e.key <;> simp [aP,aq,bO]
theorem wo {L:List aN} {i:Nat} {e:aN} {cp:dB} (aj:L[i]? =some e):aP (L.set i ⟨e.key,cp⟩)=aP L:=by
 induction L generalizing i with
 | nil=>simp at aj
 | cons x r bO=>
   cases i with
   | zero=>simp only [List.getElem?_cons_zero,Option.some.injEq] at aj; subst aj; simp [aP]
   | succ i=>simp only [List.getElem?_cons_succ] at aj; simp [aP,bO aj]
theorem Gh {L:List aN} (aO:(aP L).Nodup) {i j:Nat} {e f:aN} {p:Nat} (aj:L[i]? =some e) (aF:L[j]? =some f) (he:e.key=some p) (a7:f.key=some p):i=j:=by
 induction L generalizing i j with
 | nil=>simp at aj
 | cons x r bO=>
   have aQ:(aP r).Nodup:=by
    cases an:x.key with
    | none=>simpa [aP,an] using aO
    | some q=>simp only [aP,an] at aO; exact(List.nodup_cons.1 aO).2
   have sI:∀ q,x.key=some q→q ∉ aP r:=fun q an=>by simp only [aP,an] at aO; exact(List.nodup_cons.1 aO).1
   cases i with
   | zero=>
     simp only [List.getElem?_cons_zero,Option.some.injEq] at aj
     subst aj
     cases j with
     | zero=>rfl
     | succ j=>
       simp only [List.getElem?_cons_succ] at aF
       exact absurd (kH.2 ⟨f,List.mem_of_getElem? aF,a7⟩) (sI p he)
   | succ i=>
     simp only [List.getElem?_cons_succ] at aj
     cases j with
     | zero=>
       simp only [List.getElem?_cons_zero,Option.some.injEq] at aF
       subst aF
       exact absurd (kH.2 ⟨e,List.mem_of_getElem? aj,he⟩) (sI p a7)
     | succ j=>
       simp only [List.getElem?_cons_succ] at aF
       rw [bO aQ aj aF]
theorem bG.store {c E L a W} (h:bG c E L a W) {i p:Nat} {cp cp':dB} (aj:L[i]? =some ⟨some p,cp⟩) {cs dK:Array Value} {T:TypeId}
 (bo:W.heap[p]? =some (.cells cs T (0,0))) (ao:cp'.holds (aP L ++ c.b2) W (.cells dK T (0,0))):
 bG c E (L.set i ⟨some p,cp'⟩) a (W.setRow p dK):=by
 have g1:aP (L.set i ⟨some p,cp'⟩)=aP L:=wo (cp:=cp') aj
 have hp:p∈aP L:=kH.2 ⟨_,List.mem_of_getElem? aj,rfl⟩
 have gZ:Ext (aP L ++ c.b2) W (aP L ++ c.b2) (W.setRow p dK):=
  ⟨by simp,fun k _ a9=>setRow_other W p k dK (fun e=>a9 (e ▸ List.mem_append.2 (.inl hp))),fun _ h _=>h⟩
 exact
 {defers:=h.defers
  size:=h.size
  env:=fun t τ al=>by rw [g1]; exact let⟨v,J,ab⟩:=h.env t τ al; ⟨v,J,τ.mono gZ ab⟩
  dw:=⟨h.dw.os,h.dw.tape,h.dw.output,by simpa using h.dw.size,fun k aq an=>by
   rw [setRow_other W p k dK (fun e=>an (e ▸ h.fH p hp (e ▸ aq)))]
   exact h.dw.block k aq an⟩
  own:=fun e he=>by
   rw [g1]
   obtain⟨j,aF⟩:=List.mem_iff_getElem?.1 he
   rw [List.getElem?_set] at aF
   split at aF
   ·rename_i e9
    subst e9
    split at aF
    ·simp only [Option.some.injEq] at aF
     subst aF
     exact⟨_,setRow_heap W p cs dK T (0,0) bo,cp'.mono gZ ao⟩
    ·cases aF
   ·rename_i e9
    have J:=h.own e (List.mem_of_getElem? aF)
    unfold aN.ok at *
    split at J
    ·rename_i q hq
     obtain⟨o',rn,cE⟩:=J
     have dk:q≠p:=fun e'=>e9 (Gh h.nodup aj aF rfl (e' ▸ hq))
     exact⟨o',by rw [setRow_other W p q dK dk]; exact rn,dB.mono _ gZ cE⟩
    ·exact J
  nodup:=by rw [g1]; exact h.nodup
  lt:=by rw [g1]; simpa using h.lt
  fH:=by rw [g1]; exact h.fH
  eQ:=by rw [g1]; simpa using h.eQ }
end Gv
namespace Gv
open Go
abbrev ah.scalar {α:Type} (val:α→Value) (h:∀ x,(val x).oneCell'=true):ah α where
 size:=1
 agg:=false
 rep _ _ cs x:=cs= [val x]
 len h:=by rw [h]; rfl
 one aQ:=by subst aQ; intro v a3; rw [List.mem_singleton.1 a3]; exact h _
 flat _:=rfl
 mono _ h:=h
instance:ah Bool:= .scalar Value.bool fun _=>rfl
instance:ah Int:= .scalar (Value.int .i64) fun _=>rfl
instance:ah (BitVec 64):= .scalar (fun x=>Value.int .u64 (x.toNat:Int)) fun _=>rfl
instance:ah (BitVec 32):= .scalar (fun x=>Value.int .u32 (x.toNat:Int)) fun _=>rfl
instance:ah (BitVec 16):= .scalar (fun x=>Value.int .u16 (x.toNat:Int)) fun _=>rfl
instance:ah (BitVec 8):= .scalar (fun x=>Value.int .u8 (x.toNat:Int)) fun _=>rfl
instance:ah ByteArray:= .scalar Value.string fun _=>rfl
theorem n5 {v u:Value} (h:v.oneCell'=true) (e:v.cells.toList= [u]):v=u:=by
 rw [n6 h] at e
 simpa using e
theorem of_bool {A W v} {b:Bool} :(I.of b).holds A W v↔v= .bool b:=
 ⟨fun h=>n5 h.1 h.2,fun h=>by subst h; exact⟨rfl,rfl⟩⟩
theorem of_int {A W v} {x:Int} :(I.of x).holds A W v↔v= .int .i64 x:=
 ⟨fun h=>n5 h.1 h.2,fun h=>by subst h; exact⟨rfl,rfl⟩⟩
theorem gX {A W v} {x:BitVec 64} :(I.of x).holds A W v↔v= .int .u64 (x.toNat:Int):=
 ⟨fun h=>n5 h.1 h.2,fun h=>by subst h; exact⟨rfl,rfl⟩⟩
theorem qY {A W v} {x:BitVec 8} :(I.of x).holds A W v↔v= .int .u8 (x.toNat:Int):=
 ⟨fun h=>n5 h.1 h.2,fun h=>by subst h; exact⟨rfl,rfl⟩⟩
theorem Ve {A W v} {x:ByteArray} :(I.of x).holds A W v↔v= .string x:=
 ⟨fun h=>n5 h.1 h.2,fun h=>by subst h; exact⟨rfl,rfl⟩⟩
def bb (c:c8) (E:List (Nat × I)) (L:List aN) (x:Operand) (τ:I):Prop:= ∀ a W,bG c E L a W→τ.holds (aP L ++ c.b2) W (a.eval x)
section
variable {c:c8} {E:List (Nat × I)} {L:List aN}
theorem ad {t:Nat} {τ:I} (h:look E t=some τ):bb c E L (.tmp t) τ:=fun a W s=>by
 obtain⟨v,J,ab⟩:=s.env t τ h
 have:a.eval (.tmp t)=v:=by simp [Act.eval,J]
 rw [this]; exact ab
theorem ct {t:Nat} {τ:I} {p:Prop} (h:look E t=some (.cond p τ)) (hp:p):bb c E L (.tmp t) τ:=fun a W s=>(ad h a W s).1 hp
theorem F4 (v:Value):bb c E L (.const v) (.eq v):=fun _ _ _=>rfl
theorem bF (k:Int):bb c E L (.const (.int .i64 k)) (.of k):=fun _ _ _=>of_int.2 rfl
theorem fN (b:Bool):bb c E L (.const (.bool b)) (.of b):=fun _ _ _=>of_bool.2 rfl
theorem gJ (x:BitVec 64) {k:Int} (h:(x.toNat:Int)=k):bb c E L (.const (.int .u64 k)) (.of x):=fun _ _ _=>gX.2 (by rw [h]; rfl)
theorem nn (x:BitVec 8) {k:Int} (h:(x.toNat:Int)=k):bb c E L (.const (.int .u8 k)) (.of x):=fun _ _ _=>qY.2 (by rw [h]; rfl)
theorem dC (s:ByteArray):bb c E L (.const (.string s)) (.of s):=fun _ _ _=>Ve.2 rfl
def gj (P:Program) (o:Oper) (a:Act) (W:World) (R:Value→World→Prop):Prop:=
 o.wp P a W (fun gI W'=> ∃ v,gI=a.put o.dst v∧R v W') (fun _ _ _=>False)
theorem CallsIn.FN {rd:Option Nat} {n:Nat} {P:Program} {f:FuncId} {args:Array Value} {w:World} {R:Ending→World→Prop}
 (h:Calls P f args w R):CallsIn { fn:=fun _=>True,depth:=none,alive:=false,round:=rd } n P f args w R:=
 (callsIn_wide (n:=n)).2 h
theorem RowsIn.Vf {rd:Option Nat} {n:Nat} {P:Program} {row:String} {args:Array Value} {w:World} {R:Value→World→Prop}
 (h:Rows P row args w R):RowsIn { fn:=fun _=>True,depth:=none,alive:=false,round:=rd } n P row args w R:=
 fun c cs _=>let⟨v,oJ,r,s⟩:=h c cs; ⟨v,oJ,r,stepsIn_wide.2 s⟩
theorem gj.wp {P:Program} {o:Oper} {a:Act} {W:World} {R:Value→World→Prop} {next:Act→World→Prop} {Q:Exit→Act→World→Prop}
 (h:gj P o a W R) (aq:∀ v W',R v W'→next (a.put o.dst v) W'):o.wp P a W next Q:=by
 unfold gj Oper.wp at *
 generalize (execOp a.eval o).run P W=r at *
 cases r with
 | ok n W'=>
   cases n <;> simp only [Oper.upon] at h ⊢
   case value v=>obtain⟨u,J,ab⟩:=h; rw [J]; exact aq _ _ ab
   case skip=>obtain⟨u,J,ab⟩:=h; rw [J]; exact aq _ _ ab
   case defer d=>obtain⟨u,J,ab⟩:=h; rw [J]; exact aq _ _ ab
   case enter f args=>
    refine h.mono fun e sW he=> ?_
    cases e with
    | returned v=>obtain⟨u,J,ab⟩:=he; simp only at J ⊢; rw [J]; exact aq _ _ ab
    | panicked I5=>exact he.elim
    | outgrown=>obtain⟨_,_,J⟩:=he; exact J.elim
   case row row args=>exact h.mono fun v sW ⟨u,J,ab⟩=>by rw [J]; exact aq _ _ ab
 | halt x W'=>cases x <;> simp only [Oper.upon] at h
theorem gj.TE {P:Program} {o:Oper} {a:Act} {W:World} {R:Value→World→Prop} (h:gj P o a W R):∀ c,o.op≠ .defer c:=by
 intro c bo
 unfold gj Oper.wp execOp at h
 rw [bo] at h
 simp only [Sem.run_bind] at h
 generalize (resolve a.eval c o.type).run P W=r at h
 cases r with
 | ok d W'=>
   simp only [Result.andThen,Sem.run_pure,Oper.upon] at h
   obtain⟨v,J,_⟩:=h
   have:=congrArg Act.defers J
   cases hd:o.dst <;> simp [Act.put,hd] at this
 | halt x W'=>cases x <;> simp only [Result.andThen,Oper.upon] at h
theorem gj.wpIn {c:c8} {n:Nat} {o:Oper} {a:Act} {W:World} {R:Value→World→Prop} {next:Act→World→Prop} {Q:Exit→Act→World→Prop}
 (h:gj c.P o a W R) (aq:∀ v W',R v W'→next (a.put o.dst v) W'):o.wpIn c.F n c.P a W next Q:=by
 refine⟨fun _ _=>trivial,?_⟩
 rw [Oper.semAt_eq _ _ _ h.TE]
 unfold gj Oper.wp at h
 generalize (execOp a.eval o).run c.P W=r at *
 cases r with
 | ok m W'=>
   cases m <;> simp only [Oper.upon,Oper.uponIn] at h ⊢
   case value v=>obtain⟨u,J,ab⟩:=h; rw [J]; exact aq _ _ ab
   case skip=>obtain⟨u,J,ab⟩:=h; rw [J]; exact aq _ _ ab
   case defer d=>obtain⟨u,J,ab⟩:=h; rw [J]; exact aq _ _ ab
   case enter f args=>
    refine⟨fun h=>by simp at h,CallsIn.FN ?_⟩
    refine h.mono fun e sW he=> ?_
    cases e with
    | returned v=>obtain⟨u,J,ab⟩:=he; simp only at J ⊢; rw [J]; exact aq _ _ ab
    | panicked I5=>exact he.elim
    | outgrown=>obtain⟨_,_,J⟩:=he; exact J.elim
   case row row args=>
    refine⟨fun h=>by simp at h,RowsIn.Vf ?_⟩
    exact h.mono fun v sW ⟨u,J,ab⟩=>by rw [J]; exact aq _ _ ab
 | halt x W'=>cases x <;> simp only [Oper.upon] at h
theorem R1 {c:c8} {n:Nat} {o:Oper} {a:Act} {W W':World} {v:Value} {next:Act→World→Prop} {Q:Exit→Act→World→Prop}
 (h:(execOp a.eval o).run c.P W= .ok (.value v) W') (aq:next (a.put o.dst v) W'):o.wpIn c.F n c.P a W next Q:=
 gj.wpIn (R:=fun u U=>u=v∧U=W') (by unfold gj Oper.wp; rw [h]; exact⟨v,rfl,rfl,rfl⟩) fun u U ⟨J,ab⟩=>by subst J; subst ab; exact aq
theorem Kj {c:c8} {n:Nat} {o:Oper} {a:Act} {W W':World} {next:Act→World→Prop} {Q:Exit→Act→World→Prop}
 (h:(execOp a.eval o).run c.P W= .ok .skip W') (aq:next (a.put o.dst undef) W'):o.wpIn c.F n c.P a W next Q:=
 gj.wpIn (R:=fun u U=>u=undef∧U=W') (by unfold gj Oper.wp; rw [h]; exact⟨undef,rfl,rfl,rfl⟩) fun u U ⟨J,ab⟩=>by subst J; subst ab; exact aq
theorem BU {F:Fence} {n:Nat} {P:Program} {md:Region.Mode} {ops:Array Oper} {rG:Exit→Act→World→Prop} :∀ (l:List Oper) (k:Nat) (bl:Array Bool) (a:Act) (w:World),(∀ j,l[j]? =ops[k + j]?)→
 Region.seqB md ops l.length k bl=true→wpListIn F n P ops rG l a w→wpAnyIn F n P md ops rG l.length bl a w
 | [],_,_,_,_,_,g2,h=>⟨by simpa [Region.seqB] using g2,h⟩
 | o :: l,k,bl,a,w,al,g2,h=>by
   have bP:ops[k]? =some o:=by simpa using (al 0).symm
   simp only [List.length_cons,Region.seqB,Bool.and_eq_true,decide_eq_true_eq] at g2
   refine⟨fun J=>(by rw [g2.1] at J; cases J),fun i aj=> ?_⟩
   rw [g2.1] at aj
   have e4:i=k:=by simpa using aj
   subst e4
   have hw:wpOpIn F n P ops rG i (wpListIn F n P ops rG l) a w:=by unfold wpOpIn; simp only [bP]; exact h
   exact wpOpIn_mono (fun gI oJ cR=>BU l (i + 1) _ gI oJ (fun j=>by have:=al (j + 1); simpa [Nat.add_assoc,Nat.add_comm 1 j] using this) g2.2 cR) hw
theorem gj.mo {P:Program} {o:Oper} {a:Act} {W W':World} {R:Value→World→Prop} {v:Value}
 (h:(execOp a.eval o).run P W= .ok (.value v) W') (aQ:R v W'):gj P o a W R:=by
 unfold gj Oper.wp
 rw [h]
 exact⟨v,rfl,aQ⟩
theorem gj.wg {P:Program} {o:Oper} {a:Act} {W W':World} {R:Value→World→Prop}
 (h:(execOp a.eval o).run P W= .ok .skip W') (aQ:R undef W'):gj P o a W R:=by
 unfold gj Oper.wp
 rw [h]
 exact⟨undef,rfl,aQ⟩
theorem gj.tH {P:Program} {o:Oper} {a:Act} {W W':World} {R:Value→World→Prop} {f:FuncId} {args:Array Value}
 (h:(execOp a.eval o).run P W= .ok (.enter f args) W') (aQ:Calls P f args W' fun e sW=> ∃ v,e= .returned v∧R v sW):gj P o a W R:=by
 unfold gj Oper.wp
 rw [h]
 exact aQ.mono fun e sW ⟨v,he,ab⟩=>by subst he; exact⟨v,rfl,ab⟩
def b3 (c:c8) (E:List (Nat × I)) (L:List aN) (o:Oper) (τ:I):Prop:=
 ∀ a W,bG c E L a W→gj c.P o a W fun v W'=>Fr [] W W'∧τ.holds (aP L ++ c.b2) W' v
theorem b3.pure {o:Oper} {τ:I} (h:∀ a W,bG c E L a W→ ∃ v,(execOp a.eval o).run c.P W= .ok (.value v) W∧τ.holds (aP L ++ c.b2) W v):b3 c E L o τ:=
 fun a W s=>let⟨_,J,ab⟩:=h a W s; .mo J ⟨.refl _ _,ab⟩
variable {ops:Array Oper} {Q:Exit→Act→World→Prop}
def ak (c:c8) (ops:Array Oper) (Q:Exit→Act→World→Prop) (l:List Oper) (E:List (Nat × I)) (L:List aN):Prop:=
 ∀ a W,bG c E L a W→c.p6 ops Q l a W
def ae (c:c8) (Q:Exit→Act→World→Prop) (x:Exit) (E:List (Nat × I)) (L:List aN):Prop:= ∀ a W,bG c E L a W→Q x a W
theorem ak.nil (h:ae c Q .normal E L):ak c ops Q [] E L:=fun a W s=>wpListIn_nil (h a W s)
theorem ib {c:c8} {o:Oper} {rest:List Oper} {a:Act} {W:World} (bZ:o.guard=none) {R:Value→World→Prop} (h:gj c.P o a W R)
 (aq:∀ v W',R v W'→c.p6 ops Q rest (a.put o.dst v) W'):c.p6 ops Q (o :: rest) a W:=
 wpListIn_plain bZ fun _ tf=>h.wpIn fun v W' aQ=>tf _ _ (aq v W' aQ)
theorem ak.v {o:Oper} {rest:List Oper} {d:Nat} {τ:I} (h:b3 c E L o τ) (bZ:o.guard=none) (hd:o.dst=some d) (aO:Nat.blt d c.n=true)
 (k:ak c ops Q rest ((d,τ) :: E) L):ak c ops Q (o :: rest) E L:=fun a W s=>
 ib bZ (h a W s) fun v W' ⟨f,a3⟩=>by
  rw [hd]
  exact k _ _ ((s.world f).put (by simpa using aO) a3)
theorem ak.x {o:Oper} {rest:List Oper} {τ:I} (h:b3 c E L o τ) (bZ:o.guard=none) (hd:o.dst=none)
 (k:ak c ops Q rest E L):ak c ops Q (o :: rest) E L:=fun a W s=>
 ib bZ (h a W s) fun v W' ⟨f,_⟩=>by
  rw [hd]
  exact k _ _ (s.world f)
theorem B7 {j g:Nat} {b:Bool} (aF:(ops[j]?).bind (·.dst)=some g) (al:look E g=some (.of b)) {a:Act} {W:World} (s:bG c E L a W):
 yielded ops a.tmps j=some b:=by
 obtain⟨v,J,ab⟩:=s.env g _ al
 unfold yielded
 rw [aF]
 simp only [Option.bind_some,J,of_bool.1 ab]
theorem ak.g {o:Oper} {rest:List Oper} {d j g:Nat} {b want:Bool} {τ:I} (h:b=want→b3 c E L o τ) (bZ:o.guard=some (j,want)) (aF:(ops[j]?).bind (·.dst)=some g)
 (al:look E g=some (.of b)) (hd:o.dst=some d) (aO:Nat.blt d c.n=true)
 (k:ak c ops Q rest ((d,.cond (b=want) τ) :: E) L):ak c ops Q (o :: rest) E L:=fun a W s=>by
 have a4:=B7 aF al s
 unfold c8.p6 wpListIn
 by_cases hb:b=want
 ·rw [if_pos (by simp [Region.wanted,bZ,a4,hb])]
  refine((h hb a W s).wpIn fun v W' ⟨f,a3⟩=> ?_)
  rw [hd]
  exact k _ _ ((s.world f).put (by simpa using aO) ⟨fun _=>a3,fun h=>absurd hb h⟩)
 ·rw [if_neg (by simp [Region.wanted,bZ,a4,hb])]
  rw [hd]
  exact⟨fun _ _=>trivial,k _ _ (s.put (by simpa using aO) ⟨fun h=>absurd h hb,fun _=>rfl⟩)⟩
theorem Kk {j g:Nat} {p:Prop} {b:Bool} (aF:(ops[j]?).bind (·.dst)=some g) (al:look E g=some (.cond p (.of b))) {a:Act} {W:World} (s:bG c E L a W):
 (p→yielded ops a.tmps j=some b)∧ (¬ p→yielded ops a.tmps j=none):=by
 obtain⟨v,J,ab,aE⟩:=s.env g _ al
 unfold yielded
 rw [aF]
 simp only [Option.bind_some,J]
 exact⟨fun hp=>by simp only [of_bool.1 (ab hp)],fun hp=>by simp only [aE hp]; rfl⟩
theorem ak.gg {o:Oper} {rest:List Oper} {d j g:Nat} {p:Prop} {b want:Bool} {τ:I} (h:p∧b=want→b3 c E L o τ) (bZ:o.guard=some (j,want)) (aF:(ops[j]?).bind (·.dst)=some g)
 (al:look E g=some (.cond p (.of b))) (hd:o.dst=some d) (aO:Nat.blt d c.n=true)
 (k:ak c ops Q rest ((d,.cond (p∧b=want) τ) :: E) L):ak c ops Q (o :: rest) E L:=fun a W s=>by
 have a4:=Kk aF al s
 unfold c8.p6 wpListIn
 by_cases hb:p∧b=want
 ·rw [if_pos (by simp [Region.wanted,bZ,a4.1 hb.1,hb.2])]
  refine((h hb a W s).wpIn fun v W' ⟨f,a3⟩=> ?_)
  rw [hd]
  exact k _ _ ((s.world f).put (by simpa using aO) ⟨fun _=>a3,fun h=>absurd hb h⟩)
 ·have hw:Region.wanted o (yielded ops a.tmps)=false:=by
   by_cases hp:p
   ·have: ¬ (b=want):=fun h=>hb ⟨hp,h⟩
    simp [Region.wanted,bZ,a4.1 hp,this]
   ·simp [Region.wanted,bZ,a4.2 hp]
  rw [if_neg (by simp [hw])]
  refine⟨fun _ _=>trivial,?_⟩
  rw [hd]
  exact k _ _ (s.put (by simpa using aO) ⟨fun h=>absurd h hb,fun _=>rfl⟩)
def sub:List (Nat × I)→List Nat→List (Nat × I)
 | _,[]=> []
 | E,t :: r=>match look E t with
   | some τ=>(t,τ) :: sub E r
   | none=>sub E r
inductive hn (E:List (Nat × I)):List (Nat × I)→Prop
 | nil:hn E []
 | cons {t τ σ r} :look E t=some σ→ (∀ A W v,σ.holds A W v→τ.holds A W v)→hn E r→hn E ((t,τ) :: r)
theorem hn.same {t:Nat} {τ:I} {r:List (Nat × I)} (h:look E t=some τ) (k:hn E r):hn E ((t,τ) :: r):= .cons h (fun _ _ _ h=>h) k
theorem hn.look:∀ {E':List (Nat × I)},hn E E'→ ∀ t τ,Gv.look E' t=some τ→ ∃ σ,Gv.look E t=some σ∧ ∀ A W v,σ.holds A W v→τ.holds A W v
 | _,.nil,t,τ,h=>by simp [Gv.look] at h
 | _,.cons (t:=s) (σ:=σ) J ab r,t,τ,h=>by
   simp only [Gv.look] at h
   by_cases e:Nat.beq s t=true
   ·rw [e] at h
    simp only [cond_true,Option.some.injEq] at h
    subst h
    rw [ep.1 e] at J
    exact⟨σ,J,ab⟩
   ·simp only [Bool.not_eq_true] at e
    rw [e] at h
    exact r.look t τ h
theorem ae.le {x:Exit} {E':List (Nat × I)} (h:hn E E') (k:ae c Q x E' L):ae c Q x E L:=fun a W s=>k a W (s.less h.look)
theorem ak.le {l:List Oper} {E':List (Nat × I)} (h:hn E E') (k:ak c ops Q l E' L):ak c ops Q l E L:=fun a W s=>k a W (s.less h.look)
def ag (c:c8) (Q:Exit→Act→World→Prop) (code:Code) (E:List (Nat × I)) (L:List aN):Prop:= ∀ a W,bG c E L a W→c.wp code Q a W
theorem ag.le {code:Code} {E':List (Nat × I)} (h:hn E E') (k:ag c Q code E' L):ag c Q code E L:=fun a W s=>k a W (s.less h.look)
theorem ag.b1 {id:Nat} {l:List Oper} (h:ak c l.toArray Q l E L):ag c Q (.region id l.toArray false) E L:=fun a W s=>wpIn_region_lit (h a W s)
theorem ag.seq {x y:Code} (h:ag c (Exit.then (c.wp y Q) Q) x E L):ag c Q (.seq x y) E L:=fun a W s=>wpIn_seq (h a W s)
theorem ae.next {y:Code} (h:ag c Q y E L):ae c (Exit.then (c.wp y Q) Q) .normal E L:=fun a W s=>h a W s
theorem ae.exit {y:Act→World→Prop} {id:Nat} (h:ae c Q (.exit id) E L):ae c (Exit.then y Q) (.exit id) E L:=fun a W s=>h a W s
theorem ae.ret {y:Act→World→Prop} (h:ae c Q .ret E L):ae c (Exit.then y Q) .ret E L:=fun a W s=>h a W s
theorem ag.block {id:Nat} {x:Code} (h:ag c (Exit.inBlock id Q) x E L):ag c Q (.block id x) E L:=fun a W s=>wpIn_block (h a W s)
theorem ae.db {id:Nat} (h:ae c Q .normal E L):ae c (Exit.inBlock id Q) .normal E L:=fun a W s=>h a W s
theorem ae.dD {id:Nat} (h:ae c Q .normal E L):ae c (Exit.inBlock id Q) (.exit id) E L:=fun a W s=>by
 show(if id=id then Q .normal a W else Q (.exit id) a W)
 rw [if_pos rfl]; exact h a W s
theorem ae.U6 {id z9:Nat} (dk:Nat.beq z9 id=false) (h:ae c Q (.exit z9) E L):ae c (Exit.inBlock id Q) (.exit z9) E L:=fun a W s=>by
 show(if z9=id then Q .normal a W else Q (.exit z9) a W)
 rw [if_neg (fun e=>by rw [e,Nat.beq_refl] at dk; cases dk)]; exact h a W s
theorem ae.dQ {id:Nat} (h:ae c Q .ret E L):ae c (Exit.inBlock id Q) .ret E L:=fun a W s=>h a W s
theorem ag.skip (h:ae c Q .normal E L):ag c Q .skip E L:=fun a W s=>wpIn_skip (h a W s)
theorem ag.exit {id:Nat} (h:ae c Q (.exit id) E L):ag c Q (.exit id) E L:=fun a W s=>wpIn_exit (h a W s)
theorem ag.ret (h:ae c Q .ret E L):ag c Q .ret E L:=fun a W s=>wpIn_ret (h a W s)
theorem ag.cond {x:Operand} {b:Bool} {y z:Code} (al:bb c E L x (.of b)) (cc:b=true→ag c Q y E L) (a7:b=false→ag c Q z E L):ag c Q (.cond x y z) E L:=
 fun a W s=>wpIn_cond_split (of_bool.1 (al a W s)) (fun h=>cc h a W s) (fun h=>a7 h a W s)
def dn {σ ε:Type} :Nat→ (σ→Option (σ ⊕ ε))→σ→Option ε
 | 0,_,_=>none
 | n + 1,b,s=>match b s with
   | none=>none
   | some (.inl b8)=>dn n b b8
   | some (.inr e)=>some e
def PY {σ ε:Type} (c:c8) (E:σ→List (Nat × I)) (L:σ→List aN) (xs:ε→Exit) (fF:ε→List (Nat × I)) (Lx:ε→List aN):σ ⊕ ε→Exit→Act→World→Prop
 | .inl s,x,a,W=>x= .normal∧bG c (E s) (L s) a W
 | .inr e,x,a,W=>x≠ .normal∧x=xs e∧bG c (fF e) (Lx e) a W
theorem ae.round {σ ε:Type} {E':σ→List (Nat × I)} {aC:σ→List aN} {xs:ε→Exit} {fF:ε→List (Nat × I)} {Lx:ε→List aN} {s:σ}
 (h:∀ a W,bG c E L a W→bG c (E' s) (aC s) a W):ae c (PY c E' aC xs fF Lx (.inl s)) .normal E L:=fun a W st=>⟨rfl,h a W st⟩
theorem K0 {F:Fence} {n:Nat} {P:Program} {body:Code} {σ ε:Type} (b:σ→Option (σ ⊕ ε)) (fr:σ→Act→World→Prop) (X:ε→Exit→Act→World→Prop)
 (oe:∀ s r,b s=some r→ ∀ a W,fr s a W→body.wpIn F n P (fun x a W=>match r with | .inl b8=>x= .normal∧fr b8 a W | .inr e=>x≠ .normal∧X e x a W) a W)
 (Q:Exit→Act→World→Prop) (e:ε) (nw:∀ x a W,X e x a W→Q x a W) {cf:σ} {N:Nat} (al:dn N b cf=some e) {fT:Act} {iD:World} (bP:fr cf fT iD):
 (Code.loop body).wpIn F n P Q fT iD:=by
 intro dw k cs w6 hb aQ
 have key:∀ N s,dn N b s=some e→ ∀ a W,fr s a W→
  ∃ x gI W',Q x gI W'∧ArrivesIn (Machine.fenced P F) P (lone (dw.atR a (.code body :: .inLoop body :: k)) cs W) dw k cs x gI W':=by
  intro N
  induction N with
  | zero=>intro s h; simp [dn] at h
  | succ N bO=>
    intro s h a W ky
    simp only [dn] at h
    split at h
    ·cases h
    ·rename_i b8 hs
     obtain⟨x,wT,wU,hq,pY⟩:=oe s _ hs a W ky dw (.inLoop body :: k) cs w6 hb aQ
     obtain⟨an,HT⟩:=hq
     subst an
     obtain⟨Hu,Hv,Hw,G4,FO⟩:=bO b8 h wT wU HT
     exact⟨Hu,Hv,Hw,G4,.of_steps (StepsIn.trans pY (.one (fenced_calm hb aQ rfl) stepR_inLoop)) FO⟩
    ·rename_i e' hs
     simp only [Option.some.injEq] at h
     subst h
     obtain⟨x,wT,wU,hq,pY⟩:=oe s _ hs a W ky dw (.inLoop body :: k) cs w6 hb aQ
     obtain⟨an,I6⟩:=hq
     exact⟨x,wT,wU,nw _ _ _ I6,.pass (x:= .inLoop body) rfl (fun _ _=> .inl an) pY⟩
 obtain⟨x,gI,W',hq,pY⟩:=key N cf al fT iD bP
 exact⟨x,gI,W',hq,.of_steps (.one (fenced_calm hb aQ rfl) stepR_loop) pY⟩
theorem ag.loop {σ ε:Type} {body:Code} {N:Nat} {b:σ→Option (σ ⊕ ε)} {cf:σ} {e:ε} (al:dn N b cf=some e)
 (E:σ→List (Nat × I)) (L:σ→List aN) (xs:ε→Exit) (fF:ε→List (Nat × I)) (Lx:ε→List aN)
 (qZ:∀ s r,b s=some r→ag c (PY c E L xs fF Lx r) body (E s) (L s))
 (nw:ae c Q (xs e) (fF e) (Lx e)):ag c Q (.loop body) (E cf) (L cf):=fun a W st=>
 K0 b (fun s a W=>bG c (E s) (L s) a W) (fun e x a W=>x=xs e∧bG c (fF e) (Lx e) a W)
  (fun s r hs a W ky=>wpIn_mono (qZ s r hs a W ky) (fun x a W h=>by
   cases r with
   | inl b8=>exact h
   | inr e'=>exact⟨h.1,h.2⟩)) Q e (fun x a W ⟨an,hs⟩=>by subst an; exact nw a W hs) al st
def bn (P:Program) (f:FuncId) (τs:List I) (ρ:I):Prop:=
 ∀ (A:List Nat) (W:World) (vs:List Value),(∀ k∈A,k < W.heap.size)→gW A W τs vs→
   Calls P f vs.toArray W fun e W'=> ∃ v,e= .returned v∧Fr [] W W'∧ρ.holds A W' v
def params:Nat→List I→List (Nat × I)
 | _,[]=> []
 | k,τ :: r=>(k,τ) :: params (k + 1) r
theorem tB {A:List Nat} {W:World} {τs:List I} {vs:List Value} (h:gW A W τs vs):∀ (k t:Nat) (τ:I),look (params k τs) t=some τ→k≤t∧ ∃ v,vs[t - k]? =some v∧τ.holds A W v:=by
 induction h with
 | nil=>intro k t τ h; simp [params,look] at h
 | cons J r bO=>
   intro k t τ al
   simp only [params,look] at al
   by_cases e:Nat.beq k t=true
   ·rw [e] at al
    simp only [cond_true,Option.some.injEq] at al
    subst al
    rw [ep.1 e]
    exact⟨Nat.le_refl _,_,by simp,J⟩
   ·simp only [Bool.not_eq_true] at e
    rw [e] at al
    have dk:k≠t:=fun h=>by rw [ep.2 h] at e; cases e
    obtain⟨ab,v,aE,aW⟩:=bO (k + 1) t τ al
    refine⟨by omega,v,?_,aW⟩
    rw [show t - k=(t - (k + 1)) + 1 by omega,List.getElem?_cons_succ]
    exact aE
theorem bn.enter {P:Program} {f:FuncId} {fn:Func} {code:Code} {n:Nat} {τs:List I} {ρ:I} (a7:P.funcs[f]? =some fn) (hb:fn.body=some code) (aO:fn.ntmps=n) (hlen:Nat.ble τs.length n=true)
 (h:∀ W A,ag ⟨P,n,W,[],A,none,[]⟩ (bodyPost P fn fun e W'=> ∃ v,e= .returned v∧Fr [] W W'∧ρ.holds A W' v) code (params 0 τs) []):bn P f τs ρ:=by
 intro A W vs fL a3
 refine calls_of_wp a7 hb (wpIn_wide.1 (h W A _ _ ?_))
 have al:=a3.length
 have hle:τs.length≤n:=Nat.le_of_ble_eq_true hlen
 exact
 {defers:=rfl
  size:=by simp [aO,al]; omega
  env:=fun t τ lg=>by
   obtain⟨_,v,ab,aE⟩:=tB a3 0 t τ lg
   refine⟨v,?_,aE⟩
   have cv:t < vs.length:=(List.getElem?_eq_some_iff.1 ab).1
   rw [Array.getElem?_append_left (by simpa using cv)]
   simpa using ab
  dw:= .refl _ _
  own:=by simp
  nodup:=by simp [aP]
  lt:=by simp [aP]
  fH:=by simp [aP]
  eQ:=fun k aq=>⟨fL k aq,by simp [aP]⟩ }
theorem KD {ρ:I} {A B:List Nat} {W:World} {v:Value} (h:ρ.holds (B ++ A) W v):ρ.holds A W v:=ρ.mono (.drop fun _ h=>List.mem_append.2 (.inr h)) h
end
end Gv
namespace Gv
open Go
set_option linter.unusedVariables false
section
variable {c:c8} {E:List (Nat × I)} {L:List aN} {ops:Array Oper} {Q:Exit→Act→World→Prop}
def ke (c:c8) (ops:Array Oper) (E:List (Nat × I)) (L:List aN) (o:Oper) (τ:I):Prop:=
 ∀ a W,bG c E L a W→
   (Region.wanted o (yielded ops a.tmps)=true→gj c.P o a W fun v W'=>Fr [] W W'∧τ.holds (aP L ++ c.b2) W' v)∧
   (Region.wanted o (yielded ops a.tmps)=false→τ.holds (aP L ++ c.b2) W undef)
theorem ke.v {o:Oper} {τ:I} (h:b3 c E L o τ) (bZ:o.guard=none):ke c ops E L o τ:=fun a W s=>
 ⟨fun _=>h a W s,fun hw=>by simp [Region.wanted,bZ] at hw⟩
theorem ke.g {o:Oper} {j g:Nat} {b want:Bool} {τ:I} (h:b=want→b3 c E L o τ) (bZ:o.guard=some (j,want)) (aF:(ops[j]?).bind (·.dst)=some g) (al:look E g=some (.of b)):
 ke c ops E L o (.cond (b=want) τ):=fun a W s=>by
 have a4:=B7 aF al s
 constructor
 ·intro hw
  have hb:b=want:=by simpa [Region.wanted,bZ,a4] using hw
  refine gj.wp (h hb a W s) fun v W' ⟨f,a3⟩=>⟨v,rfl,f,fun _=>a3,fun h=>absurd hb h⟩
 ·intro hw
  exact⟨fun hb=>by simp [Region.wanted,bZ,a4,hb] at hw,fun _=>rfl⟩
theorem ke.gg {o:Oper} {j g:Nat} {p:Prop} {b want:Bool} {τ:I} (h:p∧b=want→b3 c E L o τ) (bZ:o.guard=some (j,want)) (aF:(ops[j]?).bind (·.dst)=some g) (al:look E g=some (.cond p (.of b))):
 ke c ops E L o (.cond (p∧b=want) τ):=fun a W s=>by
 have a4:=Kk aF al s
 have uQ:Region.wanted o (yielded ops a.tmps)=true→p∧b=want:=by
  intro hw
  by_cases hp:p
  ·exact⟨hp,by simpa [Region.wanted,bZ,a4.1 hp] using hw⟩
  ·simp [Region.wanted,bZ,a4.2 hp] at hw
 constructor
 ·intro hw
  refine gj.wp (h (uQ hw) a W s) fun v W' ⟨f,a3⟩=>⟨v,rfl,f,fun _=>a3,fun h=>absurd (uQ hw) h⟩
 ·intro hw
  exact⟨fun hb=>by simp [Region.wanted,bZ,a4.1 hb.1,hb.2] at hw,fun _=>rfl⟩
inductive e5
 | val (τ:I)
 | new (cp:dB)
 | jJ (i:Nat) (cp:dB)
 | lb (j:Nat) (cp:dB)
def e5.m0:e5→Bool
 | .jJ _ _ | .lb _ _=>true
 | _=>false
def e5.qh (p:Nat):e5→Option I
 | .val τ=>some τ
 | .new _=>some (.eq (.pointer (some ⟨p,0,none⟩)))
 | _=>none
def he (bs:Nat→Nat) (ek:List (Option Nat)) (hs:List e5) (E:List (Nat × I)):List Nat→List (Nat × I)
 | []=>E
 | j :: r=>match ek[j]?,hs[j]? with
   | some (some s),some h=>match h.qh (bs j) with
     | some τ=>(s,τ) :: he bs ek hs E r
     | none=>he bs ek hs E r
   | _,_=>he bs ek hs E r
def wM:List aN→Nat→dB→List aN
 | [],_,_=> []
 | e :: r,0,cp=>⟨e.key,cp⟩ :: r
 | e :: r,i + 1,cp=>e :: wM r i cp
theorem S8 {L:List aN} {i:Nat} {e:aN} {cp:dB} (h:L[i]? =some e):wM L i cp=L.set i ⟨e.key,cp⟩:=by
 induction L generalizing i with
 | nil=>simp at h
 | cons x r bO=>
   cases i with
   | zero=>simp only [List.getElem?_cons_zero,Option.some.injEq] at h; subst h; rfl
   | succ i=>simp only [List.getElem?_cons_succ] at h; simp [wM,bO h]
def dV (L:List aN):List e5→List aN
 | []=>L
 | .jJ i cp :: r=>dV (wM L i cp) r
 | _ :: r=>dV L r
def h2 (j:Nat) (cp:dB):List e5→dB
 | []=>cp
 | .lb i cp' :: r=>h2 j (bif Nat.beq i j then cp' else cp) r
 | _ :: r=>h2 j cp r
theorem KE (L:List aN) (r:List e5) (h:e5):dV L (r ++ [h])=dV (dV L r) [h]:=by
 induction r generalizing L with
 | nil=>rfl
 | cons x r bO=>cases x <;> simp only [List.cons_append,dV] <;> exact bO _
theorem EY (j:Nat) (cp:dB) (r:List e5) (h:e5):h2 j cp (r ++ [h])=h2 j (h2 j cp r) [h]:=by
 induction r generalizing cp with
 | nil=>rfl
 | cons x r bO=>cases x <;> simp only [List.cons_append,h2] <;> exact bO _
theorem Cf {L:List aN} :∀ {r:List e5},(∀ h∈r,h.m0=false)→dV L r=L
 | [],_=>rfl
 | h :: r,cE=>by
   have:=cE h (by simp)
   have bO:=Cf (L:=L) (r:=r) (fun x an=>cE x (by simp [an]))
   cases h <;> first | exact bO | cases this
theorem B8 {j:Nat} {cp:dB} :∀ {r:List e5},(∀ h∈r,h.m0=false)→h2 j cp r=cp
 | [],_=>rfl
 | h :: r,cE=>by
   have:=cE h (by simp)
   have bO:=B8 (j:=j) (cp:=cp) (r:=r) (fun x an=>cE x (by simp [an]))
   cases h <;> first | exact bO | cases this
def ow (w:Nat→Bool) (i:Nat):Nat→List e5→Bool
 | _,[]=>true
 | k,.jJ j _ :: r=>(!(Nat.beq j i) || w k) && ow w i (k + 1) r
 | k,.val _ :: r=>ow w i (k + 1) r
 | k,.new _ :: r=>ow w i (k + 1) r
 | k,.lb _ _ :: r=>ow w i (k + 1) r
theorem Sk {L:List aN} {i j:Nat} {cp:dB} (h:i≠j):(wM L i cp)[j]? =L[j]? :=by
 induction L generalizing i j with
 | nil=>rfl
 | cons e r bO=>
   cases i with
   | zero=>cases j with
     | zero=>exact absurd rfl h
     | succ j=>rfl
   | succ i=>cases j with
     | zero=>rfl
     | succ j=>simp only [wM,List.getElem?_cons_succ]; exact bO (by omega)
theorem yE {L:List aN} {i:Nat} {w:Nat→Bool} :∀ {r:List e5} (b k:Nat),ow w i k r=true→ (∀ q,q < b→ (∃ j cp,r[q]? =some (.jJ j cp))→w (k + q)=false)→ (dV L (r.take b))[i]? =L[i]?
 | [],b,_,_,_=>by simp [dV]
 | h :: r,0,_,_,_=>by simp [dV]
 | .jJ j cp :: r,b + 1,k,h,hw=>by
   simp only [ow,Bool.and_eq_true,Bool.or_eq_true,Bool.not_eq_true'] at h
   have Zh:w k=false:=by simpa using hw 0 (by omega) ⟨j,cp,by simp⟩
   have dk:j≠i:=fun e=>by
    rw [e,Nat.beq_refl,Zh] at h
    rcases h.1 with h | h <;> cases h
   rw [List.take_succ_cons,dV,yE b (k + 1) h.2 (fun q hq an=>by have:=hw (q + 1) (by omega) (by simpa using an); rw [← this]; congr 1; omega),Sk dk]
 | .val _ :: r,b + 1,k,h,hw=>by rw [List.take_succ_cons]; exact yE (r:=r) b (k + 1) h (fun q hq an=>by have:=hw (q + 1) (by omega) (by simpa using an); rw [← this]; congr 1; omega)
 | .new _ :: r,b + 1,k,h,hw=>by rw [List.take_succ_cons]; exact yE (r:=r) b (k + 1) h (fun q hq an=>by have:=hw (q + 1) (by omega) (by simpa using an); rw [← this]; congr 1; omega)
 | .lb _ _ :: r,b + 1,k,h,hw=>by rw [List.take_succ_cons]; exact yE (r:=r) b (k + 1) h (fun q hq an=>by have:=hw (q + 1) (by omega) (by simpa using an); rw [← this]; congr 1; omega)
def I7 (P:Program) (o:Oper) (cp:dB):Prop:=
 o.guard=none∧ ∃ jB,(∀ A W,cp.holds A W jB)∧ ∀ (a:Act) W,(execOp a.eval o).run P W= .ok (.value (.pointer (some ⟨W.heap.size,0,none⟩))) (W.alloc jB)
def AV (c:c8) (E:List (Nat × I)) (L:List aN) (o:Oper) (p:Nat) (cp:dB):Prop:=
 o.guard=none∧o.dst=none∧ ∀ a W,bG c E L a W→ ∃ cs dK T,W.heap[p]? =some (.cells cs T (0,0))∧ (execOp a.eval o).run c.P W= .ok .skip (W.setRow p dK)∧cp.holds (aP L ++ c.b2) W (.cells dK T (0,0))
def pR (c:c8) (ops:Array Oper) (bs:Nat→Nat) (ek:List (Option Nat)) (all:List e5) (E:List (Nat × I)) (L:List aN):Nat→List Oper→List e5→List (List Nat)→Prop
 | _,_,[],_=>True
 | i,o :: os,.val τ :: hs,d :: ds=>(∀ aC:List aN,(∀ (j:Nat) (e:aN),L[j]? =some e→ow (fun k=>Region.waitsFor .any ops k i) j 0 all=true→aC[j]? =some e)→ke c ops (he bs ek all E d) aC o τ)∧pR c ops bs ek all E L (i + 1) os hs ds
 | i,o :: os,.new cp :: hs,_ :: ds=>I7 c.P o cp∧pR c ops bs ek all E L (i + 1) os hs ds
 | i,o :: os,.jJ k cp :: hs,d :: ds=>(∃ (p:Nat) (mB:dB),(dV L (all.take i))[k]? =some ⟨some p,mB⟩∧ ∀ aC:List aN,(∀ (j:Nat) (e:aN),(dV L (all.take i))[j]? =some e→aC[j]? =some e)→AV c (he bs ek all E d) aC o p cp)∧pR c ops bs ek all E L (i + 1) os hs ds
 | i,o :: os,.lb k cp :: hs,d :: ds=>(d.contains k=true∧ ∃ mB:dB,all[k]? =some (.new mB)∧ ∀ (aC:List aN) (q:Nat),aC[q]? =some ⟨some (bs k),h2 k mB (all.take i)⟩→AV c (he bs ek all E d) aC o (bs k) cp)∧pR c ops bs ek all E L (i + 1) os hs ds
 | _,_,_,_=>False
def Db (ops:Array Oper) (n:Nat) (ek:List (Option Nat)) (q8:List (List Nat)) (Aa:List Bool) (xi:Nat):Bool:=
 decide (ek.length=n) && decide (n≤ops.size) && (ek.filterMap id).all (Nat.blt · xi) && decide (ek.filterMap id).Nodup &&
 ((List.range n).all fun i=>((ops[i]?).map fun o=>(some o.dst ==ek[i]?) && (o.after.all fun e=> !Region.binds .any e || decide (e.on < i))).getD false) &&
 ((List.range n).all fun i=>(q8.getD i []).all fun j=>decide (j < n) && Region.waitsFor .any ops i j) &&
 ((List.range n).all fun i=> !(Aa.getD i false) || ((List.range i).all fun j=> !(Aa.getD j false) || Region.waitsFor .any ops i j)) &&
 (decide (n=ops.size) || (Region.sinkB .any ops n && Region.chainB .any ops n)) &&
 Region.seqB .any ops (ops.size - n) n ((List.range n).foldl (fun l i=>l.setIfInBounds i true) (Array.replicate ops.size false))
def zS (E:List (Nat × I)) (ek:List Nat):Bool:=match E with
 | []=>true
 | e :: r=> !(ek.contains e.1) && zS r ek
theorem Fc {ek:List Nat} :∀ {E:List (Nat × I)},zS E ek=true→ ∀ t τ,look E t=some τ→t ∉ ek
 | [],_,t,τ,h=>by simp [look] at h
 | (s,σ) :: r,hd,t,τ,h=>by
   simp only [zS,Bool.and_eq_true,Bool.not_eq_true'] at hd
   simp only [look] at h
   by_cases e:Nat.beq s t=true
   ·have:=ep.1 e
    subst this
    simpa using hd.1
   ·simp only [Bool.not_eq_true] at e
    rw [e] at h
    exact Fc hd.2 t τ h
theorem Gi (f g:Nat→Bool) (i:Nat) (a7:f i=true) (bZ:g i=false) (h:∀ j,g j=true→f j=true):∀ n,i < n→ ((List.range n).filter g).length < ((List.range n).filter f).length:=by
 have le:∀ n,((List.range n).filter g).length≤ ((List.range n).filter f).length:=by
  intro n
  induction n with
  | zero=>simp
  | succ n bO=>
    rw [List.range_succ,List.filter_append,List.filter_append,List.length_append,List.length_append]
    have:([n].filter g).length≤ ([n].filter f).length:=by
     cases rp:g n with
     | false=>simp [rp]
     | true=>simp [rp,h n rp]
    omega
 intro n
 induction n with
 | zero=>omega
 | succ n bO=>
   intro cv
   rw [List.range_succ,List.filter_append,List.filter_append,List.length_append,List.length_append]
   by_cases e:i=n
   ·subst e
    have:=le i
    simp [a7,bZ]
    omega
   ·have J:=bO (by omega)
    have:([n].filter g).length≤ ([n].filter f).length:=by
     cases rp:g n with
     | false=>simp [rp]
     | true=>simp [rp,h n rp]
    omega
theorem Fe {bs:Nat→Nat} {ek:List (Option Nat)} {all:List e5} :∀ {k:Nat} {os:List Oper} {hs:List e5} {ds:List (List Nat)},pR c ops bs ek all E L k os hs ds→
 ∀ (i:Nat) h,hs[i]? =some h→ ∃ o,os[i]? =some o∧ (match h with
   | .val τ=> ∀ aC:List aN,(∀ (j:Nat) (e:aN),L[j]? =some e→ow (fun q=>Region.waitsFor .any ops q (k + i)) j 0 all=true→aC[j]? =some e)→ke c ops (he bs ek all E (ds.getD i [])) aC o τ
   | .new cp=>I7 c.P o cp
   | .jJ q cp=> ∃ (p:Nat) (mB:dB),(dV L (all.take (k + i)))[q]? =some ⟨some p,mB⟩∧ ∀ aC:List aN,(∀ (j:Nat) (e:aN),(dV L (all.take (k + i)))[j]? =some e→aC[j]? =some e)→AV c (he bs ek all E (ds.getD i [])) aC o p cp
   | .lb q cp=>(ds.getD i []).contains q=true∧ ∃ mB:dB,all[q]? =some (.new mB)∧ ∀ (aC:List aN) (r:Nat),aC[r]? =some ⟨some (bs q),h2 q mB (all.take (k + i))⟩→AV c (he bs ek all E (ds.getD i [])) aC o (bs q) cp)
 | k,os,[],ds,_,i,h,aj=>by simp at aj
 | k,[],h :: hs,ds,cE,_,_,_=>by cases h <;> simp [pR] at cE
 | k,o :: os,h :: hs,[],cE,_,_,_=>by cases h <;> simp [pR] at cE
 | k,o :: os,bP :: hs,d :: ds,cE,i,h,aj=>by
   have hd:pR c ops bs ek all E L (k + 1) os hs ds:=by cases bP <;> exact cE.2
   cases i with
   | zero=>
     simp only [List.getElem?_cons_zero,Option.some.injEq] at aj
     subst aj
     refine⟨o,by simp,?_⟩
     cases bP <;> exact cE.1
   | succ i=>
     simp only [List.getElem?_cons_succ] at aj
     obtain⟨o',J,ab⟩:=Fe hd i h aj
     refine⟨o',by simpa using J,?_⟩
     rw [show k + (i + 1)=k + 1 + i by omega]
     cases h <;> exact ab
theorem L5 {bs:Nat→Nat} {ek:List (Option Nat)} {hs:List e5} {t:Nat} {τ:I} :∀ {ds:List Nat},look (he bs ek hs E ds) t=some τ→ (∃ j∈ds,ek[j]? =some (some t)∧ ∃ h,hs[j]? =some h∧h.qh (bs j)=some τ)∨look E t=some τ
 | [],h=> .inr h
 | j :: r,h=>by
   have rest:look (he bs ek hs E r) t=some τ→ (∃ k∈j :: r,ek[k]? =some (some t)∧ ∃ h,hs[k]? =some h∧h.qh (bs k)=some τ)∨look E t=some τ:=fun h=>by
    rcases L5 h with⟨k,aq,J⟩ | J
    ·exact .inl ⟨k,List.mem_cons_of_mem _ aq,J⟩
    ·exact .inr J
   simp only [he] at h
   split at h
   ·rename_i s aq sX rq
    split at h
    ·rename_i σ lh
     simp only [look] at h
     by_cases e:Nat.beq s t=true
     ·rw [e] at h
      simp only [cond_true,Option.some.injEq] at h
      subst h
      exact .inl ⟨j,by simp,by rw [sX,ep.1 e],aq,rq,lh⟩
     ·simp only [Bool.not_eq_true] at e
      rw [e] at h
      exact rest h
    ·exact rest h
   ·exact rest h
def sJ (bs:Nat→Nat) (E:List (Nat × I)):Nat→List (Option Nat)→List e5→List (Nat × I)
 | i,some s :: gk,.val τ :: hs=>(s,τ) :: sJ bs E (i + 1) gk hs
 | i,some s :: gk,.new _ :: hs=>(s,.eq (.pointer (some ⟨bs i,0,none⟩))) :: sJ bs E (i + 1) gk hs
 | i,_ :: gk,_ :: hs=>sJ bs E (i + 1) gk hs
 | _,_,_=>E
def lG (bs:Nat→Nat) (all:List e5) (L:List aN):Nat→List e5→List aN
 | i,.new cp :: hs=>⟨some (bs i),h2 i cp all⟩ :: lG bs all L (i + 1) hs
 | i,_ :: hs=>lG bs all L (i + 1) hs
 | _,[]=>L
theorem K1 {bs:Nat→Nat} {t:Nat} {τ:I} :∀ {ek:List (Option Nat)} {hs:List e5} (k:Nat),look (sJ bs E k ek hs) t=some τ→
 (∃ j:Nat,ek[j]? =some (some t)∧ ∃ h,hs[j]? =some h∧h.qh (bs (k + j))=some τ)∨look E t=some τ
 | [],hs,k,h=> .inr (by cases hs <;> exact h)
 | s :: gk,[],k,h=> .inr (by cases s <;> exact h)
 | s :: gk,x :: hs,k,h=>by
   have rest:look (sJ bs E (k + 1) gk hs) t=some τ→ (∃ j:Nat,(s :: gk)[j]? =some (some t)∧ ∃ h,(x :: hs)[j]? =some h∧h.qh (bs (k + j))=some τ)∨look E t=some τ:=fun h=>by
    rcases K1 (k + 1) h with⟨j,J,ab⟩ | J
    ·refine .inl ⟨j + 1,by simpa using J,?_⟩
     rw [show k + (j + 1)=k + 1 + j by omega]
     simpa using ab
    ·exact .inr J
   have one:∀ (b8:Nat) (σ:I),s=some b8→x.qh (bs k)=some σ→look ((b8,σ) :: sJ bs E (k + 1) gk hs) t=some τ→ (∃ j:Nat,(s :: gk)[j]? =some (some t)∧ ∃ h,(x :: hs)[j]? =some h∧h.qh (bs (k + j))=some τ)∨look E t=some τ:=fun b8 σ fe lh h=>by
    simp only [look] at h
    by_cases e:Nat.beq b8 t=true
    ·rw [e] at h
     simp only [cond_true,Option.some.injEq] at h
     subst h
     exact .inl ⟨0,by simp [fe,ep.1 e],x,by simp,by simpa using lh⟩
    ·simp only [Bool.not_eq_true] at e
     rw [e] at h
     exact rest h
   cases s with
   | none=>cases x <;> exact rest h
   | some b8=>
     cases x with
     | val σ=>exact one b8 σ rfl rfl h
     | new cp=>exact one b8 _ rfl rfl h
     | jJ i cp=>exact rest h
     | lb i cp=>exact rest h
theorem KF {n:Nat} {bl:Array Bool} (inv:HeadInv .any ops n bl) (aO:n≤ops.size) (ix:∀ i,i < n→bl.getD i true=true):
 bl=(List.range n).foldl (fun l i=>l.setIfInBounds i true) (Array.replicate ops.size false):=by
 have key:∀ m,m≤ops.size→ ((List.range m).foldl (fun l i=>l.setIfInBounds i true) (Array.replicate ops.size false)).size=ops.size∧
  ∀ j (d:Bool),j < ops.size→ ((List.range m).foldl (fun l i=>l.setIfInBounds i true) (Array.replicate ops.size false)).getD j d=decide (j < m):=by
  intro m
  induction m with
  | zero=>intro _; exact⟨by simp,fun j d aF=>by simp [aF]⟩
  | succ m bO=>
    intro hm
    obtain⟨J,ab⟩:=bO (by omega)
    rw [List.range_succ,List.foldl_append]
    simp only [List.foldl_cons,List.foldl_nil]
    refine⟨by simpa using J,fun j d aF=> ?_⟩
    by_cases e:m=j
    ·subst e
     simp [J,aF]
    ·rw [getD_set_ne d e,ab j d aF]
     by_cases aE:j < m
     ·simp [aE]; omega
     ·simp [aE]; omega
 obtain⟨J,ab⟩:=key n aO
 apply Array.ext
 ·rw [inv.size,J]
 ·intro i p7 Ab
  have aj:i < ops.size:=by rw [← inv.size]; exact p7
  have aE:=ab i true aj
  have ay:bl.getD i true=bl[i]:=by simp [p7]
  have aS:((List.range n).foldl (fun l i=>l.setIfInBounds i true) (Array.replicate ops.size false)).getD i true=((List.range n).foldl (fun l i=>l.setIfInBounds i true) (Array.replicate ops.size false))[i]:=by
   simp [Ab]
  rw [← aS,aE,← ay]
  by_cases aW:i < n
  ·rw [ix i aW]; simp [aW]
  ·rw [inv.tail i (by omega) aj]; simp [aW]
theorem vQ (bs:Nat→Nat) (all:List e5) (L:List aN):∀ (hs:List e5) (i:Nat),lG bs all L i hs=lG bs all [] i hs ++ L
 | [],_=>rfl
 | .new cp :: hs,i=>by simp only [lG]; rw [vQ bs all L hs (i + 1)]; rfl
 | .val _ :: hs,i=>vQ bs all L hs (i + 1)
 | .jJ _ _ :: hs,i=>vQ bs all L hs (i + 1)
 | .lb _ _ :: hs,i=>vQ bs all L hs (i + 1)
theorem Ff {bs:Nat→Nat} {all:List e5} {e:aN} :∀ {hs:List e5} {i:Nat},e∈lG bs all [] i hs→ ∃ (j:Nat) (cp:dB),hs[j]? =some (.new cp)∧e=⟨some (bs (i + j)),h2 (i + j) cp all⟩
 | [],_,h=>by simp [lG] at h
 | x :: hs,i,h=>by
   have rest:e∈lG bs all [] (i + 1) hs→ ∃ (j:Nat) (cp:dB),(x :: hs)[j]? =some (.new cp)∧e=⟨some (bs (i + j)),h2 (i + j) cp all⟩:=fun h=>by
    obtain⟨j,cp,J,ab⟩:=Ff (hs:=hs) (i:=i + 1) h
    refine⟨j + 1,cp,by simpa using J,?_⟩
    rw [show i + (j + 1)=i + 1 + j by omega]; exact ab
   cases x with
   | new cp=>
     rcases List.mem_cons.1 h with h | h
     ·exact⟨0,cp,by simp,by simpa using h⟩
     ·exact rest h
   | val _=>exact rest h
   | jJ _ _=>exact rest h
   | lb _ _=>exact rest h
theorem J3 {bs:Nat→Nat} {all:List e5} :∀ (hs:List e5) (i:Nat),(∀ (j k:Nat) (u v:dB),hs[j]? =some (.new u)→hs[k]? =some (.new v)→bs (i + j)=bs (i + k)→j=k)→ (aP (lG bs all [] i hs)).Nodup
 | [],_,_=>by simp [lG,aP]
 | x :: hs,i,h=>by
   have aQ:(aP (lG bs all [] (i + 1) hs)).Nodup:=J3 hs (i + 1) fun j k u v J ab aE=>by
    have:=h (j + 1) (k + 1) u v (by simpa using J) (by simpa using ab) (by rw [show i + (j + 1)=i + 1 + j by omega,show i + (k + 1)=i + 1 + k by omega]; exact aE)
    omega
   cases x with
   | val _=>exact aQ
   | jJ _ _=>exact aQ
   | lb _ _=>exact aQ
   | new cp=>
     simp only [lG,aP]
     refine List.nodup_cons.2 ⟨fun hm=> ?_,aQ⟩
     obtain⟨e,he,aq⟩:=kH.1 hm
     obtain⟨j,u,J,ab⟩:=Ff he
     rw [ab] at aq
     simp only [Option.some.injEq] at aq
     have:=h 0 (j + 1) cp u (by simp) (by simpa using J) (by rw [show i + (j + 1)=i + 1 + j by omega]; simpa using aq.symm)
     omega
def e8 (bs:Nat→Nat) (all:List e5) (b:Nat) (dt:List Nat):List aN:=dt.map fun j=>⟨some (bs j),match all[j]? with | some (.new cp)=>h2 j cp (all.take b) | _=> .dead⟩
theorem yV (bs:Nat→Nat) (all:List e5) (b:Nat):∀ (dt:List Nat),aP (e8 bs all b dt)=dt.map bs
 | []=>rfl
 | j :: dt=>by
   have:=yV bs all b dt
   simp only [e8,List.map_cons,aP] at this ⊢
   rw [this]
structure w7 (c:c8) (n:Nat) (ek:List (Option Nat)) (hs:List e5) (E:List (Nat × I)) (L:List aN) (bl:Array Bool) (bs:Nat→Nat) (dt:List Nat) (b:Nat) (a:Act) (W:World):Prop where
 st:bG c E (dV L (hs.take b) ++ e8 bs hs b dt) a W
 done:∀ (j:Nat) s h τ,j < n→bl.getD j false=true→ek[j]? =some (some s)→hs[j]? =some h→h.qh (bs j)=some τ→ ∃ v,a.tmps[s]? =some v∧τ.holds (aP (dV L (hs.take b) ++ e8 bs hs b dt) ++ c.b2) W v
 news:∀ (j:Nat),j∈dt↔ (j < n∧bl.getD j false=true∧ ∃ cp,hs[j]? =some (.new cp))
 stored:∀ (j:Nat) h,hs[j]? =some h→h.m0=true→ (bl.getD j false=true↔j < b)
 ble:b≤n
theorem TF {hs:List e5} {b i:Nat} {h:e5} (hb:b≤i) (aj:hs[i]? =some h) (aO:∀ (j:Nat) x,b≤j→j < i→hs[j]? =some x→x.m0=false):
 ∃ r,hs.take i=hs.take b ++ r∧ ∀ x∈r,x.m0=false:=by
 refine⟨(hs.drop b).take (i - b),?_,fun x an=> ?_⟩
 ·rw [← List.take_add]; congr 1; omega
 ·obtain⟨j,aF⟩:=List.mem_iff_getElem?.1 an
  rw [List.getElem?_take] at aF
  split at aF
  ·rw [List.getElem?_drop] at aF
   exact aO (b + j) x (by omega) (by omega) aF
  ·cases aF
theorem FP (L:List aN) (r s:List e5):dV L (r ++ s)=dV (dV L r) s:=by
 induction r generalizing L with
 | nil=>rfl
 | cons x r bO=>cases x <;> simp only [List.cons_append,dV] <;> exact bO _
theorem Fm (j:Nat) (cp:dB) (r s:List e5):h2 j cp (r ++ s)=h2 j (h2 j cp r) s:=by
 induction r generalizing cp with
 | nil=>rfl
 | cons x r bO=>cases x <;> simp only [List.cons_append,h2] <;> exact bO _
theorem tK {L R:List aN} (h:L.Perm R):(aP L).Perm (aP R):=by
 induction h with
 | nil=>exact .nil
 | cons x _ bO=>cases aq:x.key <;> simp only [aP,aq] <;> first | exact bO | exact bO.cons _
 | swap x y l=>
   cases an:x.key <;> cases a4:y.key <;> simp only [aP,an,a4]
   all_goals first | exact .refl _ | exact .swap _ _ _
 | trans _ _ J ab=>exact J.trans ab
theorem bG.perm {E L aC a W} (h:bG c E L a W) (p:L.Perm aC):bG c E aC a W:=
 h.sub (fun e he=>p.mem_iff.2 he) ((tK p).nodup_iff.1 h.nodup)
theorem yA {j:Nat} {cp:dB} :∀ {r:List e5},(∀ q x,e5.lb q x∈r→q≠j)→h2 j cp r=cp
 | [],_=>rfl
 | .lb q x :: r,h=>by
   have J:=h q x (by simp)
   have e:Nat.beq q j=false:=by
    cases hb:Nat.beq q j with
    | false=>rfl
    | true=>exact absurd (ep.1 hb) J
   simp only [h2,e,cond_false]
   exact yA fun q x hm=>h q x (by simp [hm])
 | .val _ :: r,h=>yA (r:=r) fun q x hm=>h q x (by simp [hm])
 | .new _ :: r,h=>yA (r:=r) fun q x hm=>h q x (by simp [hm])
 | .jJ _ _ :: r,h=>yA (r:=r) fun q x hm=>h q x (by simp [hm])
theorem Kl (f:Nat→Nat):∀ (l:List Nat),(l.map f).Nodup→l.Nodup
 | [],_=>by simp
 | x :: r,h=>by
   simp only [List.map_cons] at h
   obtain⟨J,ab⟩:=List.nodup_cons.1 h
   exact List.nodup_cons.2 ⟨fun hm=>J (List.mem_map.2 ⟨x,hm,rfl⟩),Kl f r ab⟩
theorem Uo {bs mC:Nat→Nat} {all:List e5} {b:Nat} {dt:List Nat} (h:∀ j∈dt,mC j=bs j):e8 mC all b dt=e8 bs all b dt:=by
 unfold e8
 exact List.map_congr_left fun j aF=>by rw [h j aF]
theorem S9 {n:Nat} {ek:List (Option Nat)} {hs:List e5} {q8:List (List Nat)} (g2:Db ops n ek q8 (hs.map e5.m0) c.n=true) (aL:zS E (ek.filterMap id)=true) (hlen:hs.length=n)
 (cE:∀ bs,pR c ops bs ek hs E L 0 ops.toList hs q8) (cc:∀ bs,ak c ops Q (ops.toList.drop n) (sJ bs E 0 ek hs) (lG bs hs (dV L hs) 0 hs)):
 ∀ m (bl:Array Bool) (bs:Nat→Nat) (dt:List Nat) (b:Nat) (a:Act) (W:World),((List.range n).filter fun i=> !bl.getD i true).length≤m→HeadInv .any ops n bl→w7 c n ek hs E L bl bs dt b a W→
   wpAnyIn c.F 9 c.P .any ops Q (m + (ops.size - n)) bl a W:=by
 simp only [Db,Bool.and_eq_true,decide_eq_true_eq,Bool.or_eq_true] at g2
 obtain⟨⟨⟨⟨⟨⟨⟨⟨lK,aO⟩,cv⟩,hA⟩,YE⟩,N6⟩,YF⟩,zr⟩,uG⟩:=g2
 have rr:∀ i,i < n→ ∃ o,ops[i]? =some o∧ek[i]? =some o.dst∧ ∀ e∈o.after,Region.binds .any e=true→e.on < i:=by
  intro i aj
  have J:=List.all_eq_true.1 YE i (List.mem_range.2 aj)
  cases bo:ops[i]? with
  | none=>simp [bo] at J
  | some o=>
    simp only [bo,Option.map_some,Option.getD_some,Bool.and_eq_true,beq_iff_eq] at J
    refine⟨o,rfl,J.1.symm,fun e he hb=> ?_⟩
    have:=Array.all_eq_true_iff_forall_mem.1 J.2 e he
    simp [hb] at this
    exact this
 have Dp:∀ (i s:Nat),ek[i]? =some (some s)→s < c.n:=fun i s h=>by
  have:s∈ek.filterMap id:=List.mem_filterMap.2 ⟨some s,List.mem_of_getElem? h,rfl⟩
  have:=List.all_eq_true.1 cv s this
  simpa using this
 have OK:∀ (i j s:Nat),ek[i]? =some (some s)→ek[j]? =some (some s)→i=j:=by
  have key:∀ (l:List (Option Nat)),(l.filterMap id).Nodup→ ∀ (i j s:Nat),l[i]? =some (some s)→l[j]? =some (some s)→i=j:=by
   intro l
   induction l with
   | nil=>intro _ i j s h; simp at h
   | cons x r bO=>
     intro hA i j s aj aF
     have aQ:(r.filterMap id).Nodup:=by
      cases x with
      | none=>simpa using hA
      | some y=>simp only [List.filterMap_cons_some (f:=id) (a:=some y) (b:=y) rfl] at hA; exact(List.nodup_cons.1 hA).2
     have sI:x=some s→s ∉ r.filterMap id:=fun e=>by
      subst e
      simp only [List.filterMap_cons_some (f:=id) (a:=some s) (b:=s) rfl] at hA
      exact(List.nodup_cons.1 hA).1
     cases i with
     | zero=>
       simp only [List.getElem?_cons_zero,Option.some.injEq] at aj
       cases j with
       | zero=>rfl
       | succ j=>
         simp only [List.getElem?_cons_succ] at aF
         exact absurd (List.mem_filterMap.2 ⟨some s,List.mem_of_getElem? aF,rfl⟩:s∈r.filterMap id) (sI aj)
     | succ i=>
       simp only [List.getElem?_cons_succ] at aj
       cases j with
       | zero=>
         simp only [List.getElem?_cons_zero,Option.some.injEq] at aF
         exact absurd (List.mem_filterMap.2 ⟨some s,List.mem_of_getElem? aj,rfl⟩:s∈r.filterMap id) (sI aF)
       | succ j=>
         simp only [List.getElem?_cons_succ] at aF
         rw [bO aQ i j s aj aF]
  exact key ek hA
 intro m
 induction m with
 | zero=>
   intro bl bs dt b a W hm inv mid
   have ix:∀ i,i < n→bl.getD i true=true:=by
    intro i aj
    cases h:bl.getD i true with
    | true=>rfl
    | false=>
      have:i∈ (List.range n).filter fun i=> !bl.getD i true:=List.mem_filter.2 ⟨List.mem_range.2 aj,by rw [h]; rfl⟩
      rw [List.length_eq_zero_iff.1 (Nat.le_zero.1 hm)] at this
      cases this
   have al:=KF inv aO ix
   rw [← al] at uG
   have jq:(ops.toList.drop n).length=ops.size - n:=by simp
   rw [Nat.zero_add,← jq]
   rw [← jq] at uG
   refine BU (ops.toList.drop n) n bl a W (fun j=>by simp) uG (cc bs a W ?_)
   have oc:∀ j,j < n→bl.getD j false=true:=fun j ru=>by
    have aE:=ix j ru
    have aW:j < bl.size:=by rw [inv.size]; omega
    simpa [aW] using aE
   have ru:∀ (j:Nat) (h:e5),hs[j]? =some h→j < n:=fun j h aF=>by have:=(List.getElem?_eq_some_iff.1 aF).1; omega
   have MS:∀ x∈hs.drop b,x.m0=false:=fun x an=>by
    obtain⟨j,aF⟩:=List.mem_iff_getElem?.1 an
    rw [List.getElem?_drop] at aF
    cases iB:x.m0 with
    | false=>rfl
    | true=>
      have:=(mid.stored (b + j) x aF iB).1 (oc _ (ru _ _ aF))
      omega
   have OL:dV L hs=dV L (hs.take b):=by
    conv=>lhs; rw [← List.take_append_drop b hs]
    rw [FP,Cf MS]
   have HU:∀ (j:Nat) cp,h2 j cp hs=h2 j cp (hs.take b):=fun j cp=>by
    conv=>lhs; rw [← List.take_append_drop b hs]
    rw [Fm,B8 MS]
   have G5:(dt.map bs).Nodup:=by
    have:=mid.st.nodup
    rw [e0,yV] at this
    exact(List.nodup_append.1 this).2.1
   have YG:∀ (j k:Nat),j∈dt→k∈dt→bs j=bs k→j=k:=by
    have key:∀ (l:List Nat),(l.map bs).Nodup→ ∀ j k:Nat,j∈l→k∈l→bs j=bs k→j=k:=by
     intro l
     induction l with
     | nil=>intro _ j k h; cases h
     | cons x r Zi=>
       intro aO j k aF aq e
       simp only [List.map_cons] at aO
       obtain⟨J,ab⟩:=List.nodup_cons.1 aO
       rcases List.mem_cons.1 aF with aE | aF
       ·rcases List.mem_cons.1 aq with aW | aq
        ·rw [aE,aW]
        ·exact absurd (List.mem_map.2 ⟨k,aq,by rw [← e,aE]⟩) J
       ·rcases List.mem_cons.1 aq with aW | aq
        ·exact absurd (List.mem_map.2 ⟨j,aF,by rw [e,aW]⟩) J
        ·exact Zi ab j k aF aq e
    exact key dt G5
   have HV:∀ (j:Nat) cp,hs[j]? =some (.new cp)→j∈dt:=fun j cp aF=>(mid.news j).2 ⟨ru j _ aF,oc j (ru j _ aF),cp,aF⟩
   have G6:∀ e∈lG bs hs [] 0 hs,e∈e8 bs hs b dt:=fun e he=>by
    obtain⟨j,cp,J,ab⟩:=Ff he
    rw [Nat.zero_add] at ab
    refine List.mem_map.2 ⟨j,HV j cp J,?_⟩
    simp only [J]
    rw [ab,HU]
   have Pc:bG c E (lG bs hs (dV L hs) 0 hs) a W:=by
    rw [vQ,OL]
    refine mid.st.sub (fun e he=> ?_) ?_
    ·rcases List.mem_append.1 he with he | he
     ·exact List.mem_append.2 (.inr (G6 e he))
     ·exact List.mem_append.2 (.inl he)
    ·rw [e0]
     have fZ:=mid.st.nodup
     rw [e0,yV] at fZ
     obtain⟨J,ab,aE⟩:=List.nodup_append.1 fZ
     refine List.nodup_append.2 ⟨J3 hs 0 fun j k u v ay aS cW=> ?_,J,fun x an y a4 e=> ?_⟩
     ·simp only [Nat.zero_add] at cW
      exact YG j k (HV j u ay) (HV k v aS) cW
     ·subst e
      obtain⟨e,he,sY⟩:=kH.1 an
      have:x∈aP (e8 bs hs b dt):=kH.2 ⟨e,G6 e he,sY⟩
      rw [yV] at this
      exact aE x a4 x this rfl
   have kJ:∀ k∈aP (lG bs hs (dV L hs) 0 hs) ++ c.b2,k∈aP (dV L (hs.take b) ++ e8 bs hs b dt) ++ c.b2:=fun k aq=>by
    rw [vQ,e0,OL] at aq
    rw [e0]
    simp only [List.mem_append] at aq ⊢
    rcases aq with(aq | aq) | aq
    ·obtain⟨e,he,sY⟩:=kH.1 aq
     exact .inl (.inr (kH.2 ⟨e,G6 e he,sY⟩))
    ·exact .inl (.inl aq)
    ·exact .inr aq
   refine { Pc with env:=fun t τ ev=> ?_ }
   rcases K1 0 ev with⟨j,J,h,ab,aE⟩ | J
   ·rw [Nat.zero_add] at aE
    obtain⟨v,aW,aX⟩:=mid.done j t h τ (ru j h ab) (oc j (ru j h ab)) J ab aE
    exact⟨v,aW,τ.mono (.drop kJ) aX⟩
   ·exact Pc.env t τ J
 | succ m bO=>
   intro bl bs dt b a W hm inv mid
   by_cases ix:∀ i,i < n→bl.getD i true=true
   ·have bP:((List.range n).filter fun i=> !bl.getD i true).length≤m:=by
     have:((List.range n).filter fun i=> !bl.getD i true)= []:=List.filter_eq_nil_iff.2 fun i aj=>by simp [ix i (List.mem_range.1 aj)]
     rw [this]; simp
    have J:=bO bl bs dt b a W bP inv mid
    have more:∀ f (bl:Array Bool) a W,wpAnyIn c.F 9 c.P .any ops Q f bl a W→wpAnyIn c.F 9 c.P .any ops Q (f + 1) bl a W:=by
     intro f
     induction f with
     | zero=>intro bl a W h; exact⟨fun _=>h.2,fun i aj=>by rw [h.1] at aj; cases aj⟩
     | succ f HW=>intro bl a W h; exact⟨h.1,fun i aj=>wpOpIn_mono (fun gI oJ cR=>HW _ gI oJ cR) (h.2 i aj)⟩
    rw [show m + 1 + (ops.size - n)=(m + (ops.size - n)) + 1 by omega]
    exact more _ _ _ _ J
   ·rw [show m + 1 + (ops.size - n)=(m + (ops.size - n)) + 1 by omega]
    have hex:∃ i,i < n∧bl.getD i true=false:=by
     have J: ¬ ∀ i,i < n→bl.getD i true=true:=ix
     false_or_by_contra
     rename_i ab
     exact J fun i aj=>by
      cases h:bl.getD i true with
      | true=>rfl
      | false=>exact absurd ⟨i,aj,h⟩ ab
    have Gj:∀ t∈Region.ready .any ops bl,t < n:=by
     intro t sZ
     rcases Nat.lt_or_ge t n with h | h
     ·exact h
     ·obtain⟨i,aj,j6⟩:=hex
      rcases zr with J | J
      ·obtain⟨_,o,bo,_⟩:=mem_ready.1 sZ
       have:=(Array.getElem?_eq_some_iff.1 bo).1
       omega
      ·have YH:n < ops.size:=by
        obtain⟨_,o,bo,_⟩:=mem_ready.1 sZ
        have:=(Array.getElem?_eq_some_iff.1 bo).1
        omega
       exact absurd sZ (tail_waits J.1 J.2 YH inv _ i rfl aj j6 t h)
    refine⟨fun bP=> ?_,fun i aj=> ?_⟩
    ·exfalso
     have Vg:∀ k,∀ i,i≤k→i < n→bl.getD i true=false→ ∃ i,i < n∧bl.getD i true=false∧ ∀ j,j < i→bl.getD j true=true:=by
      intro k
      induction k with
      | zero=>intro i e4 aj hu; exact⟨i,aj,hu,fun j aF=>by omega⟩
      | succ k HX=>
        intro i e4 aj hu
        by_cases hq:∀ j,j < i→bl.getD j true=true
        ·exact⟨i,aj,hu,hq⟩
        ·have:∃ j,j < i∧bl.getD j true=false:=by
          false_or_by_contra
          rename_i ab
          exact hq fun j aF=>by
           cases h:bl.getD j true with
           | true=>rfl
           | false=>exact absurd ⟨j,aF,h⟩ ab
         obtain⟨j,aF,Zj⟩:=this
         exact HX j (by omega) (by omega) Zj
     obtain⟨i0,Ac,Zk⟩:=hex
     obtain⟨i,aj,hu,Hx⟩:=Vg i0 i0 (Nat.le_refl _) Ac Zk
     obtain⟨o,bo,_,CL⟩:=rr i aj
     have:i∈Region.ready .any ops bl:=mem_ready.2 ⟨hu,o,bo,fun e he hb=>by
      have J:=Hx e.on (CL e he hb)
      have ab:e.on < bl.size:=by rw [inv.size]; have:=CL e he hb; omega
      simpa [ab] using J⟩
     rw [bP] at this
     cases this
    ·have eJ:=Gj i aj
     obtain⟨o,bo,l2,CL⟩:=rr i eJ
     obtain⟨j6,o',rn,oc⟩:=mem_ready.1 aj
     have Zl:o'=o:=Option.some.inj (rn.symm.trans bo)
     subst Zl
     obtain⟨h,eE⟩:∃ h,hs[i]? =some h:=⟨hs[i]'(by omega),by simp⟩
     obtain⟨cT,hI,jh⟩:=Fe (cE bs) i h eE
     have YI:cT=o':=by
      rw [Array.getElem?_toList] at hI
      exact Option.some.inj (hI.symm.trans bo)
     subst YI
     have q9:((List.range n).filter fun j=> !(bl.setIfInBounds i true).getD j true).length≤m:=by
      have:((List.range n).filter fun j=> !(bl.setIfInBounds i true).getD j true).length < ((List.range n).filter fun j=> !bl.getD j true).length:=by
       refine Gi (fun j=> !bl.getD j true) (fun j=> !(bl.setIfInBounds i true).getD j true) i (by simp only [j6]; rfl) ?_ (fun j aF=> ?_) n eJ
       ·have:i < bl.size:=by rw [inv.size]; omega
        simp [this]
       ·by_cases e:i=j
        ·subst e; simp only [j6]; rfl
        ·rw [getD_set_ne true e] at aF; exact aF
      omega
     have uH:=inv.set aj eJ
     have sK:i < bl.size:=by rw [inv.size]; omega
     have wN:(bl.setIfInBounds i true).getD i false=true:=by simp [sK]
     have mu:bl.getD i false=false:=getD_both j6
     have YJ:i ∉ dt:=fun hm=>by have:=((mid.news i).1 hm).2.1; rw [mu] at this; cases this
     have Dq:∀ j∈q8.getD i [],j < n∧bl.getD j false=true:=fun j aF=>by
      have aE:=List.all_eq_true.1 (List.all_eq_true.1 N6 i (List.mem_range.2 eJ)) j aF
      simp only [Bool.and_eq_true,decide_eq_true_eq] at aE
      obtain⟨nf,kP,e,he,hb,nN⟩:=Region.waitsFor_spec aE.2
      have:nf=cT:=Option.some.inj (kP.symm.trans bo)
      subst this
      have aW:=oc e he hb
      rw [nN] at aW
      exact⟨aE.1,aW⟩
     have kQ:bG c (he bs ek hs E (q8.getD i [])) (dV L (hs.take b) ++ e8 bs hs b dt) a W:=by
      refine { mid.st with env:=fun t σ ev=> ?_ }
      rcases L5 ev with⟨j,aF,J,x,ab,aE⟩ | J
      ·exact mid.done j t x σ (Dq j aF).1 (Dq j aF).2 J ab aE
      ·exact mid.st.env t σ J
     have L6:h.m0=true→b≤i∧ ∃ r,hs.take i=hs.take b ++ r∧ ∀ x∈r,x.m0=false:=fun OM=>by
      have DK:b≤i:=by
       rcases Nat.lt_or_ge i b with J | J
       ·have:=(mid.stored i h eE OM).2 J
        rw [mu] at this; cases this
       ·exact J
      refine⟨DK,TF DK eE fun j x lL ku an=> ?_⟩
      cases iB:x.m0 with
      | false=>rfl
      | true=>
        have aE:=List.all_eq_true.1 YF i (List.mem_range.2 eJ)
        have ay:(hs.map e5.m0).getD i false=true:=by simp [eE,OM]
        simp only [ay,Bool.not_true,Bool.false_or] at aE
        have aW:=List.all_eq_true.1 aE j (List.mem_range.2 ku)
        have aS:(hs.map e5.m0).getD j false=true:=by simp [an,iB]
        simp only [aS,Bool.not_true,Bool.false_or] at aW
        obtain⟨nf,kP,e,he,hb,nN⟩:=Region.waitsFor_spec aW
        have:nf=cT:=Option.some.inj (kP.symm.trans bo)
        subst this
        have aX:=oc e he hb
        rw [nN] at aX
        have:=(mid.stored j x an iB).1 aX
        omega
     unfold wpOpIn
     simp only [bo]
     cases h with
     | val τ=>
       simp only at jh
       have Zm:=jh (dV L (hs.take b) ++ e8 bs hs b dt) (fun j e aF hu=>by
        have J:(dV L (hs.take b))[j]? =some e:=by
         rw [yE b 0 hu (fun q hq ⟨PZ,cp',an⟩=>by
          have Zn:=(mid.stored q _ an rfl).2 hq
          cases hw:Region.waitsFor .any ops (0 + q) (0 + i) with
          | false=>rfl
          | true=>
            obtain⟨HY,Dr,e',DL,p8,ON⟩:=Region.waitsFor_spec hw
            rw [Nat.zero_add] at Dr ON
            have:=inv.closed q HY Dr Zn e' DL p8
            rw [ON,mu] at this
            cases this)]
         exact aF
        rw [List.getElem?_append_left (List.getElem?_eq_some_iff.1 J).1]; exact J)
       obtain⟨J,ab⟩:=Zm a W kQ
       have uo:∀ v W',Fr [] W W'→τ.holds (aP (dV L (hs.take b) ++ e8 bs hs b dt) ++ c.b2) W' v→w7 c n ek hs E L (bl.setIfInBounds i true) bs dt b (a.put cT.dst v) W':=by
        intro v W' f a3
        have ja:=mid.st.world f
        refine⟨?_,fun j b8 x σ aF al fe an lh=> ?_,fun j=> ?_,fun j x an iB=> ?_,mid.ble⟩
        ·cases hd:cT.dst with
         | none=>exact ja
         | some s=>
           rw [hd] at l2
           refine { (ja.put (d:=s) (Dp i s l2) a3) with env:=fun t σ ev=> ?_ }
           have dk:s≠t:=fun e=>Fc aL t σ ev (by rw [← e]; exact List.mem_filterMap.2 ⟨some s,List.mem_of_getElem? l2,rfl⟩)
           obtain⟨u,aX,bk⟩:=ja.env t σ ev
           exact⟨u,by simp only [Act.put]; rw [Array.getElem?_setIfInBounds_ne dk]; exact aX,bk⟩
        ·by_cases e:i=j
         ·subst e
          rw [l2] at fe
          rw [eE] at an
          cases an
          simp only [e5.qh,Option.some.injEq] at lh
          subst lh
          simp only [Option.some.injEq] at fe
          rw [fe]
          exact⟨v,by rw [fe] at l2; simp [Act.put,ja.size,Dp i b8 l2],a3⟩
         ·rw [getD_set_ne false e] at al
          obtain⟨u,aX,bk⟩:=mid.done j b8 x σ aF al fe an lh
          refine⟨u,?_,σ.mono (.dw f) bk⟩
          cases hd:cT.dst with
          | none=>exact aX
          | some s=>
            rw [hd] at l2
            have dk:s≠b8:=fun aS=>e (OK i j s l2 (by rw [aS]; exact fe))
            simp only [Act.put]; rw [Array.getElem?_setIfInBounds_ne dk]; exact aX
        ·rw [mid.news j]
         by_cases e:i=j
         ·subst e
          constructor
          ·rintro ⟨_,aX,_⟩; rw [mu] at aX; cases aX
          ·rintro ⟨_,_,cp,aX⟩; rw [eE] at aX; cases aX
         ·rw [getD_set_ne false e]
        ·have e:i≠j:=fun e=>by subst e; rw [eE] at an; cases an; cases iB
         rw [getD_set_ne false e]
         exact mid.stored j x an iB
       split
       ·rename_i hw
        exact(J hw).wpIn fun v W' ⟨f,a3⟩=>bO _ bs dt b _ _ q9 uH (uo v W' f a3)
       ·rename_i hw
        have s0:Region.wanted cT (yielded ops a.tmps)=false:=by simpa using hw
        exact⟨fun _ _=>trivial,bO _ bs dt b _ _ q9 uH (uo undef W (.refl _ _) (ab s0))⟩
     | new cp=>
       simp only at jh
       obtain⟨Ad,jB,eA,kK⟩:=jh
       have Xe:∀ q x,e5.lb q x∈hs.take b→q≠i:=fun q x hm e=>by
        subst e
        obtain⟨j,aF⟩:=List.mem_iff_getElem?.1 hm
        rw [List.getElem?_take] at aF
        split at aF
        ·rename_i Zo
         have Zp:=(mid.stored j _ aF rfl).2 Zo
         have ru:j < n:=by have:=(List.getElem?_eq_some_iff.1 aF).1; omega
         obtain⟨nf,kP,Pd⟩:=Fe (cE bs) j _ aF
         simp only at Pd
         have aE:=List.all_eq_true.1 (List.all_eq_true.1 N6 j (List.mem_range.2 ru)) q (by simpa using Pd.1)
         simp only [Bool.and_eq_true,decide_eq_true_eq] at aE
         obtain⟨HY,Dr,e,he,hb,nN⟩:=Region.waitsFor_spec aE.2
         have:=inv.closed j HY Dr Zp e he hb
         rw [nN,mu] at this
         cases this
        ·cases aF
       have Ds:h2 i cp (hs.take b)=cp:=yA Xe
       let mC:Nat→Nat:=fun j=>if j=i then W.heap.size else bs j
       have Zq:∀ j,j∈dt→mC j=bs j:=fun j aF=>if_neg (fun e=>YJ (by rw [← e]; exact aF))
       have HZ:mC i=W.heap.size:=if_pos rfl
       have p9:dV L (hs.take b) ++ e8 mC hs b (i :: dt)=dV L (hs.take b) ++ (⟨some W.heap.size,cp⟩ :: e8 bs hs b dt):=by
        have:e8 mC hs b (i :: dt)=⟨some W.heap.size,cp⟩ :: e8 mC hs b dt:=by simp only [e8,List.map_cons,eE,HZ,Ds]
        rw [this,Uo Zq]
       have zT:w7 c n ek hs E L (bl.setIfInBounds i true) mC (i :: dt) b (a.put cT.dst (.pointer (some ⟨W.heap.size,0,none⟩))) (W.alloc jB):=by
        have ja:bG c E (dV L (hs.take b) ++ e8 mC hs b (i :: dt)) a (W.alloc jB):=by
         rw [p9]
         exact(mid.st.alloc (eA _ _)).perm List.perm_middle.symm
        have gZ:Ext (aP (dV L (hs.take b) ++ e8 bs hs b dt) ++ c.b2) W (aP (dV L (hs.take b) ++ e8 mC hs b (i :: dt)) ++ c.b2) (W.alloc jB):=by
         refine⟨by simp,fun k aq _=>CJ W jB k aq,fun k aq cv=> ?_⟩
         rw [p9] at aq
         simp only [e0,aP,List.mem_append,List.mem_cons] at aq ⊢
         rcases aq with(h | h | h) | h
         ·exact .inl (.inl h)
         ·omega
         ·exact .inl (.inr h)
         ·exact .inr h
        refine⟨?_,fun j b8 x σ aF al fe an lh=> ?_,fun j=> ?_,fun j x an iB=> ?_,mid.ble⟩
        ·cases hd:cT.dst with
         | none=>exact ja
         | some s=>
           rw [hd] at l2
           refine { (ja.put (d:=s) (τ:= .any) (Dp i s l2) trivial) with env:=fun t σ ev=> ?_ }
           have dk:s≠t:=fun e=>Fc aL t σ ev (by rw [← e]; exact List.mem_filterMap.2 ⟨some s,List.mem_of_getElem? l2,rfl⟩)
           obtain⟨u,aX,bk⟩:=ja.env t σ ev
           exact⟨u,by simp only [Act.put]; rw [Array.getElem?_setIfInBounds_ne dk]; exact aX,bk⟩
        ·by_cases e:i=j
         ·subst e
          rw [l2] at fe
          rw [eE] at an
          cases an
          simp only [e5.qh,Option.some.injEq] at lh
          subst lh
          simp only [Option.some.injEq] at fe
          rw [fe]
          exact⟨.pointer (some ⟨W.heap.size,0,none⟩),by rw [fe] at l2; simp [Act.put,ja.size,Dp i b8 l2],by rw [HZ]; rfl⟩
         ·rw [getD_set_ne false e] at al
          have Zr:mC j=bs j:=if_neg (fun e'=>e e'.symm)
          rw [Zr] at lh
          obtain⟨u,aX,bk⟩:=mid.done j b8 x σ aF al fe an lh
          refine⟨u,?_,σ.mono gZ bk⟩
          cases hd:cT.dst with
          | none=>exact aX
          | some s=>
            rw [hd] at l2
            have dk:s≠b8:=fun aS=>e (OK i j s l2 (by rw [aS]; exact fe))
            simp only [Act.put]; rw [Array.getElem?_setIfInBounds_ne dk]; exact aX
        ·rw [List.mem_cons,mid.news j]
         by_cases e:i=j
         ·subst e
          exact⟨fun _=>⟨eJ,wN,cp,eE⟩,fun _=> .inl rfl⟩
         ·rw [getD_set_ne false e]
          exact⟨fun h=>h.resolve_left (fun e'=>e e'.symm),.inr⟩
        ·have e:i≠j:=fun e=>by subst e; rw [eE] at an; cases an; cases iB
         rw [getD_set_ne false e]
         exact mid.stored j x an iB
       rw [if_pos (by simp [Region.wanted,Ad])]
       refine R1 (kK a W) ?_
       exact bO _ mC (i :: dt) b _ _ q9 uH zT
     | jJ q cp=>
       simp only at jh
       obtain⟨DK,r,mb,rv⟩:=L6 rfl
       have Pe:dV L (hs.take i)=dV L (hs.take b):=by rw [mb,FP,Cf rv]
       rw [Nat.zero_add,Pe] at jh
       obtain⟨p,mB,hq,s3⟩:=jh
       have gv:(dV L (hs.take b) ++ e8 bs hs b dt)[q]? =some ⟨some p,mB⟩:=by
        rw [List.getElem?_append_left (List.getElem?_eq_some_iff.1 hq).1]; exact hq
       obtain⟨Ad,Dt,s3⟩:=s3 (dV L (hs.take b) ++ e8 bs hs b dt) (fun j e aF=>by
        rw [List.getElem?_append_left (List.getElem?_eq_some_iff.1 aF).1]; exact aF)
       obtain⟨cs,dK,T,J,ab,aE⟩:=s3 a W kQ
       have sX:=mid.st.store gv J aE
       have wV:hs.take (i + 1)=hs.take i ++ [.jJ q cp]:=by rw [List.take_add_one,eE]; rfl
       have uR:dV L (hs.take (i + 1))=(dV L (hs.take b)).set q ⟨some p,cp⟩:=by
        rw [wV,KE,Pe]
        simp only [dV]
        exact S8 hq
       have H0:e8 bs hs (i + 1) dt=e8 bs hs b dt:=by
        unfold e8
        refine List.map_congr_left fun j _=> ?_
        congr 1
        split
        ·rw [wV,EY,mb,Fm,B8 rv]; rfl
        ·rfl
       have Ae:dV L (hs.take (i + 1)) ++ e8 bs hs (i + 1) dt=(dV L (hs.take b) ++ e8 bs hs b dt).set q ⟨some p,cp⟩:=by
        rw [uR,H0,List.set_append_left _ _ (List.getElem?_eq_some_iff.1 hq).1]
       have ry:aP (dV L (hs.take (i + 1)) ++ e8 bs hs (i + 1) dt)=aP (dV L (hs.take b) ++ e8 bs hs b dt):=by rw [Ae]; exact wo (cp:=cp) gv
       have m8:p∈aP (dV L (hs.take b) ++ e8 bs hs b dt):=kH.2 ⟨_,List.mem_of_getElem? gv,rfl⟩
       have gZ:Ext (aP (dV L (hs.take b) ++ e8 bs hs b dt) ++ c.b2) W (aP (dV L (hs.take b) ++ e8 bs hs b dt) ++ c.b2) (W.setRow p dK):=
        ⟨by simp,fun k _ a9=>setRow_other W p k dK (fun e=>a9 (e ▸ List.mem_append.2 (.inl m8))),fun _ h _=>h⟩
       have zT:w7 c n ek hs E L (bl.setIfInBounds i true) bs dt (i + 1) (a.put cT.dst undef) (W.setRow p dK):=by
        rw [Dt]
        refine⟨by rw [Ae]; exact sX,fun j b8 x σ aF al fe an lh=> ?_,fun j=> ?_,fun j x an iB=> ?_,eJ⟩
        ·rw [ry]
         by_cases e:i=j
         ·subst e; rw [eE] at an; cases an; cases lh
         ·rw [getD_set_ne false e] at al
          obtain⟨u,aX,bk⟩:=mid.done j b8 x σ aF al fe an lh
          exact⟨u,aX,σ.mono gZ bk⟩
        ·rw [mid.news j]
         by_cases e:i=j
         ·subst e
          constructor
          ·rintro ⟨_,aX,_⟩; rw [mu] at aX; cases aX
          ·rintro ⟨_,_,cp,aX⟩; rw [eE] at aX; cases aX
         ·rw [getD_set_ne false e]
        ·by_cases e:i=j
         ·subst e; exact⟨fun _=>by omega,fun _=>wN⟩
         ·rw [getD_set_ne false e,mid.stored j x an iB]
          constructor
          ·intro _; omega
          ·intro aF
           rcases Nat.lt_or_ge j b with aX | aX
           ·exact aX
           ·have:x∈r:=by
             have bk:(hs.take i)[j]? =some x:=by rw [List.getElem?_take,if_pos (by omega)]; exact an
             rw [mb,List.getElem?_append_right (by rw [List.length_take]; omega)] at bk
             exact List.mem_of_getElem? bk
            have:=rv x this
            rw [iB] at this; cases this
       rw [if_pos (by simp [Region.wanted,Ad])]
       refine Kj ab ?_
       exact bO _ bs dt (i + 1) _ _ q9 uH zT
     | lb q cp=>
       simp only at jh
       obtain⟨DK,r,mb,rv⟩:=L6 rfl
       obtain⟨OO,mB,H2,s3⟩:=jh
       rw [Nat.zero_add] at s3
       have Ds:∀ (j:Nat) x,h2 j x (hs.take i)=h2 j x (hs.take b):=fun j x=>by rw [mb,Fm,B8 rv]
       have YK:q∈dt:=(mid.news q).2 ⟨(Dq q (by simpa using OO)).1,(Dq q (by simpa using OO)).2,mB,H2⟩
       obtain⟨k,aq⟩:=List.mem_iff_getElem?.1 YK
       have zU:(e8 bs hs b dt)[k]? =some ⟨some (bs q),h2 q mB (hs.take i)⟩:=by
        simp only [e8,List.getElem?_map,aq,Option.map_some,H2,Ds]
       have gv:(dV L (hs.take b) ++ e8 bs hs b dt)[(dV L (hs.take b)).length + k]? =some ⟨some (bs q),h2 q mB (hs.take i)⟩:=by
        rw [List.getElem?_append_right (by omega),Nat.add_sub_cancel_left]; exact zU
       obtain⟨Ad,Dt,s3⟩:=s3 (dV L (hs.take b) ++ e8 bs hs b dt) _ gv
       obtain⟨cs,dK,T,J,ab,aE⟩:=s3 a W kQ
       have sX:=mid.st.store gv J aE
       have wV:hs.take (i + 1)=hs.take i ++ [.lb q cp]:=by rw [List.take_add_one,eE]; rfl
       have uR:dV L (hs.take (i + 1))=dV L (hs.take b):=by
        rw [wV,KE]
        simp only [dV]
        rw [mb,FP,Cf rv]
       have G5:dt.Nodup:=by
        have:=mid.st.nodup
        rw [e0,yV] at this
        exact Kl bs dt (List.nodup_append.1 this).2.1
       have H0:e8 bs hs (i + 1) dt=(e8 bs hs b dt).set k ⟨some (bs q),cp⟩:=by
        apply List.ext_getElem?
        intro j
        rw [List.getElem?_set]
        by_cases e:k=j
        ·subst e
         have H3:k < (e8 bs hs b dt).length:=(List.getElem?_eq_some_iff.1 zU).1
         rw [if_pos rfl,if_pos H3]
         simp only [e8,List.getElem?_map,aq,Option.map_some,H2]
         rw [wV,EY]
         simp [h2]
        ·rw [if_neg e]
         simp only [e8,List.getElem?_map]
         cases aF:dt[j]? with
         | none=>rfl
         | some x=>
           have H4:x≠q:=fun aS=>by
            subst aS
            obtain⟨eL,eR⟩:=List.getElem?_eq_some_iff.1 aF
            obtain⟨e6,gy⟩:=List.getElem?_eq_some_iff.1 aq
            exact e ((List.getElem_inj G5).1 (gy.trans eR.symm))
           simp only [Option.map_some]
           congr 2
           split
           ·rw [wV,EY,Ds]
            have:Nat.beq q x=false:=by
             cases hb:Nat.beq q x with
             | false=>rfl
             | true=>exact absurd (ep.1 hb).symm H4
            simp [h2,this]
           ·rfl
       have Ae:dV L (hs.take (i + 1)) ++ e8 bs hs (i + 1) dt=(dV L (hs.take b) ++ e8 bs hs b dt).set ((dV L (hs.take b)).length + k) ⟨some (bs q),cp⟩:=by
        rw [uR,H0,List.set_append_right _ _ (by omega),Nat.add_sub_cancel_left]
       have ry:aP (dV L (hs.take (i + 1)) ++ e8 bs hs (i + 1) dt)=aP (dV L (hs.take b) ++ e8 bs hs b dt):=by rw [Ae]; exact wo (cp:=cp) gv
       have m8:bs q∈aP (dV L (hs.take b) ++ e8 bs hs b dt):=kH.2 ⟨_,List.mem_of_getElem? gv,rfl⟩
       have gZ:Ext (aP (dV L (hs.take b) ++ e8 bs hs b dt) ++ c.b2) W (aP (dV L (hs.take b) ++ e8 bs hs b dt) ++ c.b2) (W.setRow (bs q) dK):=
        ⟨by simp,fun k _ a9=>setRow_other W (bs q) k dK (fun e=>a9 (e ▸ List.mem_append.2 (.inl m8))),fun _ h _=>h⟩
       have zT:w7 c n ek hs E L (bl.setIfInBounds i true) bs dt (i + 1) (a.put cT.dst undef) (W.setRow (bs q) dK):=by
        rw [Dt]
        refine⟨by rw [Ae]; exact sX,fun j b8 x σ aF al fe an lh=> ?_,fun j=> ?_,fun j x an iB=> ?_,eJ⟩
        ·rw [ry]
         by_cases e:i=j
         ·subst e; rw [eE] at an; cases an; cases lh
         ·rw [getD_set_ne false e] at al
          obtain⟨u,aX,bk⟩:=mid.done j b8 x σ aF al fe an lh
          exact⟨u,aX,σ.mono gZ bk⟩
        ·rw [mid.news j]
         by_cases e:i=j
         ·subst e
          constructor
          ·rintro ⟨_,aX,_⟩; rw [mu] at aX; cases aX
          ·rintro ⟨_,_,cp,aX⟩; rw [eE] at aX; cases aX
         ·rw [getD_set_ne false e]
        ·by_cases e:i=j
         ·subst e; exact⟨fun _=>by omega,fun _=>wN⟩
         ·rw [getD_set_ne false e,mid.stored j x an iB]
          constructor
          ·intro _; omega
          ·intro aF
           rcases Nat.lt_or_ge j b with aX | aX
           ·exact aX
           ·have:x∈r:=by
             have bk:(hs.take i)[j]? =some x:=by rw [List.getElem?_take,if_pos (by omega)]; exact an
             rw [mb,List.getElem?_append_right (by rw [List.length_take]; omega)] at bk
             exact List.mem_of_getElem? bk
            have:=rv x this
            rw [iB] at this; cases this
       rw [if_pos (by simp [Region.wanted,Ad])]
       refine Kj ab ?_
       exact bO _ bs dt (i + 1) _ _ q9 uH zT
theorem ag.draw {pf:Nat} {l:List Oper} (hm:c.P.follows .mixedOrders=true) (n:Nat) (ek:List (Option Nat)) (q8:List (List Nat)) (hs:List e5) (Aa:List Bool) (g2:Db l.toArray n ek q8 Aa c.n=true) (u9:hs.map e5.m0=Aa) (aL:zS E (ek.filterMap id)=true)
 (hlen:Nat.beq hs.length n=true) (cE:∀ bs,pR c l.toArray bs ek hs E L 0 l hs q8)
 (cc:∀ bs:Nat→Nat,ak c l.toArray Q (l.drop n) (sJ bs E 0 ek hs) (lG bs hs (dV L hs) 0 hs)):ag c Q (.region pf l.toArray true) E L:=fun a W s=>by
 subst u9
 refine wpIn_region_any hm ?_
 have aO:n≤l.toArray.size:=by
  simp only [Db,Bool.and_eq_true,decide_eq_true_eq] at g2
  exact g2.1.1.1.1.1.1.1.2
 have Hy:HeadInv .any l.toArray n (Array.replicate l.toArray.size false):=
  {size:=by simp
   closed:=fun j nf _ al=>by rw [getD_replicate_false] at al; cases al
   tail:=fun t _ cc=>by simp at cc; simp [cc] }
 have YL:w7 c n ek hs E L (Array.replicate l.toArray.size false) (fun _=>0) [] 0 a W.drew:=
  {st:=by simpa [dV,e8] using s.world (Fr.drew W)
   done:=fun j s h τ _ al=>by rw [getD_replicate_false] at al; cases al
   news:=fun j=>by
    constructor
    ·intro h; cases h
    ·rintro ⟨_,h,_⟩; rw [getD_replicate_false] at h; cases h
   stored:=fun j h _ _=>by
    rw [getD_replicate_false]
    constructor
    ·intro h; cases h
    ·intro h; omega
   ble:=Nat.zero_le _ }
 have h:=S9 (ops:=l.toArray) (Q:=Q) g2 aL (ep.1 hlen) (by simpa using cE) (by simpa using cc) n (Array.replicate l.toArray.size false) (fun _=>0) [] 0 a W.drew
  (Nat.le_trans (List.length_filter_le _ _) (by simp)) Hy YL
 rw [show n + (l.toArray.size - n)=l.toArray.size by omega] at h
 exact h
end
end Gv
namespace Gv
open Go
set_option linter.unusedVariables false
set_option linter.unusedSimpArgs false
structure bA (P:Program) (t:TypeId) (α:Type) [ah α]:Prop where
 size:(P.info? t).map (·.size)=some (ah.size α)
 Pf:∃ d,P.underlying t=some d∧ (match d with | .struct _ | .array _ _=>true | _=>false)=ah.agg α
structure cF (P:Program) (t:TypeId) {α:Type} [ah α] (x:α):Prop where
 zero:∃ i z,P.info? t=some i∧i.zero=some z∧ ∀ A W,(I.of x).holds A W z
theorem bA.info {P t α} [ah α] (h:bA P t α):∃ i,P.info? t=some i∧i.size=ah.size α:=by
 have:=h.size
 cases aj:P.info? t with
 | none=>simp [aj] at this
 | some i=>exact⟨i,rfl,by simpa [aj] using this⟩
theorem bA.isAgg {P t α} [ah α] (h:bA P t α) (W:World):(isAgg t).run P W= .ok (ah.agg α) W:=by
 obtain⟨d,hd,he⟩:=h.Pf
 unfold Go.isAgg
 rw [Sem.run_bind,run_underlying hd W]
 simp only [Result.andThen_ok]
 cases d <;> simp_all
theorem bA.sizeOf {P t α} [ah α] (h:bA P t α) (W:World):(Go.sizeOf t).run P W= .ok (ah.size α) W:=by
 obtain⟨i,aj,hs⟩:=h.info
 simp [Go.sizeOf,typeInfo,aj,hs]
theorem jk (b off j:Nat):(⟨b,off,none⟩:Addr).add j=⟨b,off + j,none⟩:=by unfold Addr.add; split <;> simp_all
theorem tr {P:Program} {W:World} {b off:Nat} {cur:Array Value} {T t:TypeId} {hl:Nat × Nat} {α:Type} [ah α] {A:List Nat} {x:α} (ty:bA P t α)
 (hb:W.heap[b]? =some (.cells cur T hl)) (hs:off + ah.size α≤cur.size) (aQ:ah.rep A W ((cur.toList.drop off).take (ah.size α)) x):
 ∃ v,(loadVar t ⟨b,off,none⟩).run P W= .ok v W∧ (I.of x).holds A W v:=by
 have al:=ah.len aQ
 have uq:∀ j v,((cur.toList.drop off).take (ah.size α))[j]? =some v→W.cell? ((⟨b,off,none⟩:Addr).add j)=some v:=by
  intro j v a3
  rw [jk,cell_of_row W b (off + j) cur T hl hb]
  rw [List.getElem?_take] at a3
  split at a3
  ·rw [List.getElem?_drop] at a3; simpa using a3
  ·cases a3
 cases a9:ah.agg α with
 | true=>
   have J:=run_loadCells_list (P:=P) W ⟨b,off,none⟩ _ uq
   rw [al] at J
   refine⟨.agg ((cur.toList.drop off).take (ah.size α)).toArray,?_,?_,?_⟩
   ·simp [loadVar,Sem.run_bind,ty.isAgg,ty.sizeOf,a9,J]
   ·simp [shaped,a9]
   ·simpa [Value.cells] using aQ
 | false=>
   have J:ah.size α=1:=ah.flat a9
   rw [J] at al
   obtain⟨v,a3⟩:=List.length_eq_one_iff.1 al
   have ab:=uq 0 v (by rw [J,a3]; rfl)
   have aE:v.oneCell'=true:=ah.one aQ v (by rw [J,a3]; simp)
   refine⟨v,?_,?_,?_⟩
   ·rw [jk,Nat.add_zero] at ab
    simp [loadVar,Sem.run_bind,ty.isAgg,a9,ab]
   ·simp [shaped,a9,aE]
   ·rw [n6 aE]
    rw [J,a3] at aQ
    simpa using aQ
def fK (cur:List Value) (off:Nat) (ds:List Value):List Value:=cur.take off ++ ds ++ cur.drop (off + ds.length)
theorem TG {A W v} {α:Type} [ah α] {x:α} (h:(I.of x).holds A W v):v.cells.toList.length=ah.size α∧ ∀ u∈v.cells.toList,u.oneCell'=true:=⟨ah.len h.2,ah.one h.2⟩
theorem yd {P:Program} {W:World} {b off:Nat} {cur:Array Value} {T t:TypeId} {α:Type} [ah α] {A:List Nat} {x:α} {v:Value} (ty:bA P t α)
 (hb:W.heap[b]? =some (.cells cur T (0,0))) (hs:off + ah.size α≤cur.size) (a3:(I.of x).holds A W v):
 (storeVar t ⟨b,off,none⟩ v).run P W= .ok () (W.setRow b (fK cur.toList off v.cells.toList).toArray):=by
 obtain⟨al,J⟩:=TG a3
 have ab:=run_storeCells_at P b off T v.cells.toList 0 cur W hb (by rw [al]; omega) J
 have eF:v.cells.size=ah.size α:=by simpa using al
 simp only [Nat.add_zero] at ab
 simp only [storeVar,Sem.run_bind,ty.sizeOf,Result.andThen_ok,eF]
 simp only [ne_eq,not_true_eq_false,↓reduceIte,Sem.run_pure,Sem.run_bind,Result.andThen_ok]
 simpa [fK] using ab
structure aI (β γ:Type) [ah β] [ah γ] where
 off:Nat
 get:β→γ
 set:β→γ→β
 fR:off + ah.size γ≤ah.size β
 h0:∀ {A W cs b},ah.rep A W cs b→ah.rep A W ((cs.drop off).take (ah.size γ)) (get b)
 kG:∀ {A W cs b ds g},ah.rep A W cs b→ah.rep A W ds g→ah.rep A W (cs.take off ++ ds ++ cs.drop (off + ah.size γ)) (set b g)
def aI.id (β:Type) [ah β]:aI β β where
 off:=0
 get b:=b
 set _ g:=g
 fR:=by simp
 h0 h:=by
  have:=ah.len h
  rw [List.drop_zero,← this,List.take_length]; exact h
 kG h bZ:=by
  have J:=ah.len h
  rw [List.take_zero,List.nil_append,Nat.zero_add,← J,List.drop_length,List.append_nil]; exact bZ
theorem rY (cs:List Value) (dT s1 cT s2:Nat) (h:cT + s2≤s1):(((cs.drop dT).take s1).drop cT).take s2=(cs.drop (dT + cT)).take s2:=by
 apply List.ext_getElem?
 intro i
 simp only [List.getElem?_take,List.getElem?_drop]
 split
 ·rw [if_pos (by omega)]; congr 1; omega
 ·rfl
theorem K2 (cs ds:List Value) (dT s1 cT s2:Nat) (h:cT + s2≤s1) (ao:dT + s1≤cs.length):
 cs.take dT ++ (((cs.drop dT).take s1).take cT ++ ds ++ ((cs.drop dT).take s1).drop (cT + s2)) ++ cs.drop (dT + s1)=cs.take (dT + cT) ++ ds ++ cs.drop (dT + cT + s2):=by
 have ay:cs.take (dT + cT)=cs.take dT ++ ((cs.drop dT).take s1).take cT:=by
  rw [List.take_take,Nat.min_eq_left (by omega),List.take_add]
 have aS:cs.drop (dT + cT + s2)=((cs.drop dT).take s1).drop (cT + s2) ++ cs.drop (dT + s1):=by
  apply List.ext_getElem?
  intro i
  simp only [List.getElem?_append,List.getElem?_drop,List.getElem?_take,List.length_drop,List.length_take]
  split
  ·rw [if_pos (by omega)]; congr 1; omega
  ·congr 1; omega
 rw [ay,aS]
 simp only [List.append_assoc]
def aI.comp {α β γ:Type} [ah α] [ah β] [ah γ] (l:aI α β) (m:aI β γ):aI α γ where
 off:=l.off + m.off
 get b:=m.get (l.get b)
 set b g:=l.set b (m.set (l.get b) g)
 fR:=by have:=l.fR; have:=m.fR; omega
 h0 h:=by
  have:=m.h0 (l.h0 h)
  rwa [rY _ _ _ _ _ m.fR] at this
 kG h bZ:=by
  have J:=l.kG h (m.kG (l.h0 h) bZ)
  have ab:=ah.len h
  have aE:=l.fR
  rwa [K2 _ _ _ _ _ _ m.fR (by omega)] at J
def bd {α:Type} [Inhabited α] {n:Nat} (v:Vector α n) (k:Nat):α:=v[k]?.getD default
def cq {α:Type} {n:Nat} (v:Vector α n) (k:Nat) (x:α):Vector α n:=v.setIfInBounds k x
instance {α:Type} [Inhabited α] {n:Nat} :Inhabited (Vector α n):=⟨Vector.replicate n default⟩
instance aaJ {α:Type} [ah α] [Inhabited α] {n:Nat} :ah (Vector α n) where
 size:=n * ah.size α
 agg:=true
 rep A W cs v:=gi A W cs v.toList
 len h:=by rw [h.1]; simp
 one h:=by
  intro u hu
  obtain⟨j,aF⟩:=List.mem_iff_getElem?.1 hu
  have cv:=(List.getElem?_eq_some_iff.1 aF).1
  have J:=h.1
  by_cases hs:ah.size α=0
  ·rw [hs,Nat.mul_zero] at J; omega
  ·have hp:0 < ah.size α:=Nat.pos_of_ne_zero hs
   have aj:j / ah.size α < _:=(Nat.div_lt_iff_lt_mul hp).2 (by rw [J] at cv; exact cv)
   refine ah.one (h.2 _ aj) u (List.mem_iff_getElem?.2 ⟨j % ah.size α,?_⟩)
   rw [List.getElem?_take,if_pos (Nat.mod_lt _ hp),List.getElem?_drop,Nat.mul_comm,Nat.div_add_mod]
   exact aF
 flat h:=by cases h
 mono e h:=h.mono e
theorem Sl {α:Type} [Inhabited α] {n:Nat} (v:Vector α n) {k:Nat} (h:k < n):bd v k=v.toList[k]'(by simpa using h):=by simp [bd,h]
theorem Fo {α:Type} [ah α] {A W} {cs ds:List Value} {xs:List α} {x:α} {k:Nat} (h:gi A W cs xs) (aq:k < xs.length) (hd:ah.rep A W ds x):
 gi A W (cs.take (k * ah.size α) ++ ds ++ cs.drop (k * ah.size α + ah.size α)) (xs.set k x):=by
 have al:=h.1
 have aa2:=ah.len hd
 have hle:(k + 1) * ah.size α≤xs.length * ah.size α:=Nat.mul_le_mul_right _ aq
 rw [Nat.succ_mul] at hle
 refine⟨by simp only [List.length_append,List.length_take,List.length_drop,List.length_set]; omega,fun i aj=> ?_⟩
 rw [List.length_set] at aj
 by_cases e:k=i
 ·subst e
  have:((cs.take (k * ah.size α) ++ ds ++ cs.drop (k * ah.size α + ah.size α)).drop (k * ah.size α)).take (ah.size α)=ds:=by
   rw [List.append_assoc,List.drop_append_of_le_length (by simp only [List.length_take]; omega),List.drop_of_length_le (by simp only [List.length_take]; omega),List.nil_append,
    List.take_append_of_le_length (by omega),List.take_of_length_le (by omega)]
  rw [this]
  simpa using hd
 ·have J:=h.2 i aj
  have:((cs.take (k * ah.size α) ++ ds ++ cs.drop (k * ah.size α + ah.size α)).drop (i * ah.size α)).take (ah.size α)=(cs.drop (i * ah.size α)).take (ah.size α):=by
   apply List.ext_getElem?
   intro j
   simp only [List.getElem?_take,List.getElem?_drop]
   split
   ·rename_i aF
    simp only [List.getElem?_append,List.length_append,List.length_take,List.getElem?_take,List.getElem?_drop]
    rcases Nat.lt_or_gt_of_ne e with ab | ab
    ·have:(k + 1) * ah.size α≤i * ah.size α:=Nat.mul_le_mul_right _ ab
     rw [Nat.succ_mul] at this
     rw [if_neg (by omega)]; congr 1; omega
    ·have:(i + 1) * ah.size α≤k * ah.size α:=Nat.mul_le_mul_right _ ab
     rw [Nat.succ_mul] at this
     rw [if_pos (by omega),if_pos (by omega),if_pos (by omega)]
   ·rfl
  rw [this]
  simpa [List.getElem_set_ne e] using J
def aI.idx {α:Type} [ah α] [Inhabited α] (n k:Nat) (aq:k < n):aI (Vector α n) α where
 off:=k * ah.size α
 get v:=bd v k
 set v x:=cq v k x
 fR:=by
  show k * ah.size α + ah.size α≤n * ah.size α
  rw [← Nat.succ_mul]; exact Nat.mul_le_mul_right _ aq
 h0 h:=by
  rename_i b
  rw [Sl b aq]
  exact h.2 k (by simpa using aq)
 kG h hd:=by
  rename_i b ds g
  have:=Fo h (k:=k) (by simpa using aq) hd
  show gi _ _ _ (cq b k g).toList
  rw [show(cq b k g).toList=b.toList.set k g by simp [cq]]
  exact this
def idx (n:Nat) (i:Int):Option Nat:=if 0≤i∧i < n then some i.toNat else none
theorem bC {n:Nat} {i:Int} {k:Nat} (h:idx n i=some k):k < n∧i=k:=by
 unfold idx at h
 split at h
 ·rename_i aj
  simp only [Option.some.injEq] at h
  omega
 ·cases h
section
variable {c:c8} {E:List (Nat × I)} {L:List aN} {ops:Array Oper} {Q:Exit→Act→World→Prop}
variable {d:Option Tmp} {ty:TypeId} {pos:String} {af:Array Edge} {g:Option (Nat × Bool)}
theorem cN {x:Operand} {τ:I} (h:bb c E L x τ):b3 c E L ⟨d,.move x,ty,pos,af,g⟩ τ:= .pure fun a W s=>⟨_,rfl,h a W s⟩
theorem eC {x:Operand} {τ:I} (h:bb c E L x τ):b3 c E L ⟨d,.assign x,ty,pos,af,g⟩ τ:= .pure fun a W s=>⟨_,rfl,h a W s⟩
theorem sF {x y:Operand} {b e:Bool} {p:Prop} (an:bb c E L x (.of b)) (a4:bb c E L y (.cond p (.of e))) (hp:b=false→p):
 b3 c E L ⟨d,.pick x (.const (.bool true)) y,ty,pos,af,g⟩ (.of (b || e)):= .pure fun a W s=>by
 have J:=of_bool.1 (an a W s)
 cases b with
 | true=>exact⟨.bool true,by simp only [execOp,J,asBool]; rfl,of_bool.2 rfl⟩
 | false=>
   have ab:=of_bool.1 ((a4 a W s).1 (hp rfl))
   exact⟨.bool e,by simp [execOp,asBool,J,ab],of_bool.2 rfl⟩
theorem oh {x y:Operand} {b e:Bool} {p:Prop} (an:bb c E L x (.of b)) (a4:bb c E L y (.cond p (.of e))) (hp:b=true→p):
 b3 c E L ⟨d,.pick x y (.const (.bool false)),ty,pos,af,g⟩ (.of (b && e)):= .pure fun a W s=>by
 have J:=of_bool.1 (an a W s)
 cases b with
 | false=>exact⟨.bool false,by simp only [execOp,J,asBool]; rfl,of_bool.2 rfl⟩
 | true=>
   have ab:=of_bool.1 ((a4 a W s).1 (hp rfl))
   exact⟨.bool e,by simp [execOp,asBool,J,ab],of_bool.2 rfl⟩
theorem iT {x:Operand} {b:Bool} {t:TypeId} (an:bb c E L x (.of b)):b3 c E L ⟨d,.unOp .not t x,ty,pos,af,g⟩ (.of (!b)):= .pure fun a W s=>
 ⟨.bool (!b),by simp [execOp,Op.unary,of_bool.1 (an a W s)],of_bool.2 rfl⟩
theorem fb {x:Operand} {t:TypeId} {i p o:Nat} {β γ:Type} [ah β] [ah γ] {b:β} (l:aI β γ) {r:γ} (en:bA c.P t γ) (an:bb c E L x (.eq (.pointer (some ⟨p,o,none⟩))))
 (av:L[i]? =some ⟨some p,.var b⟩) (bo:o=l.off) (aQ:l.get b=r):b3 c E L ⟨d,.load t x,ty,pos,af,g⟩ (.of r):= .pure fun a W s=>by
 subst bo
 subst aQ
 obtain⟨jB,eA,cs,T,rfl,fy⟩:=s.own _ (List.mem_of_getElem? av)
 have J:cs.toList.length=ah.size β:=ah.len fy
 obtain⟨v,ab,aE⟩:=tr (A:=aP L ++ c.b2) en eA (by have:=l.fR; simp at J; omega) (l.h0 fy)
 refine⟨v,?_,aE⟩
 have aW:a.eval x=_:=an a W s
 simp [execOp,Instr.loadAt,Instr.sureAddr,aW,ab]
theorem cK {x:Operand} {t:TypeId} {γ:Type} [ah γ] {r:γ} (en:bA c.P t γ) (an:bb c E L x (.ptr r)):b3 c E L ⟨d,.load t x,ty,pos,af,g⟩ (.of r):= .pure fun a W s=>by
 obtain⟨b,off,cur,T,hl,aW,hb,cE,hs,aQ⟩:=an a W s
 obtain⟨v,ab,aE⟩:=tr en cE hs aQ
 exact⟨v,by simp [execOp,Instr.loadAt,Instr.sureAddr,aW,ab],aE⟩
structure cl (P:Program) (s:TypeId) (f o:Nat):Prop where
 at_:∃ fs fd i,P.underlying s=some (.struct fs)∧fs[f]? =some fd∧fd.offset=o∧P.info? fd.type=some i∧i.size≠0
theorem Ks {P:Program} {s:TypeId} {f o:Nat} (h:cl P s f o) (p off:Nat) (W:World):
 (Instr.fieldAt s (.pointer (some ⟨p,off,none⟩)) f).run P W= .ok (.pointer (some ⟨p,off + o,none⟩)) W:=by
 obtain⟨fs,fd,i,J,ab,aE,aW,aX⟩:=h.at_
 simp [Instr.fieldAt,run_underlying J,ab,Instr.sureAddr,fieldPlace,Go.sizeOf,typeInfo,aW,aX,jk,aE]
theorem a2 {x:Operand} {s f o p off:Nat} (fd:cl c.P s f o) (an:bb c E L x (.eq (.pointer (some ⟨p,off,none⟩)))):
 b3 c E L ⟨d,.fieldAddr s x f,ty,pos,af,g⟩ (.eq (.pointer (some ⟨p,off + o,none⟩))):= .pure fun a W st=>by
 have aW:a.eval x=_:=an a W st
 exact⟨_,by simp [execOp,aW,Ks fd],rfl⟩
theorem zk {x:Operand} {s f o:Nat} {β γ:Type} [ah β] [ah γ] {b:β} (l:aI β γ) {r:γ} (fd:cl c.P s f o) (an:bb c E L x (.ptr b)) (bo:l.off=o) (aQ:l.get b=r):
 b3 c E L ⟨d,.fieldAddr s x f,ty,pos,af,g⟩ (.ptr r):= .pure fun a W st=>by
 subst bo
 subst aQ
 obtain⟨q,off,cur,T,hl,aW,hb,cE,hs,fy⟩:=an a W st
 refine⟨.pointer (some ⟨q,off + l.off,none⟩),by simp [execOp,aW,Ks fd],q,off + l.off,cur,T,hl,rfl,hb,cE,by have:=l.fR; omega,?_⟩
 have:=l.h0 fy
 rwa [rY _ _ _ _ _ l.fR] at this
structure mG (P:Program) (t:TypeId) (n s:Nat):Prop where
 at_:∃ e i,P.underlying t=some (.array n e)∧P.info? e=some i∧i.size=s
theorem JX {P:Program} {t n s:Nat} (h:mG P t n s) (p off:Nat) (k:Nat) (aq:k < n) (W:World):
 (Instr.indexAt t (.pointer (some ⟨p,off,none⟩)) (.int .i64 (k:Int))).run P W= .ok (.pointer (some ⟨p,off + k * s,none⟩)) W:=by
 obtain⟨e,i,J,ab,aE⟩:=h.at_
 simp [Instr.indexAt,asIntOf,run_underlying J,Instr.sureAddr,Go.sizeOf,typeInfo,ab,aE,aq,jk]
theorem dc {x y:Operand} {t n s p off:Nat} {i:Int} {k:Nat} (I8:mG c.P t n s) (an:bb c E L x (.eq (.pointer (some ⟨p,off,none⟩)))) (a4:bb c E L y (.of i)) (aq:k < n∧i=k):
 b3 c E L ⟨d,.indexAddr t x y,ty,pos,af,g⟩ (.eq (.pointer (some ⟨p,off + k * s,none⟩))):= .pure fun a W st=>by
 have aW:a.eval x=_:=an a W st
 have aX:=of_int.1 (a4 a W st)
 obtain⟨bk,rfl⟩:=aq
 exact⟨_,by simp [execOp,aW,aX,JX I8 p off k bk],rfl⟩
theorem GS {x y:Operand} {t n s:Nat} {i:Int} {k:Nat} {α:Type} [ah α] [Inhabited α] {v:Vector α n} (I8:mG c.P t n s) (hs:ah.size α=s) (an:bb c E L x (.ptr v)) (a4:bb c E L y (.of i)) (aq:k < n∧i=k):
 b3 c E L ⟨d,.indexAddr t x y,ty,pos,af,g⟩ (.ptr (bd v k)):= .pure fun a W st=>by
 subst hs
 obtain⟨q,off,cur,T,hl,aW,hb,cE,eF,fy⟩:=an a W st
 have aX:=of_int.1 (a4 a W st)
 obtain⟨bk,rfl⟩:=aq
 have eJ:=(aI.idx (α:=α) n k bk).fR
 refine⟨_,by simp [execOp,aW,aX,JX I8 q off k bk],q,off + k * ah.size α,cur,T,hl,rfl,hb,cE,?_,?_⟩
 ·have:off + n * ah.size α≤cur.size:=eF
  simp only [aI.idx] at eJ
  have:k * ah.size α + ah.size α≤n * ah.size α:=eJ
  omega
 ·have:=(aI.idx (α:=α) n k bk).h0 fy
  rwa [rY _ _ _ _ _ eJ] at this
theorem ak.alloc {t:TypeId} {rest:List Oper} {bc:Nat} {α:Type} [ah α] {z:α} (gl:cF c.P t z) (aO:Nat.blt bc c.n=true)
 (k:∀ p,ak c ops Q rest ((bc,.eq (.pointer (some ⟨p,0,none⟩))) :: E) (⟨some p,.var z⟩ :: L)):ak c ops Q (⟨some bc,.alloc t,ty,pos,af,none⟩ :: rest) E L:=fun a W s=>by
 obtain⟨i,ec,J,ab,aE⟩:=gl.zero
 refine ib rfl (R:=fun v W'=>v= .pointer (some ⟨W.heap.size,0,none⟩)∧W'=W.alloc (.cells ec.cells t)) (.mo ?_ ⟨rfl,rfl⟩) fun v W' ⟨a3,hw⟩=> ?_
 ·simp [execOp,Instr.alloc,zeroValue,typeInfo,J,ab,newVar,newRow]
 ·subst a3
  subst hw
  exact k _ _ _ ((s.alloc (cp:= .var z) ⟨ec.cells,t,rfl,(aE _ _).2⟩).put (by simpa using aO) rfl)
theorem oS {P:Program} {t:TypeId} {α:Type} [ah α] {z:α} (gl:cF P t z):I7 P ⟨d,.alloc t,ty,pos,af,none⟩ (.var z):=by
 obtain⟨i,ec,J,ab,aE⟩:=gl.zero
 refine⟨rfl,.cells ec.cells t,fun A W=>⟨ec.cells,t,rfl,(aE A W).2⟩,fun a W=> ?_⟩
 simp [execOp,Instr.alloc,zeroValue,typeInfo,J,ab,newVar,newRow]
theorem oU {x y:Operand} {t:TypeId} {i p o:Nat} {β γ:Type} [ah β] [ah γ] {b b':β} {v:γ} (l:aI β γ) (en:bA c.P t γ) (an:bb c E L x (.eq (.pointer (some ⟨p,o,none⟩))))
 (a4:bb c E L y (.of v)) (av:L[i]? =some ⟨some p,.var b⟩) (bo:o=l.off) (hb:l.set b v=b'):AV c E L ⟨none,.store t x y,ty,pos,af,none⟩ p (.var b'):=⟨rfl,rfl,fun a W s=>by
 subst bo
 subst hb
 obtain⟨jB,eA,cs,T,rfl,fy⟩:=s.own _ (List.mem_of_getElem? av)
 have J:cs.toList.length=ah.size β:=ah.len fy
 have eJ:=l.fR
 have a3:=a4 a W s
 have ab:=yd (A:=aP L ++ c.b2) en eA (off:=l.off) (by simp at J; omega) a3
 have aW:a.eval x=_:=an a W s
 refine⟨cs,(fK cs.toList l.off (a.eval y).cells.toList).toArray,T,eA,?_,?_⟩
 ·simp [execOp,Instr.storeAt,Instr.sureAddr,aW,ab]
 ·refine⟨_,T,rfl,?_⟩
  have:=l.kG fy a3.2
  simpa [fK,ah.len a3.2] using this⟩
theorem ak.box {t:TypeId} {x:Operand} {rest:List Oper} {bc:Nat} {α:Type} [ah α] {z:α} (an:bb c E L x (.of z)) (aO:Nat.blt bc c.n=true)
 (k:∀ p,ak c ops Q rest ((bc,.eq (.pointer (some ⟨p,0,none⟩))) :: E) (⟨some p,.var z⟩ :: L)):ak c ops Q (⟨some bc,.box t x,ty,pos,af,none⟩ :: rest) E L:=fun a W s=>by
 refine ib rfl (R:=fun v W'=>v= .pointer (some ⟨W.heap.size,0,none⟩)∧W'=W.alloc (.cells (a.eval x).cells t)) (.mo ?_ ⟨rfl,rfl⟩) fun v W' ⟨a3,hw⟩=> ?_
 ·simp [execOp,Instr.box,newVar,newRow]
 ·subst a3
  subst hw
  exact k _ _ _ ((s.alloc (cp:= .var z) ⟨_,t,rfl,(an a W s).2⟩).put (by simpa using aO) rfl)
theorem ak.store {x y:Operand} {t:TypeId} {rest:List Oper} {i p o:Nat} {β γ:Type} [ah β] [ah γ] {b b':β} {v:γ} (l:aI β γ) (en:bA c.P t γ) (an:bb c E L x (.eq (.pointer (some ⟨p,o,none⟩))))
 (a4:bb c E L y (.of v)) (av:L[i]? =some ⟨some p,.var b⟩) (bo:o=l.off) (hb:l.set b v=b')
 (k:ak c ops Q rest E (L.set i ⟨some p,.var b'⟩)):ak c ops Q (⟨none,.store t x y,ty,pos,af,none⟩ :: rest) E L:=fun a W s=>by
 subst bo
 subst hb
 obtain⟨jB,eA,cs,T,rfl,fy⟩:=s.own _ (List.mem_of_getElem? av)
 have J:cs.toList.length=ah.size β:=ah.len fy
 have eJ:=l.fR
 have a3:=a4 a W s
 have ab:=yd (A:=aP L ++ c.b2) en eA (off:=l.off) (by simp at J; omega) a3
 have aW:a.eval x=_:=an a W s
 refine ib rfl (R:=fun v W'=>W'=W.setRow p (fK cs.toList l.off (a.eval y).cells.toList).toArray) (.wg ?_ rfl) fun v W' hw=> ?_
 ·simp [execOp,Instr.storeAt,Instr.sureAddr,aW,ab]
 ·subst hw
  refine k _ _ (s.store av eA ?_)
  refine⟨_,T,rfl,?_⟩
  have:=l.kG fy a3.2
  simpa [fK,ah.len a3.2] using this
def hO (c:c8) (E:List (Nat × I)) (L:List aN):List Operand→List I→Prop
 | [],[]=>True
 | x :: xs,τ :: τs=>bb c E L x τ∧hO c E L xs τs
 | _,_=>False
theorem hO.holds:∀ {xs:List Operand} {τs:List I},hO c E L xs τs→ ∀ a W,bG c E L a W→gW (aP L ++ c.b2) W τs (xs.map a.eval)
 | [],[],_,_,_,_=> .nil
 | x :: xs,τ :: τs,h,a,W,s=> .cons (h.1 a W s) (h.2.holds a W s)
 | [],_ :: _,h,_,_,_=>h.elim
 | _ :: _,[],h,_,_,_=>h.elim
structure bH (P:Program) (f:FuncId):Prop where
 at_:∃ fn,P.funcs[f]? =some fn∧fn.body.isNone=false∧ (fn.name == "runtime.NumGoroutine")=false
theorem bH.run {P:Program} {f:FuncId} (h:bH P f) (args:Array Value) (W:World):(callFunc f args).run P W= .ok (.enter f args) W:=by
 obtain⟨fn,J,ab,aE⟩:=h.at_
 simp only [callFunc,Sem.run_bind,run_program,Result.andThen_ok,J,aE,ab]
 rfl
theorem h1 {f:FuncId} {xs:List Operand} {ats:Array TypeId} {τs:List I} {ρ:I} (eo:bH c.P f) (h:bn c.P f τs ρ) (an:hO c E L xs τs):
 b3 c E L ⟨d,.call ⟨.value (.func f),xs.toArray,ats⟩,ty,pos,af,g⟩ ρ:=fun a W s=>by
 refine .tH (f:=f) (args:=(xs.map a.eval).toArray) (W':=W) ?_ (h _ W _ s.CK (an.holds a W s))
 simp [execOp,resolve,Deferred.ofValue,Act.eval,invoke,eo.run]
theorem sc {P:Program} {W:World} {t off:Nat} {cs:Array Value} {α:Type} [ah α] {A:List Nat} {x:α} (ty:bA P t α) (hs:off + ah.size α≤cs.size)
 (aQ:ah.rep A W ((cs.toList.drop off).take (ah.size α)) x):∃ v,(part t cs off).run P W= .ok v W∧ (I.of x).holds A W v:=by
 have al:=ah.len aQ
 cases a9:ah.agg α with
 | true=>
   refine⟨.agg (cs.extract off (off + ah.size α)),?_,?_,?_⟩
   ·simp [part,ty.isAgg,ty.sizeOf,a9]
   ·simp [shaped,a9]
   ·simpa [Value.cells,List.extract,Array.toList_extract] using aQ
 | false=>
   have J:ah.size α=1:=ah.flat a9
   have cv:off < cs.size:=by omega
   have ab:(cs.toList.drop off).take (ah.size α)= [cs[off]]:=by
    rw [J]
    apply List.ext_getElem?
    intro j
    rw [List.getElem?_take,List.getElem?_drop]
    cases j with
    | zero=>simp [cv]
    | succ j=>simp
   rw [ab] at aQ
   have aE:cs[off].oneCell'=true:=ah.one aQ _ (by simp)
   refine⟨cs[off],?_,?_,?_⟩
   ·simp [part,ty.isAgg,a9,cv]
   ·simp [shaped,a9,aE]
   ·rw [n6 aE]; simpa using aQ
structure I9 (P:Program) (s f t o:Nat):Prop where
 at_:∃ fs fd,P.underlying s=some (.struct fs)∧fs[f]? =some fd∧fd.offset=o∧fd.type=t
theorem FH {x:Operand} {s f t o:Nat} {β γ:Type} [ah β] [ah γ] {b:β} (l:aI β γ) {r:γ} (aan:I9 c.P s f t o) (en:bA c.P t γ) (a9:ah.agg β=true) (an:bb c E L x (.of b)) (bo:l.off=o) (aQ:l.get b=r):
 b3 c E L ⟨d,.field s x f,ty,pos,af,g⟩ (.of r):= .pure fun a W st=>by
 subst bo
 subst aQ
 obtain⟨J,ab⟩:=an a W st
 simp only [shaped,a9,if_true] at J
 obtain⟨cs,nO⟩:=J
 obtain⟨fs,fd,aE,aW,aX,bk⟩:=aan.at_
 rw [nO] at ab
 simp only [Value.cells] at ab
 have al:cs.toList.length=ah.size β:=ah.len ab
 obtain⟨v,cV,eS⟩:=sc (A:=aP L ++ c.b2) (P:=c.P) (W:=W) (cs:=cs) (off:=l.off) en (by have:=l.fR; simp at al; omega) (l.h0 ab)
 refine⟨v,?_,eS⟩
 simp [execOp,Instr.field,run_underlying aE,aW,nO,asAgg,aX,bk,cV]
theorem FJ {x y:Operand} {t e n:Nat} {i:Int} {k:Nat} {α:Type} [ah α] [Inhabited α] {v:Vector α n} (hu:c.P.underlying t=some (.array n e)) (en:bA c.P e α) (an:bb c E L x (.of v)) (a4:bb c E L y (.of i)) (aq:k < n∧i=k):
 b3 c E L ⟨d,.index t x y,ty,pos,af,g⟩ (.of (bd v k)):= .pure fun a W st=>by
 obtain⟨J,ab⟩:=an a W st
 obtain⟨cs,nO⟩:∃ cs,a.eval x= .agg cs:=by simpa [shaped,ah.agg] using J
 have aX:=of_int.1 (a4 a W st)
 obtain⟨bk,rfl⟩:=aq
 rw [nO] at ab
 simp only [Value.cells] at ab
 have al:cs.toList.length=n * ah.size α:=ah.len ab
 have eJ:=(aI.idx (α:=α) n k bk).fR
 obtain⟨u,cV,eS⟩:=sc (A:=aP L ++ c.b2) (P:=c.P) (W:=W) (cs:=cs) (off:=k * ah.size α) en
  (by
   have:k * ah.size α + ah.size α≤n * ah.size α:=eJ
   simp at al; omega) ((aI.idx (α:=α) n k bk).h0 ab)
 refine⟨u,?_,eS⟩
 simp [execOp,Instr.index,asIntOf,run_underlying hu,nO,aX,bk,en.sizeOf,cV]
theorem oo {x:Operand} {i:Nat} {τs:List I} {τ:I} (an:bb c E L x (.eI τs)) (aj:τs[i]? =some τ):b3 c E L ⟨d,.extract x i,ty,pos,af,g⟩ τ:= .pure fun a W st=>by
 obtain⟨vs,J,ab⟩:=an a W st
 have get:∀ {τs:List I} {vs:List Value},gW (aP L ++ c.b2) W τs vs→ ∀ (i:Nat) (τ:I),τs[i]? =some τ→ ∃ v,vs[i]? =some v∧τ.holds (aP L ++ c.b2) W v:=by
  intro τs vs h
  induction h with
  | nil=>intro i τ h; simp at h
  | cons J _ bO=>
    intro i τ h
    cases i with
    | zero=>simp only [List.getElem?_cons_zero,Option.some.injEq] at h; subst h; exact⟨_,rfl,J⟩
    | succ i=>simp only [List.getElem?_cons_succ] at h ⊢; exact bO i τ h
 obtain⟨v,aE,aW⟩:=get ab i τ aj
 refine⟨v,?_,aW⟩
 have aX:vs[i]? =some v:=by simpa using aE
 simp [execOp,Instr.extract,J,aX]
end
end Gv
namespace Gv
open Go
set_option linter.unusedVariables false
set_option linter.unusedSimpArgs false
def bm (x:Int):Int:=IntKind.i64.wrap x
theorem gC {x:Int} (h: -9223372036854775808≤x) (cR:x≤9223372036854775807):bm x=x:=by
 unfold bm
 rw [IntKind.wrap_i64]
 omega
def uF (a b:Int):Option Int:=if b=0 then none else some (bm (a.tdiv b))
def nE (a b:Int):Option Int:=if b=0 then none else some (a.tmod b)
theorem KU {a b r:Int} (h:uF a b=some r):b≠0∧bm (a.tdiv b)=r:=by unfold uF at h; split at h <;> simp_all
theorem yC {a b r:Int} (h:nE a b=some r):b≠0∧a.tmod b=r:=by unfold nE at h; split at h <;> simp_all
theorem wrap_u8 (n:Int):IntKind.u8.wrap n=n % 256:=by simp [IntKind.wrap,IntKind.signed,IntKind.bits]
theorem wrap_u64 (n:Int):IntKind.u64.wrap n=n % 18446744073709551616:=by simp [IntKind.wrap,IntKind.signed,IntKind.bits]
theorem Up (P:Program) (W:World) (k Ja:IntKind) (a b:Int) (h:0≤b):(Op.shift .shl k a Ja b).run P W= .ok (.int k (k.wrap (a * 2 ^ min b.toNat k.bits))) W:=by
 unfold Op.shift
 rw [if_neg (by omega)]
 rfl
theorem Uq (P:Program) (W:World) (k Ja:IntKind) (a b:Int) (h:0≤b):(Op.shift .shr k a Ja b).run P W= .ok (.int k (a.fdiv (2 ^ min b.toNat k.bits))) W:=by
 unfold Op.shift
 rw [if_neg (by omega)]
 rfl
section
variable {c:c8} {E:List (Nat × I)} {L:List aN}
variable {d:Option Tmp} {ty:TypeId} {pos:String} {af:Array Edge} {g:Option (Nat × Bool)} {x y:Operand} {t t2:TypeId}
theorem cL {a b:Int} (an:bb c E L x (.of a)) (a4:bb c E L y (.of b)):b3 c E L ⟨d,.binOp .add t x y t2,ty,pos,af,g⟩ (.of (bm (a + b))):= .pure fun A W s=>
 ⟨.int .i64 (bm (a + b)),by simp [execOp,eqGuard,binOp,Op.intArith,of_int.1 (an A W s),of_int.1 (a4 A W s),bm],of_int.2 rfl⟩
theorem jn {a b:Int} (an:bb c E L x (.of a)) (a4:bb c E L y (.of b)):b3 c E L ⟨d,.binOp .sub t x y t2,ty,pos,af,g⟩ (.of (bm (a - b))):= .pure fun A W s=>
 ⟨.int .i64 (bm (a - b)),by simp [execOp,eqGuard,binOp,Op.intArith,of_int.1 (an A W s),of_int.1 (a4 A W s),bm],of_int.2 rfl⟩
theorem Gz {a b:Int} (an:bb c E L x (.of a)) (a4:bb c E L y (.of b)):b3 c E L ⟨d,.binOp .mul t x y t2,ty,pos,af,g⟩ (.of (bm (a * b))):= .pure fun A W s=>
 ⟨.int .i64 (bm (a * b)),by simp [execOp,eqGuard,binOp,Op.intArith,of_int.1 (an A W s),of_int.1 (a4 A W s),bm],of_int.2 rfl⟩
theorem Nj {a b r:Int} (an:bb c E L x (.of a)) (a4:bb c E L y (.of b)) (h:b≠0∧bm (a.tdiv b)=r):b3 c E L ⟨d,.binOp .quo t x y t2,ty,pos,af,g⟩ (.of r):= .pure fun A W s=>
 ⟨.int .i64 r,by obtain⟨J,rfl⟩:=h; simp [execOp,eqGuard,binOp,Op.intDiv,of_int.1 (an A W s),of_int.1 (a4 A W s),bm,J],of_int.2 rfl⟩
theorem ze {a b r:Int} (an:bb c E L x (.of a)) (a4:bb c E L y (.of b)) (h:b≠0∧a.tmod b=r):b3 c E L ⟨d,.binOp .rem t x y t2,ty,pos,af,g⟩ (.of r):= .pure fun A W s=>
 ⟨.int .i64 r,by obtain⟨J,rfl⟩:=h; simp [execOp,eqGuard,binOp,Op.intDiv,of_int.1 (an A W s),of_int.1 (a4 A W s),J],of_int.2 rfl⟩
theorem dd {a b:Int} (an:bb c E L x (.of a)) (a4:bb c E L y (.of b)):b3 c E L ⟨d,.binOp .lss t x y t2,ty,pos,af,g⟩ (.of (decide (a < b))):= .pure fun A W s=>
 ⟨.bool (decide (a < b)),by simp only [execOp,eqGuard,binOp,of_int.1 (an A W s),of_int.1 (a4 A W s)]; rfl,of_bool.2 rfl⟩
theorem zl {a b:Int} (an:bb c E L x (.of a)) (a4:bb c E L y (.of b)):b3 c E L ⟨d,.binOp .leq t x y t2,ty,pos,af,g⟩ (.of (decide (a≤b))):= .pure fun A W s=>
 ⟨.bool (decide (a≤b)),by simp only [execOp,eqGuard,binOp,of_int.1 (an A W s),of_int.1 (a4 A W s)]; rfl,of_bool.2 rfl⟩
theorem lY {a b:Int} (an:bb c E L x (.of a)) (a4:bb c E L y (.of b)):b3 c E L ⟨d,.binOp .gtr t x y t2,ty,pos,af,g⟩ (.of (decide (a > b))):= .pure fun A W s=>
 ⟨.bool (decide (a > b)),by simp only [execOp,eqGuard,binOp,of_int.1 (an A W s),of_int.1 (a4 A W s)]; rfl,of_bool.2 rfl⟩
theorem lZ {a b:Int} (an:bb c E L x (.of a)) (a4:bb c E L y (.of b)):b3 c E L ⟨d,.binOp .geq t x y t2,ty,pos,af,g⟩ (.of (decide (a≥b))):= .pure fun A W s=>
 ⟨.bool (decide (a≥b)),by simp only [execOp,eqGuard,binOp,of_int.1 (an A W s),of_int.1 (a4 A W s)]; rfl,of_bool.2 rfl⟩
theorem fW {a b:Int} (an:bb c E L x (.of a)) (a4:bb c E L y (.of b)):b3 c E L ⟨d,.binOp .eql t x y t2,ty,pos,af,g⟩ (.of (a ==b)):= .pure fun A W s=>
 ⟨.bool (a ==b),by simp only [execOp,eqGuard,binOp,of_int.1 (an A W s),of_int.1 (a4 A W s)]; rfl,of_bool.2 rfl⟩
theorem mY {a b:Int} (an:bb c E L x (.of a)) (a4:bb c E L y (.of b)):b3 c E L ⟨d,.binOp .neq t x y t2,ty,pos,af,g⟩ (.of (a !=b)):= .pure fun A W s=>
 ⟨.bool (a !=b),by simp only [execOp,eqGuard,binOp,of_int.1 (an A W s),of_int.1 (a4 A W s)]; rfl,of_bool.2 rfl⟩
theorem Xc {a b:Bool} (hu:c.P.underlying t=some .bool) (an:bb c E L x (.of a)) (a4:bb c E L y (.of b)):b3 c E L ⟨d,.binOp .eql t x y t2,ty,pos,af,g⟩ (.of (a ==b)):= .pure fun A W s=>
 ⟨.bool (a ==b),by
   simp only [execOp,eqGuard,binOp,of_bool.1 (an A W s),of_bool.1 (a4 A W s),Op.equal,Op.maxDepth]
   simp [run_equalIn_bool' W 9999 t a b hu],of_bool.2 rfl⟩
theorem Xb {a b:Bool} (hu:c.P.underlying t=some .bool) (an:bb c E L x (.of a)) (a4:bb c E L y (.of b)):b3 c E L ⟨d,.binOp .neq t x y t2,ty,pos,af,g⟩ (.of (a !=b)):= .pure fun A W s=>
 ⟨.bool (a !=b),by
   simp only [execOp,eqGuard,binOp,of_bool.1 (an A W s),of_bool.1 (a4 A W s),Op.equal,Op.maxDepth]
   simp [run_equalIn_bool' W 9999 t a b hu,bne],of_bool.2 rfl⟩
theorem uf {a b:Int} {ats:Array TypeId} (an:bb c E L x (.of a)) (a4:bb c E L y (.of b)):b3 c E L ⟨d,.call ⟨.builtin .min,#[x,y],ats⟩,ty,pos,af,g⟩ (.of (min a b)):= .pure fun A W s=>
 ⟨.int .i64 (min a b),by
   simp [execOp,resolve,invoke,builtin,Builtin.min_,Builtin.min2,of_int.1 (an A W s),of_int.1 (a4 A W s)]
   split <;> omega,of_int.2 rfl⟩
theorem wC {a b:Int} {ats:Array TypeId} (an:bb c E L x (.of a)) (a4:bb c E L y (.of b)):b3 c E L ⟨d,.call ⟨.builtin .max,#[x,y],ats⟩,ty,pos,af,g⟩ (.of (max a b)):= .pure fun A W s=>
 ⟨.int .i64 (max a b),by
   simp [execOp,resolve,invoke,builtin,Builtin.max_,Builtin.max2,of_int.1 (an A W s),of_int.1 (a4 A W s)]
   split <;> omega,of_int.2 rfl⟩
theorem G7 (a:BitVec 8):(a.toNat:Int) < 256:=by have:=a.isLt; omega
theorem Vh (a b:BitVec 8):IntKind.u8.wrap ((a.toNat:Int) - (b.toNat:Int))=((a - b).toNat:Int):=by rw [wrap_u8,BitVec.toNat_sub]; have:=G7 a; have:=G7 b; omega
theorem U2 {a b:BitVec 8} (an:bb c E L x (.of a)) (a4:bb c E L y (.of b)):b3 c E L ⟨d,.binOp .sub t x y t2,ty,pos,af,g⟩ (.of (a - b)):= .pure fun A W s=>
 ⟨.int .u8 (a - b).toNat,by simp [execOp,eqGuard,binOp,Op.intArith,qY.1 (an A W s),qY.1 (a4 A W s),Vh],qY.2 rfl⟩
theorem F6 {a b:BitVec 8} (an:bb c E L x (.of a)) (a4:bb c E L y (.of b)):b3 c E L ⟨d,.binOp .eql t x y t2,ty,pos,af,g⟩ (.of (a ==b)):= .pure fun A W s=>
 ⟨.bool (a ==b),by
   simp only [execOp,eqGuard,binOp,qY.1 (an A W s),qY.1 (a4 A W s)]
   have h:((a.toNat:Int) ==(b.toNat:Int))=(a ==b):=by
    rw [Bool.eq_iff_iff]; simp [bne]; exact⟨fun h=>BitVec.eq_of_toNat_eq (by omega),fun h=>by rw [h]⟩
   rw [← h]; rfl,of_bool.2 rfl⟩
theorem tS {a b:BitVec 8} (an:bb c E L x (.of a)) (a4:bb c E L y (.of b)):b3 c E L ⟨d,.binOp .neq t x y t2,ty,pos,af,g⟩ (.of (a !=b)):= .pure fun A W s=>
 ⟨.bool (a !=b),by
   simp only [execOp,eqGuard,binOp,qY.1 (an A W s),qY.1 (a4 A W s)]
   have h:((a.toNat:Int) !=(b.toNat:Int))=(a !=b):=by
    rw [Bool.eq_iff_iff]; simp [bne]; exact⟨fun h=>fun e=>h (by rw [e]),fun h=>by intro e; exact h (BitVec.eq_of_toNat_eq (by omega))⟩
   rw [← h]; rfl,of_bool.2 rfl⟩
theorem VI {a:BitVec 8} {src dst:TypeId} {e:TypeDesc} (hs:c.P.underlying src=some e) (hd:c.P.underlying dst=some (.int .i64)) (an:bb c E L x (.of a)):b3 c E L ⟨d,.convert src dst x,ty,pos,af,g⟩ (.of (a.toNat:Int)):= .pure fun A W s=>
 ⟨.int .i64 a.toNat,by
   have h:IntKind.i64.wrap (a.toNat:Int)=(a.toNat:Int):=gC (by omega) (by have:=G7 a; omega)
   simp only [execOp,convert,Sem.run_bind,run_underlying hs,run_underlying hd,qY.1 (an A W s),Conv.intToInt,Result.andThen_ok,h]; rfl,of_int.2 rfl⟩
theorem wq (a:BitVec 64):(a.toNat:Int) < 18446744073709551616:=by have:=a.isLt; omega
theorem ofInt_u64 (a:BitVec 64):BitVec.ofInt 64 (a.toNat:Int)=a:=by simp
theorem Ur (a b:BitVec 64):IntKind.u64.wrap ((a.toNat:Int) + (b.toNat:Int))=((a + b).toNat:Int):=by rw [wrap_u64,BitVec.toNat_add]; omega
theorem Ul {a b:BitVec 64} (an:bb c E L x (.of a)) (a4:bb c E L y (.of b)):b3 c E L ⟨d,.binOp .add t x y t2,ty,pos,af,g⟩ (.of (a + b)):= .pure fun A W s=>
 ⟨.int .u64 (a + b).toNat,by simp [execOp,eqGuard,binOp,Op.intArith,gX.1 (an A W s),gX.1 (a4 A W s),Ur],gX.2 rfl⟩
theorem Us (a b:BitVec 64):IntKind.u64.wrap ((a.toNat:Int) - (b.toNat:Int))=((a - b).toNat:Int):=by rw [wrap_u64,BitVec.toNat_sub]; have:=wq a; have:=wq b; omega
theorem tJ {a b:BitVec 64} (an:bb c E L x (.of a)) (a4:bb c E L y (.of b)):b3 c E L ⟨d,.binOp .sub t x y t2,ty,pos,af,g⟩ (.of (a - b)):= .pure fun A W s=>
 ⟨.int .u64 (a - b).toNat,by simp [execOp,eqGuard,binOp,Op.intArith,gX.1 (an A W s),gX.1 (a4 A W s),Us],gX.2 rfl⟩
theorem qA {a b:BitVec 64} (an:bb c E L x (.of a)) (a4:bb c E L y (.of b)):b3 c E L ⟨d,.binOp .and t x y t2,ty,pos,af,g⟩ (.of (a &&& b)):= .pure fun A W s=>
 ⟨.int .u64 (a &&& b).toNat,by
   simp only [execOp,eqGuard,binOp,gX.1 (an A W s),gX.1 (a4 A W s)]
   have h:IntKind.u64.wrap ((a &&& b).toNat:Int)=((a &&& b).toNat:Int):=by rw [wrap_u64]; have:=wq (a &&& b); omega
   rw [← h]
   conv=>rhs; rw [← ofInt_u64 a,← ofInt_u64 b]
   rfl,gX.2 rfl⟩
theorem sh {a b:BitVec 64} (an:bb c E L x (.of a)) (a4:bb c E L y (.of b)):b3 c E L ⟨d,.binOp .or t x y t2,ty,pos,af,g⟩ (.of (a ||| b)):= .pure fun A W s=>
 ⟨.int .u64 (a ||| b).toNat,by
   simp only [execOp,eqGuard,binOp,gX.1 (an A W s),gX.1 (a4 A W s)]
   have h:IntKind.u64.wrap ((a ||| b).toNat:Int)=((a ||| b).toNat:Int):=by rw [wrap_u64]; have:=wq (a ||| b); omega
   rw [← h]
   conv=>rhs; rw [← ofInt_u64 a,← ofInt_u64 b]
   rfl,gX.2 rfl⟩
theorem LV {a b:BitVec 64} (an:bb c E L x (.of a)) (a4:bb c E L y (.of b)):b3 c E L ⟨d,.binOp .xor t x y t2,ty,pos,af,g⟩ (.of (a ^^^ b)):= .pure fun A W s=>
 ⟨.int .u64 (a ^^^ b).toNat,by
   simp only [execOp,eqGuard,binOp,gX.1 (an A W s),gX.1 (a4 A W s)]
   have h:IntKind.u64.wrap ((a ^^^ b).toNat:Int)=((a ^^^ b).toNat:Int):=by rw [wrap_u64]; have:=wq (a ^^^ b); omega
   rw [← h]
   conv=>rhs; rw [← ofInt_u64 a,← ofInt_u64 b]
   rfl,gX.2 rfl⟩
theorem LX {a:BitVec 64} (an:bb c E L x (.of a)):b3 c E L ⟨d,.unOp .xor t x,ty,pos,af,g⟩ (.of (~~~a)):= .pure fun A W s=>
 ⟨.int .u64 (~~~a).toNat,by
   have h:IntKind.u64.wrap ((BitVec.ofInt 64 18446744073709551615 ^^^ BitVec.ofInt 64 (a.toNat:Int)).toNat:Int)=((~~~a).toNat:Int):=by
    rw [ofInt_u64 a,show BitVec.ofInt 64 18446744073709551615=BitVec.allOnes 64 from rfl,BitVec.allOnes_xor,wrap_u64]; have:=wq (~~~a); omega
   rw [← h]
   simp only [execOp,Op.unary,gX.1 (an A W s)]
   rfl,gX.2 rfl⟩
theorem Ut (a:BitVec 64) (n:Nat):IntKind.u64.wrap ((a.toNat:Int) * 2 ^ min n 64)=((a <<< n).toNat:Int):=by
 rw [wrap_u64,BitVec.toNat_shiftLeft,Nat.shiftLeft_eq]
 rcases Nat.lt_or_ge n 64 with h | h
 ·rw [Nat.min_eq_left (by omega)]; simp
 ·rw [Nat.min_eq_right h]
  have e:(a.toNat * 2 ^ n) % 2 ^ 64=0:=by
   rw [show n=64 + (n - 64) by omega,Nat.pow_add]
   exact Nat.mod_eq_zero_of_dvd ⟨a.toNat * 2 ^ (n - 64),by rw [← Nat.mul_assoc,Nat.mul_comm a.toNat,Nat.mul_assoc]⟩
  rw [e]
  have aS:(2:Int) ^ 64=18446744073709551616:=by decide
  rw [aS]; omega
theorem Uu (a:BitVec 64) (n:Nat):(a.toNat:Int).fdiv (2 ^ min n 64)=((a >>> n).toNat:Int):=by
 rw [BitVec.toNat_ushiftRight,Nat.shiftRight_eq_div_pow]
 have e:∀ m:Nat,(a.toNat:Int).fdiv (2 ^ m)=((a.toNat / 2 ^ m:Nat):Int):=by
  intro m
  rw [show((2:Int) ^ m)=((2 ^ m:Nat):Int) by simp]
  rw [Int.fdiv_eq_ediv_of_nonneg _ (Int.natCast_nonneg _)]
  exact(Int.natCast_ediv _ _).symm
 rw [e]
 rcases Nat.lt_or_ge n 64 with h | h
 ·rw [Nat.min_eq_left (by omega)]
 ·rw [Nat.min_eq_right h]
  have J:a.toNat / 2 ^ 64=0:=Nat.div_eq_of_lt a.isLt
  have ab:a.toNat / 2 ^ n=0:=Nat.div_eq_of_lt (Nat.lt_of_lt_of_le a.isLt (Nat.pow_le_pow_right (by omega) h))
  rw [J,ab]
theorem mQ {a:BitVec 64} {b:BitVec 64} (an:bb c E L x (.of a)) (a4:bb c E L y (.of b)):b3 c E L ⟨d,.binOp .shl t x y t2,ty,pos,af,g⟩ (.of (a <<< b.toNat)):= .pure fun A W s=>
 ⟨.int .u64 (a <<< b.toNat).toNat,by
   simp only [execOp,eqGuard,binOp,gX.1 (an A W s),gX.1 (a4 A W s)]
   have h:=Up c.P W .u64 .u64 a.toNat b.toNat (by omega)
   simp only [Int.toNat_natCast,IntKind.bits,Ut] at h
   exact congrArg (fun r:Result Value=>r.andThen fun v w=> .ok (Next.value v) w) h,gX.2 rfl⟩
theorem tI {a:BitVec 64} {b:BitVec 64} (an:bb c E L x (.of a)) (a4:bb c E L y (.of b)):b3 c E L ⟨d,.binOp .shr t x y t2,ty,pos,af,g⟩ (.of (a >>> b.toNat)):= .pure fun A W s=>
 ⟨.int .u64 (a >>> b.toNat).toNat,by
   simp only [execOp,eqGuard,binOp,gX.1 (an A W s),gX.1 (a4 A W s)]
   have h:=Uq c.P W .u64 .u64 a.toNat b.toNat (by omega)
   simp only [Int.toNat_natCast,IntKind.bits,Uu] at h
   exact congrArg (fun r:Result Value=>r.andThen fun v w=> .ok (Next.value v) w) h,gX.2 rfl⟩
theorem yQ {a b:BitVec 64} (an:bb c E L x (.of a)) (a4:bb c E L y (.of b)):b3 c E L ⟨d,.binOp .eql t x y t2,ty,pos,af,g⟩ (.of (a ==b)):= .pure fun A W s=>
 ⟨.bool (a ==b),by
   simp only [execOp,eqGuard,binOp,gX.1 (an A W s),gX.1 (a4 A W s)]
   have h:((a.toNat:Int) ==(b.toNat:Int))=(a ==b):=by
    rw [Bool.eq_iff_iff]; simp [bne]; exact⟨fun h=>BitVec.eq_of_toNat_eq (by omega),fun h=>by rw [h]⟩
   rw [← h]; rfl,of_bool.2 rfl⟩
theorem Uk {a b:BitVec 64} (an:bb c E L x (.of a)) (a4:bb c E L y (.of b)):b3 c E L ⟨d,.binOp .neq t x y t2,ty,pos,af,g⟩ (.of (a !=b)):= .pure fun A W s=>
 ⟨.bool (a !=b),by
   simp only [execOp,eqGuard,binOp,gX.1 (an A W s),gX.1 (a4 A W s)]
   have h:((a.toNat:Int) !=(b.toNat:Int))=(a !=b):=by
    rw [Bool.eq_iff_iff]; simp [bne]; exact⟨fun h=>fun e=>h (by rw [e]),fun h=>by intro e; exact h (BitVec.eq_of_toNat_eq (by omega))⟩
   rw [← h]; rfl,of_bool.2 rfl⟩
theorem ic {a:Int} {src dst:TypeId} {e:TypeDesc} (hs:c.P.underlying src=some e) (hd:c.P.underlying dst=some (.int .u64)) (an:bb c E L x (.of a)):b3 c E L ⟨d,.convert src dst x,ty,pos,af,g⟩ (.of (BitVec.ofInt 64 a)):= .pure fun A W s=>
 ⟨.int .u64 (BitVec.ofInt 64 a).toNat,by
   have h:IntKind.u64.wrap a=((BitVec.ofInt 64 a).toNat:Int):=by rw [wrap_u64,BitVec.toNat_ofInt]; omega
   simp [execOp,convert,run_underlying hs,run_underlying hd,of_int.1 (an A W s),Conv.intToInt,h],gX.2 rfl⟩
theorem U1 {a:BitVec 64} {src dst:TypeId} {e:TypeDesc} (hs:c.P.underlying src=some e) (hd:c.P.underlying dst=some (.int .i64)) (an:bb c E L x (.of a)):b3 c E L ⟨d,.convert src dst x,ty,pos,af,g⟩ (.of (bm a.toNat)):= .pure fun A W s=>
 ⟨.int .i64 (bm a.toNat),by
   simp only [execOp,convert,Sem.run_bind,run_underlying hs,run_underlying hd,gX.1 (an A W s),Conv.intToInt,Result.andThen_ok]; rfl,of_int.2 rfl⟩
end
end Gv
namespace Gv
open Go
set_option linter.unusedVariables false
set_option linter.unusedSimpArgs false
def tY (tmps:Array Value):ResultVar→Sem Value
 | .tmp t=>pure (tmps.getD t undef)
 | .cell a t=>do loadVar t (← asAddr (tmps.getD a undef))
theorem vW (fn:Func) (tmps:Array Value):results fn tmps=(do
 let vs ← fn.results.mapM (tY tmps)
 pure (if h:vs.size=1 then vs[0] else .tuple vs)):=by
 unfold results
 congr 1
section
variable {c:c8} {E:List (Nat × I)} {L:List aN} {ops:Array Oper} {Q:Exit→Act→World→Prop}
def rH (c:c8) (E:List (Nat × I)) (L:List aN) (r:ResultVar) (τ:I):Prop:=
 ∀ a W,bG c E L a W→ ∃ v,(tY a.tmps r).run c.P W= .ok v W∧τ.holds c.b2 W v
theorem fw {t:Nat} {τ:I} (h:look E t=some τ):rH c E L (.tmp t) τ:=fun a W s=>by
 obtain⟨v,J,ab⟩:=s.env t τ h
 exact⟨v,by simp [tY,J],KD ab⟩
theorem YM {t:Nat} {ty:TypeId} {i p:Nat} {α:Type} [ah α] {x:α} (en:bA c.P ty α) (h:look E t=some (.eq (.pointer (some ⟨p,0,none⟩)))) (av:L[i]? =some ⟨some p,.var x⟩):rH c E L (.cell t ty) (.of x):=fun a W s=>by
 obtain⟨v,J,ab⟩:=s.env t _ h
 subst ab
 obtain⟨jB,eA,cs,T,rfl,fy⟩:=s.own _ (List.mem_of_getElem? av)
 have al:cs.toList.length=ah.size α:=ah.len fy
 have eF:cs.size=ah.size α:=by simpa using al
 obtain⟨v,aE,aW⟩:=tr (A:=aP L ++ c.b2) (off:=0) en eA (by omega) (by rw [List.drop_zero,← al,List.take_length]; exact fy)
 exact⟨v,by simp [tY,J,asAddr,aE],KD aW⟩
def uI (c:c8) (ρ:I):Ending→World→Prop:=fun e W'=> ∃ v,e= .returned v∧Fr c.X c.iD W'∧ρ.holds c.b2 W' v
theorem ae.gh {fn:Func} {r:ResultVar} {τ:I} (aQ:fn.results= #[r]) (h:rH c E L r τ) (h4:c.ds= []:=by rfl):ae c (bodyPost c.P fn (uI c τ)) .ret E L:=fun a W s=>by
 obtain⟨v,J,ab⟩:=h a W s
 exact⟨s.v7 h4,v,by simp [vW,aQ,J],v,rfl,s.dw,ab⟩
theorem ae.mr {fn:Func} {r jN:ResultVar} {τ pg:I} (aQ:fn.results= #[r,jN]) (h:rH c E L r τ) (ab:rH c E L jN pg) (h4:c.ds= []:=by rfl):ae c (bodyPost c.P fn (uI c (.eI [τ,pg]))) .ret E L:=fun a W s=>by
 obtain⟨v,aE,aW⟩:=h a W s
 obtain⟨v2,aX,bk⟩:=ab a W s
 exact⟨s.v7 h4,.tuple #[v,v2],by simp [vW,aQ,aE,aX],_,rfl,s.dw,_,rfl,.cons aW (.cons bk .nil)⟩
theorem ae.l5 {fn:Func} {r jN va:ResultVar} {τ pg Pg:I} (aQ:fn.results= #[r,jN,va]) (h:rH c E L r τ) (ab:rH c E L jN pg) (aE:rH c E L va Pg) (h4:c.ds= []:=by rfl):ae c (bodyPost c.P fn (uI c (.eI [τ,pg,Pg]))) .ret E L:=fun a W s=>by
 obtain⟨v,aW,aX⟩:=h a W s
 obtain⟨v2,bk,cV⟩:=ab a W s
 obtain⟨Ef,eS,fB⟩:=aE a W s
 exact⟨s.v7 h4,.tuple #[v,v2,Ef],by simp [vW,aQ,aW,bk,eS],_,rfl,s.dw,_,rfl,.cons aX (.cons cV (.cons fB .nil))⟩
theorem bn.of {P:Program} {f:FuncId} {fn:Func} {code:Code} {n:Nat} {τs:List I} {ρ:I} (a7:P.funcs[f]? =some fn) (hb:fn.body=some code) (aO:fn.ntmps=n) (hlen:Nat.ble τs.length n=true)
 (h:∀ W A,ag ⟨P,n,W,[],A,none,[]⟩ (bodyPost P fn (uI ⟨P,n,W,[],A,none,[]⟩ ρ)) code (params 0 τs) []):bn P f τs ρ:=bn.enter a7 hb aO hlen h
end
structure j7 (P:Program) (t:TypeId) (α:Type) [ah α] [DecidableEq α] (k:Nat):Prop where
 run:∀ d,k≤d→ ∀ A W u v (x y:α),(I.of x).holds A W u→ (I.of y).holds A W v→ (Op.equalIn d t u v).run P W= .ok (decide (x=y)) W
theorem FQ {P t K} (h:P.underlying t=some (.int K)):j7 P t Int 1 where
 run d hd A W u v x y an a4:=by
  obtain⟨d,rfl⟩:∃ e,d=e + 1:=⟨d - 1,by omega⟩
  rw [of_int.1 an,of_int.1 a4,run_equalIn_int W d t .i64 K x y h]
  congr 1
theorem Uv {P t K} (h:P.underlying t=some (.int K)):j7 P t (BitVec 64) 1 where
 run d hd A W u v x y an a4:=by
  obtain⟨d,rfl⟩:∃ e,d=e + 1:=⟨d - 1,by omega⟩
  rw [gX.1 an,gX.1 a4,run_equalIn_int W d t .u64 K _ _ h]
  congr 1
  rw [Bool.eq_iff_iff]; simp only [beq_iff_eq,decide_eq_true_eq]
  exact⟨fun h=>BitVec.eq_of_toNat_eq (by omega),fun h=>by rw [h]⟩
theorem TH {P t} (h:P.underlying t=some .bool):j7 P t Bool 1 where
 run d hd A W u v x y an a4:=by
  obtain⟨d,rfl⟩:∃ e,d=e + 1:=⟨d - 1,by omega⟩
  rw [of_bool.1 an,of_bool.1 a4,run_equalIn_bool' W d t x y h]
  congr 1
theorem Kd {P:Program} {W:World} (f:Nat→Sem Bool) (p:Nat→Bool):∀ (l:List Nat),(∀ i∈l,(f i).run P W= .ok (p i) W)→
 (forIn (m:=Sem) l ((none,()):Option Bool × Unit) (fun i _=>do
  let __do_lift ← f i
  if (!__do_lift)=true then pure (ForInStep.done (some false,())) else
   pure (ForInStep.yield (none,())))).run P W= .ok (if l.all p then(none,()) else(some false,())) W
 | [],_=>by simp
 | i :: r,h=>by
   have J:=h i (by simp)
   have ab:=Kd (P:=P) (W:=W) f p r (fun j aF=>h j (by simp [aF]))
   cases hp:p i with
   | false=>simp [List.forIn_cons,J,hp]
   | true=>
     rw [List.forIn_cons]
     simp only [Sem.run_bind,J,hp,Result.andThen_ok,Bool.not_true,Bool.false_eq_true,if_false,Sem.run_pure]
     rw [ab]
     simp [hp]
theorem FR {P t e n k} {α:Type} [ah α] [Inhabited α] [DecidableEq α] (h:P.underlying t=some (.array n e)) (ft:bA P e α) (he:j7 P e α k):j7 P t (Vector α n) (k + 1) where
 run d hd A W u v x y an a4:=by
  obtain⟨d,rfl⟩:∃ e,d=e + 1:=⟨d - 1,by omega⟩
  obtain⟨J,ab⟩:=an
  obtain⟨aE,aW⟩:=a4
  obtain⟨xs,rfl⟩:∃ cs,u= .agg cs:=by simpa [shaped,ah.agg] using J
  obtain⟨ys,rfl⟩:∃ cs,v= .agg cs:=by simpa [shaped,ah.agg] using aE
  simp only [Value.cells] at ab aW
  have uS:xs.toList.length=n * ah.size α:=ah.len ab
  have H5:ys.toList.length=n * ah.size α:=ah.len aW
  have ur:∀ i∈List.range' 0 n,((do
   let a ← part e xs (i * ah.size α)
   let b ← part e ys (i * ah.size α)
   Op.equalIn d e a b):Sem Bool).run P W= .ok (decide (bd x i=bd y i)) W:=by
   intro i aj
   have hZ:i < n:=by simpa using aj
   have eJ:i * ah.size α + ah.size α≤n * ah.size α:=(aI.idx (α:=α) n i hZ).fR
   obtain⟨a,a9,uT⟩:=sc (A:=A) (P:=P) (W:=W) (cs:=xs) (off:=i * ah.size α) ft (by simp at uS; omega) ((aI.idx (α:=α) n i hZ).h0 ab)
   obtain⟨b,hb,H6⟩:=sc (A:=A) (P:=P) (W:=W) (cs:=ys) (off:=i * ah.size α) ft (by simp at H5; omega) ((aI.idx (α:=α) n i hZ).h0 aW)
   simp only [Sem.run_bind,a9,hb,Result.andThen_ok]
   exact he.run d (by omega) A W a b _ _ uT H6
  have a7:=Kd (P:=P) (W:=W) _ _ _ ur
  have ix:(List.range' 0 n).all (fun i=>decide (bd x i=bd y i))=decide (x=y):=by
   rw [Bool.eq_iff_iff,List.all_eq_true,decide_eq_true_eq]
   constructor
   ·intro h
    apply Vector.ext
    intro i aj
    have:=h i (by simpa using aj)
    simpa [bd,aj] using this
   ·rintro rfl i _
    simp
  rw [ix] at a7
  simp only [Op.equalIn,Sem.run_bind,run_underlying h,Result.andThen_ok,ft.sizeOf,Std.Legacy.Range.forIn_eq_forIn_range']
  simp only [Std.Legacy.Range.size,Nat.sub_zero,Nat.add_one_sub_one,Nat.div_one] at a7 ⊢
  simp only [bind_assoc] at a7
  rw [a7]
  by_cases Ph:x=y
  ·simp [Ph]
  ·simp [Ph]
end Gv
namespace Gv
open Go
set_option linter.unusedVariables false
set_option linter.unusedSimpArgs false
section
variable {c:c8} {E:List (Nat × I)} {L:List aN} {ops:Array Oper} {Q:Exit→Act→World→Prop}
variable {d:Option Tmp} {ty:TypeId} {pos:String} {af:Array Edge} {g:Option (Nat × Bool)} {x y:Operand} {t t2:TypeId}
theorem GQ {α:Type} [ah α] [DecidableEq α] {k:Nat} {a b:α} (vb:j7 c.P t α k) (aq:Nat.ble k 10000=true) (bZ:c.P.eqGuardType c.P.depth t=false) (a9:ah.agg α=true) (an:bb c E L x (.of a)) (a4:bb c E L y (.of b)):
 b3 c E L ⟨d,.binOp .eql t x y t2,ty,pos,af,g⟩ (.of (decide (a=b))):= .pure fun A W s=>by
 have J:=an A W s
 have ab:=a4 A W s
 obtain⟨xs,iB⟩:∃ cs,A.eval x= .agg cs:=by simpa [shaped,a9] using J.1
 obtain⟨ys,Af⟩:∃ cs,A.eval y= .agg cs:=by simpa [shaped,a9] using ab.1
 have aE:=vb.run 10000 (Nat.le_of_ble_eq_true aq) _ W _ _ a b J ab
 rw [iB,Af] at aE
 refine⟨.bool (decide (a=b)),?_,of_bool.2 rfl⟩
 simp only [execOp,iB,Af,Sem.run_bind,run_eqGuard_agg W .eql t x y xs ys bZ,Result.andThen_ok,run_eql_struct,aE,Sem.run_pure]
theorem zn {α:Type} [ah α] [DecidableEq α] {k:Nat} {a b:α} (vb:j7 c.P t α k) (aq:Nat.ble k 10000=true) (bZ:c.P.eqGuardType c.P.depth t=false) (a9:ah.agg α=true) (an:bb c E L x (.of a)) (a4:bb c E L y (.of b)):
 b3 c E L ⟨d,.binOp .neq t x y t2,ty,pos,af,g⟩ (.of (!decide (a=b))):= .pure fun A W s=>by
 have J:=an A W s
 have ab:=a4 A W s
 obtain⟨xs,iB⟩:∃ cs,A.eval x= .agg cs:=by simpa [shaped,a9] using J.1
 obtain⟨ys,Af⟩:∃ cs,A.eval y= .agg cs:=by simpa [shaped,a9] using ab.1
 have aE:=vb.run 10000 (Nat.le_of_ble_eq_true aq) _ W _ _ a b J ab
 rw [iB,Af] at aE
 refine⟨.bool (!decide (a=b)),?_,of_bool.2 rfl⟩
 simp only [execOp,iB,Af,Sem.run_bind,run_eqGuard_agg W .neq t x y xs ys bZ,Result.andThen_ok,run_neq_struct,aE,Sem.run_pure]
end
theorem Cx {P:Program} {W:World} {d:Nat} {xs ys:Array Value} :(Op.eqFields d xs ys []).run P W= .ok true W:=rfl
theorem n7 {P:Program} {A:List Nat} {W:World} {d:Nat} {xs ys:Array Value} {β γ:Type} [ah β] [ah γ] [DecidableEq γ] (l:aI β γ) {Jb Jc:β} {fd:Field} {fs:List Field} {k:Nat} {r:Bool} (ft:bA P fd.type γ) (bo:fd.offset=l.off) (aO:(fd.name == "_")=false)
 (vb:j7 P fd.type γ k) (hd:k≤d) (an:ah.rep A W xs.toList Jb) (a4:ah.rep A W ys.toList Jc) (aQ:(Op.eqFields d xs ys fs).run P W= .ok r W):
 (Op.eqFields d xs ys (fd :: fs)).run P W= .ok (decide (l.get Jb=l.get Jc) && r) W:=by
 have uS:xs.toList.length=ah.size β:=ah.len an
 have H5:ys.toList.length=ah.size β:=ah.len a4
 have eJ:=l.fR
 obtain⟨a,a9,uT⟩:=sc (A:=A) (P:=P) (W:=W) (cs:=xs) (off:=l.off) ft (by simp at uS; omega) (l.h0 an)
 obtain⟨b,hb,H6⟩:=sc (A:=A) (P:=P) (W:=W) (cs:=ys) (off:=l.off) ft (by simp at H5; omega) (l.h0 a4)
 have ph:fd.name≠ "_" :=fun e=>by rw [e] at aO; simp at aO
 simp only [Op.eqFields,if_pos ph,Sem.run_bind,bo,a9,hb,Result.andThen_ok,vb.run d hd A W a b _ _ uT H6]
 by_cases h:l.get Jb=l.get Jc
 ·simp [h,aQ]
 ·simp [h]
theorem B9 {P:Program} {t:TypeId} {β:Type} [ah β] [DecidableEq β] {k:Nat} {fs:Array Field} (a9:ah.agg β=true) (hu:P.underlying t=some (.struct fs)) (hp:P.stoodInHeld t=false)
 (h:∀ d,k≤d→ ∀ A W (xs ys:Array Value) (x y:β),ah.rep A W xs.toList x→ah.rep A W ys.toList y→ (Op.eqFields d xs ys fs.toList).run P W= .ok (decide (x=y)) W):j7 P t β (k + 1) where
 run d hd A W u v x y an a4:=by
  obtain⟨d,rfl⟩:∃ e,d=e + 1:=⟨d - 1,by omega⟩
  obtain⟨xs,rfl⟩:∃ cs,u= .agg cs:=by simpa [shaped,a9] using an.1
  obtain⟨ys,rfl⟩:∃ cs,v= .agg cs:=by simpa [shaped,a9] using a4.1
  have a7:P.fieldsOf t=fs:=by simp [Program.fieldsOf,hu]
  rw [run_equalIn_struct W d t xs ys (by rw [a7]; exact hu) hp,a7]
  exact h d (by omega) A W xs ys x y (by simpa [Value.cells] using an.2) (by simpa [Value.cells] using a4.2)
theorem J4 {P:Program} {W:World} (fs:Array Field) (h:fs.all (fun f=>(P.info? f.type).isSome)=true):
 (fs.mapM (m:=Sem) fun f=>do pure (f.offset,← Go.sizeOf f.type)).run P W= .ok (fs.map fun f=>(f.offset,P.cellsOf f.type)) W:=by
 obtain⟨l⟩:=fs
 have key:∀ (l:List Field),l.all (fun f=>(P.info? f.type).isSome)=true→ (l.mapM (m:=Sem) fun f=>do pure (f.offset,← Go.sizeOf f.type)).run P W= .ok (l.map fun f=>(f.offset,P.cellsOf f.type)) W:=by
  intro l
  induction l with
  | nil=>intro _; rfl
  | cons f r bO=>
    intro h
    simp only [List.all_cons,Bool.and_eq_true] at h
    obtain⟨i,aj⟩:=Option.isSome_iff_exists.1 h.1
    rw [List.mapM_cons]
    simp only [Sem.run_bind,Go.sizeOf,typeInfo,run_program,Result.andThen_ok,aj,Sem.run_pure]
    have:=bO h.2
    simp only [Sem.run_bind,Go.sizeOf,typeInfo] at this
    rw [this]
    simp [Program.cellsOf,aj]
 have cR:l.all (fun f=>(P.info? f.type).isSome)=true:=by simpa using h
 rw [List.mapM_toArray]
 simp only [Sem.run_map,key l cR,Result.andThen_ok]
 simp
theorem Sm (ds:List Value) (off:Nat):∀ (j:Nat) (cs:Array Value),off + j + ds.length≤cs.size→
 (ds.zipIdx j).foldl (fun cs (c,j)=>cs.setIfInBounds (off + j) c) cs=(cs.toList.take (off + j) ++ ds ++ cs.toList.drop (off + j + ds.length)).toArray:=by
 induction ds with
 | nil=>intro j cs _; simp
 | cons v r bO=>
   intro j cs h
   simp only [List.length_cons] at h
   rw [List.zipIdx_cons,List.foldl_cons,bO (j + 1) _ (by simp; omega)]
   simp only [Array.toList_setIfInBounds]
   have:=list_seg_step cs.toList (off + j) v r (by simp; omega)
   rw [show off + (j + 1)=off + j + 1 by omega]
   simp only [List.length_cons]
   rw [this]
theorem Cl {place:Nat→Option (Nat × Nat)} {cs:Array Value} {i off sz:Nat} {v:Value} {rest:List (Nat × Value)} (hp:place i=some (off,sz)) (a3:v.cells.size=sz) (hle:off + sz≤cs.size):
 Instr.fill place cs ((i,v) :: rest)=Instr.fill place (fK cs.toList off v.cells.toList).toArray rest:=by
 simp only [Instr.fill,hp]
 rw [if_neg (by simp [a3]; omega)]
 have:=Sm v.cells.toList off 0 cs (by simp [a3]; omega)
 simp only [Nat.add_zero] at this
 congr 1
 rw [← Array.foldl_toList]
 have dh:(v.cells.zipIdx).toList=v.cells.toList.zipIdx:=by simp
 rw [dh,this]
 simp [fK]
section
variable {c:c8} {E:List (Nat × I)} {L:List aN} {ops:Array Oper} {Q:Exit→Act→World→Prop}
variable {d:Option Tmp} {ty:TypeId} {pos:String} {af:Array Edge} {g:Option (Nat × Bool)} {x y:Operand} {t t2:TypeId}
inductive pS (c:c8) (E:List (Nat × I)) (L:List aN) (place:Nat→Option (Nat × Nat)) {β:Type} [ah β]:β→List (Nat × Operand)→β→Prop
 | nil {b} :pS c E L place b [] b
 | cons {b e6 b':β} {γ:Type} [ah γ] {v:γ} {i:Nat} {x:Operand} {r:List (Nat × Operand)} (l:aI β γ):place i=some (l.off,ah.size γ)→bb c E L x (.of v)→l.set b v=e6→pS c E L place e6 r b'→pS c E L place b ((i,x) :: r) b'
theorem pS.run {place:Nat→Option (Nat × Nat)} {β:Type} [ah β] {b b':β} {bs:List (Nat × Operand)} (h:pS c E L place b bs b'):∀ a W,bG c E L a W→ ∀ cs:Array Value,ah.rep (aP L ++ c.b2) W cs.toList b→
 ∃ dK,Instr.fill place cs (bs.map fun(i,x)=>(i,a.eval x))=some dK∧ah.rep (aP L ++ c.b2) W dK.toList b':=by
 induction h with
 | nil=>intro a W s cs aQ; exact⟨cs,rfl,aQ⟩
 | @cons b e6 b' γ _ v i x r l J ab aE _ bO=>
   intro a W s cs aQ
   subst aE
   have a3:=ab a W s
   have eF:(a.eval x).cells.size=ah.size γ:=by have:=ah.len a3.2; simpa using this
   have al:cs.toList.length=ah.size β:=ah.len aQ
   have eJ:=l.fR
   rw [List.map_cons,Cl J eF (by simp at al; omega)]
   refine bO a W s _ ?_
   have:=l.kG aQ a3.2
   simpa [fK,ah.len a3.2] using this
structure ho (P:Program) (t:TypeId) (pl:Array (Nat × Nat)):Prop where
 at_:∃ fs,P.underlying t=some (.struct fs)∧fs.all (fun f=>(P.info? f.type).isSome)=true∧ (fs.map fun f=>(f.offset,P.cellsOf f.type))=pl
theorem cU {β:Type} [ah β] {z b:β} {bs:List (Nat × Operand)} {pl:Array (Nat × Nat)} (a9:ah.agg β=true) (AW:ho c.P t pl) (gl:cF c.P t z)
 (a7:pS c E L (pl[·]?) z bs b):b3 c E L ⟨d,.build t bs.toArray,ty,pos,af,g⟩ (.of b):= .pure fun a W s=>by
 obtain⟨fs,hu,hs,rfl⟩:=AW.at_
 obtain⟨i,ec,J,ab,aE⟩:=gl.zero
 obtain⟨dK,aW,aX⟩:=a7.run a W s ec.cells (aE _ _).2
 refine⟨.agg dK,?_,by simp [shaped,a9],by simpa [Value.cells] using aX⟩
 have hm:(bs.toArray.map fun(x:Nat × Operand)=>(x.1,a.eval x.2)).toList=bs.map fun(i,x)=>(i,a.eval x):=by simp
 simp only [execOp,Instr.build,Sem.run_bind,zeroValue,typeInfo,run_program,Result.andThen_ok,J,ab,Sem.run_pure,run_underlying hu,J4 fs hs]
 rw [hm,aW]
 rfl
theorem oQ {β:Type} [ah β] {z b:β} {bs:List (Nat × Operand)} {n e sz:Nat} (a9:ah.agg β=true) (hu:c.P.underlying t=some (.array n e)) (hs:(c.P.info? e).map (·.size)=some sz) (gl:cF c.P t z)
 (a7:pS c E L (fun i=>some (i * sz,sz)) z bs b):b3 c E L ⟨d,.build t bs.toArray,ty,pos,af,g⟩ (.of b):= .pure fun a W s=>by
 obtain⟨i,ec,J,ab,aE⟩:=gl.zero
 obtain⟨gd,dW,eF⟩:∃ gd,c.P.info? e=some gd∧gd.size=sz:=by
  cases aj:c.P.info? e with
  | none=>simp [aj] at hs
  | some gd=>exact⟨gd,rfl,by simpa [aj] using hs⟩
 obtain⟨dK,aW,aX⟩:=a7.run a W s ec.cells (aE _ _).2
 refine⟨.agg dK,?_,by simp [shaped,a9],by simpa [Value.cells] using aX⟩
 have hm:(bs.toArray.map fun(x:Nat × Operand)=>(x.1,a.eval x.2)).toList=bs.map fun(i,x)=>(i,a.eval x):=by simp
 simp only [execOp,Instr.build,Sem.run_bind,zeroValue,typeInfo,run_program,Result.andThen_ok,J,ab,Sem.run_pure,run_underlying hu,Go.sizeOf,dW,eF]
 rw [hm,aW]
 rfl
end
def ng {α:Type} [ah α] (A:List Nat) (W:World) (v:Value) (xs:List α):Prop:=
 (v= .slice none 0 0∧xs= [])∨
 ∃ b off cap cur T hl,v= .slice (some ⟨b,off,none⟩) xs.length cap∧b ∉ A∧W.heap[b]? =some (.cells cur T hl)∧xs.length≤cap∧xs.length≤maxLen∧off + xs.length * ah.size α≤cur.size∧
   gi A W ((cur.toList.drop off).take (xs.length * ah.size α)) xs
theorem ng.mono {α:Type} [ah α] {A W c0 W' v} {xs:List α} (e:Ext A W c0 W') (h:ng A W v xs):ng c0 W' v xs:=by
 rcases h with h | ⟨b,off,cap,cur,T,hl,J,ab,aE,aW,aX,bk,cV⟩
 ·exact .inl h
 ·have cv:b < W.heap.size:=(Array.getElem?_eq_some_iff.1 aE).1
  exact .inr ⟨b,off,cap,cur,T,hl,J,fun hm=>ab (e.new b hm cv),by rw [e.block b cv ab]; exact aE,aW,aX,bk,cV.mono e⟩
instance aaK {α:Type} [ah α]:ah (List α) where
 size:=1
 agg:=false
 rep A W cs xs:= ∃ v,cs= [v]∧ng A W v xs
 len h:=by obtain⟨v,rfl,_⟩:=h; rfl
 one h:=by
  obtain⟨v,rfl,h⟩:=h
  intro u hu
  rw [List.mem_singleton.1 hu]
  rcases h with⟨rfl,_⟩ | ⟨b,off,cap,cur,T,hl,rfl,_⟩ <;> rfl
 flat _:=rfl
 mono e h:=let⟨v,J,ab⟩:=h; ⟨v,J,ab.mono e⟩
theorem ng.one {α:Type} [ah α] {A W v} {xs:List α} (h:ng A W v xs):v.oneCell'=true:=by
 rcases h with⟨rfl,_⟩ | ⟨b,off,cap,cur,T,hl,rfl,_⟩ <;> rfl
theorem mj {α:Type} [ah α] {A W v} {xs:List α} :(I.of xs).holds A W v↔ng A W v xs:=by
 constructor
 ·rintro ⟨J,u,ab,aE⟩
  have:v=u:=n5 J ab
  rw [this]; exact aE
 ·intro h
  exact⟨h.one,v,by rw [n6 h.one],h⟩
def aB {α:Type} [Inhabited α] (xs:List α) (k:Nat):α:=xs[k]?.getD default
theorem dU {α:Type} [Inhabited α] (xs:List α) {k:Nat} (h:k < xs.length):aB xs k=xs[k]:=by simp [aB,h]
def tX {α:Type} (xs:List α) (lo aj:Int):Option (List α):=if 0≤lo∧lo≤aj∧aj≤xs.length then some ((xs.drop lo.toNat).take (aj.toNat - lo.toNat)) else none
theorem Sn {α:Type} {xs r:List α} {lo aj:Int} (h:tX xs lo aj=some r):∃ a b:Nat,lo=a∧aj=b∧a≤b∧b≤xs.length∧r=(xs.drop a).take (b - a):=by
 unfold tX at h
 split at h
 ·rename_i ao
  simp only [Option.some.injEq] at h
  exact⟨lo.toNat,aj.toNat,by omega,by omega,by omega,by omega,h.symm⟩
 ·cases h
def fP {α:Type} (bytes:Nat) (xs ys:List α):Option (List α):=if (xs.length + ys.length) * bytes≤140737488355328∧xs.length + ys.length≤maxLen then some (xs ++ ys) else none
theorem K3 {α:Type} {bytes:Nat} {xs ys r:List α} (h:fP bytes xs ys=some r):(xs.length + ys.length) * bytes≤140737488355328∧xs.length + ys.length≤maxLen∧r=xs ++ ys:=by
 unfold fP at h
 split at h
 ·rename_i ao; simp only [Option.some.injEq] at h; exact⟨ao.1,ao.2,h.symm⟩
 ·cases h
section
variable {c:c8} {E:List (Nat × I)} {L:List aN} {ops:Array Oper} {Q:Exit→Act→World→Prop}
variable {d:Option Tmp} {ty:TypeId} {pos:String} {af:Array Edge} {g:Option (Nat × Bool)} {x y:Operand} {t t2:TypeId}
theorem look_nil {α:Type} [ah α]:bb c E L (.const (.slice none 0 0)) (.of ([]:List α)):=fun _ _ _=>mj.2 (.inl ⟨rfl,rfl⟩)
theorem ng.len {α:Type} [ah α] {A W v} {xs:List α} (h:ng A W v xs):∃ a cap,v= .slice a xs.length cap:=by
 rcases h with⟨rfl,rfl⟩ | ⟨b,off,cap,cur,T,hl,rfl,_⟩
 ·exact⟨none,0,rfl⟩
 ·exact⟨_,_,rfl⟩
theorem er {α:Type} [ah α] {xs:List α} {e:TypeId} (hu:c.P.underlying t=some (.slice e)) (an:bb c E L x (.of xs)):b3 c E L ⟨d,.call ⟨.builtin .len,#[x],#[t]⟩,ty,pos,af,g⟩ (.of (xs.length:Int)):= .pure fun a W s=>by
 obtain⟨b,cap,J⟩:=(mj.1 (an a W s)).len
 exact⟨.int .i64 xs.length,by simp [execOp,resolve,invoke,builtin,Builtin.len_,J,run_underlying hu,goInt],of_int.2 rfl⟩
theorem oZ {α:Type} [ah α] [Inhabited α] {xs:List α} {e:TypeId} {i:Int} {k:Nat} (hu:c.P.underlying t=some (.slice e)) (ft:bA c.P e α) (an:bb c E L x (.of xs)) (a4:bb c E L y (.of i)) (aq:k < xs.length∧i=k):
 b3 c E L ⟨d,.indexAddr t x y,ty,pos,af,g⟩ (.ptr (aB xs k)):= .pure fun a W s=>by
 obtain⟨bk,rfl⟩:=aq
 have aX:=of_int.1 (a4 a W s)
 rcases mj.1 (an a W s) with⟨_,rfl⟩ | ⟨b,off,cap,cur,T,hl,J,ab,aE,aW,cV,eS,fB⟩
 ·simp at bk
 ·obtain⟨gd,dW,eF⟩:=ft.info
  have hle:(k + 1) * ah.size α≤xs.length * ah.size α:=Nat.mul_le_mul_right _ bk
  rw [Nat.succ_mul] at hle
  refine⟨.pointer (some ⟨b,off + k * ah.size α,none⟩),?_,b,off + k * ah.size α,cur,T,hl,rfl,ab,aE,by omega,?_⟩
  ·simp [execOp,Instr.indexAt,asIntOf,run_underlying hu,J,aX,bk,Go.sizeOf,typeInfo,dW,eF,jk]
  ·have:=fB.2 k bk
   rw [rY _ _ _ _ _ hle] at this
   rw [dU xs bk]
   exact this
theorem pF {P:Program} {W:World} {v:Value} {k:IntKind} {n m:Nat} {code:BoundsCode} (h:n≤m) (a3:v= .int k n):(Instr.sliceBound v m code).run P W= .ok n W:=by
 subst a3
 have bP:(n:Int)≤ (m:Int):=by omega
 simp [Instr.sliceBound,asIntOf,h]
theorem Uw {α:Type} [ah α] {A W} {xs:List α} {b off cap:Nat} {cur:Array Value} {T:TypeId} {hl:Nat × Nat} {lo aj:Nat} (ab:b ∉ A) (aE:W.heap[b]? =some (.cells cur T hl)) (aW:xs.length≤cap) (cV:xs.length≤maxLen)
 (eS:off + xs.length * ah.size α≤cur.size) (fB:gi A W ((cur.toList.drop off).take (xs.length * ah.size α)) xs) (h:lo≤aj) (cR:aj≤xs.length):
 ng A W (.slice (some (if cap=lo then⟨b,off,none⟩ else⟨b,off + lo * ah.size α,none⟩)) (aj - lo) (cap - lo)) ((xs.drop lo).take (aj - lo)):=by
 have al:((xs.drop lo).take (aj - lo)).length=aj - lo:=by simp; omega
 have hm:aj * ah.size α≤xs.length * ah.size α:=Nat.mul_le_mul_right _ cR
 have pd:lo * ah.size α≤aj * ah.size α:=Nat.mul_le_mul_right _ h
 have hd:(aj - lo) * ah.size α=aj * ah.size α - lo * ah.size α:=Nat.sub_mul _ _ _
 by_cases e:cap=lo
 ·subst e
  have bP:aj=cap:=by omega
  subst bP
  refine .inr ⟨b,off,aj - aj,cur,T,hl,by simp,ab,aE,by simp,by simp,by simp; omega,?_⟩
  simp only [Nat.sub_self,List.take_zero,List.length_nil,Nat.zero_mul]
  exact⟨by simp,fun i aj=>by simp at aj⟩
 ·rw [if_neg e]
  refine .inr ⟨b,off + lo * ah.size α,cap - lo,cur,T,hl,by rw [al],ab,aE,by omega,by omega,by rw [al]; omega,?_⟩
  rw [al]
  refine⟨by simp only [al,List.length_take,List.length_drop]; simp; omega,fun i hZ=> ?_⟩
  rw [al] at hZ
  have jK:=fB.2 (lo + i) (by omega)
  have hle:(lo + i + 1) * ah.size α≤xs.length * ah.size α:=Nat.mul_le_mul_right _ (by omega)
  have Du:(i + 1) * ah.size α≤ (aj - lo) * ah.size α:=Nat.mul_le_mul_right _ (by omega)
  rw [Nat.succ_mul] at hle Du
  rw [rY _ _ _ _ _ hle] at jK
  rw [rY _ _ _ _ _ Du]
  have:((xs.drop lo).take (aj - lo))[i]'(by rw [al]; exact hZ)=xs[lo + i]:=by simp
  rw [this]
  rw [show off + lo * ah.size α + i * ah.size α=off + (lo + i) * ah.size α by rw [Nat.add_mul]; omega]
  exact jK
inductive tg (c:c8) (E:List (Nat × I)) (L:List aN):Option Operand→Int→Int→Prop
 | none {n} :tg c E L .none n n
 | some {x i n} :bb c E L x (.of (i:Int))→tg c E L (.some x) i n
theorem LQ {α:Type} [ah α] {xs r:List α} {e:TypeId} {lo aj:Option Operand} {i j:Int} (hu:c.P.underlying t=some (.slice e)) (ft:bA c.P e α) (an:bb c E L x (.of xs)) (g6:tg c E L lo i 0) (eE:tg c E L aj j xs.length)
 (h:tX xs i j=some r):b3 c E L ⟨d,.slice t x lo aj none,ty,pos,af,g⟩ (.of r):= .pure fun a W s=>by
 obtain⟨m,n,rfl,rfl,w8,aO,rfl⟩:=Sn h
 obtain⟨gd,dW,eF⟩:=ft.info
 rcases mj.1 (an a W s) with⟨J,rfl⟩ | ⟨b,off,cap,cur,T,hl,J,ab,aE,aW,cV,eS,fB⟩
 ·have s4:n=0:=by simpa using aO
  have hJ:m=0:=by omega
  subst s4
  subst hJ
  refine⟨.slice none 0 0,?_,mj.2 (.inl ⟨rfl,by simp⟩)⟩
  have av:(match lo.map a.eval with | some v=>Instr.sliceBound v 0 .sliceB | none=>pure 0:Sem Nat).run c.P W= .ok 0 W:=by
   cases g6 with
   | none=>rfl
   | some al=>exact pF (Nat.le_refl _) (of_int.1 (al a W s))
  have jh:(match aj.map a.eval,(none:Option Value) with | some v,some _=>Instr.sliceBound v 0 .slice3B | some v,none=>Instr.sliceBound v 0 .sliceAcap | none,none=>pure 0 | none,some _=>stuck "Slice: max without high" :Sem Nat).run c.P W= .ok 0 W:=by
   cases eE with
   | none=>rfl
   | some al=>exact pF (Nat.le_refl _) (of_int.1 (al a W s))
  cases g6 <;> cases eE
  all_goals
   simp only [execOp,Instr.sliceAt,Instr.slice,Instr.sliceBounds,J,Sem.run_bind,run_underlying hu,Result.andThen_ok,Option.map_none,Option.map_some,Option.isSome_none,Bool.false_eq_true,if_false,if_true,Sem.run_pure] at av jh ⊢
   try simp only [av,jh,Result.andThen_ok,Go.sizeOf,typeInfo,Sem.run_bind,run_program,dW,Sem.run_pure]
   try simp [dW]
 ·refine⟨.slice (some (if cap=m then⟨b,off,none⟩ else⟨b,off + m * ah.size α,none⟩)) (n - m) (cap - m),?_,mj.2 (Uw ab aE aW cV eS fB w8 aO)⟩
  have av:∀ v,v=Value.int .i64 m→ (Instr.sliceBound v n .sliceB).run c.P W= .ok m W:=fun v a3=>pF w8 a3
  have jh:∀ v,v=Value.int .i64 n→ (Instr.sliceBound v cap .sliceAcap).run c.P W= .ok n W:=fun v a3=>pF (by omega) a3
  have OP:(if cap=m then(some ⟨b,off,none⟩:Option Addr) else(some (Addr.add ⟨b,off,none⟩ (m * ah.size α))))=some (if cap=m then⟨b,off,none⟩ else⟨b,off + m * ah.size α,none⟩):=by
   split <;> simp [jk]
  generalize eJ:(n:Int)=P0 at eE
  generalize Ag:(m:Int)=P1 at g6
  generalize Ah:(xs.length:Int)=P2 at eE
  generalize Pj:(0:Int)=P3 at g6
  cases g6 with
  | none=>
    have hJ:m=0:=by omega
    cases eE with
    | none=>
      have m9:n=xs.length:=by omega
      subst m9
      subst hJ
      simp [execOp,Instr.sliceAt,Instr.slice,Instr.sliceBounds,J,run_underlying hu,Go.sizeOf,typeInfo,dW,eF,jk]
    | some al=>
      have aX:=of_int.1 (al a W s)
      rw [← eJ] at aX
      have bk:=jh _ aX
      subst hJ
      simp [execOp,Instr.sliceAt,Instr.slice,Instr.sliceBounds,J,run_underlying hu,Go.sizeOf,typeInfo,dW,eF,jk,bk]
  | some al=>
    have aX:=of_int.1 (al a W s)
    rw [← Ag] at aX
    have bk:=av _ aX
    cases eE with
    | none=>
      have m9:n=xs.length:=by omega
      subst m9
      simp only [execOp,Instr.sliceAt,Instr.slice,Instr.sliceBounds,J,Sem.run_bind,run_underlying hu,Result.andThen_ok,Option.map_none,Option.map_some,Option.isSome_none,Bool.false_eq_true,if_false,if_true,Sem.run_pure,bk,Go.sizeOf,typeInfo,run_program,dW,eF]
      rw [← OP]
    | some lg=>
      have Pk:=of_int.1 (lg a W s)
      rw [← eJ] at Pk
      have Zs:=jh _ Pk
      simp only [execOp,Instr.sliceAt,Instr.slice,Instr.sliceBounds,J,Sem.run_bind,run_underlying hu,Result.andThen_ok,Option.map_none,Option.map_some,Option.isSome_none,Bool.false_eq_true,if_false,if_true,Sem.run_pure,bk,Zs,Go.sizeOf,typeInfo,run_program,dW,eF]
      rw [← OP]
end
end Gv
namespace Gv
open Go
set_option linter.unusedVariables false
set_option linter.unusedSimpArgs false
def aZ:Option Nat→Nat→Nat→Value
 | some p,n,cap=> .slice (some ⟨p,0,none⟩) n cap
 | none,_,_=> .slice none 0 0
theorem So {L:List aN} {i:Nat} {cp:dB} :∀ k∈aP (L.set i ⟨none,cp⟩),∃ j e,j≠i∧L[j]? =some e∧e.key=some k:=by
 intro k aq
 obtain⟨e,he,sY⟩:=kH.1 aq
 obtain⟨j,aF⟩:=List.mem_iff_getElem?.1 he
 rw [List.getElem?_set] at aF
 split at aF
 ·split at aF
  ·simp only [Option.some.injEq] at aF; subst aF; cases sY
  ·cases aF
 ·rename_i dk
  exact⟨j,e,fun h=>dk h.symm,aF,sY⟩
theorem vG {L:List aN} {i:Nat} {cp:dB} :aP (L.set i ⟨none,cp⟩) |>.Sublist (aP L):=by
 induction L generalizing i with
 | nil=>simp [aP]
 | cons x r bO=>
   cases i with
   | zero=>
     cases aq:x.key with
     | none=>simp [aP,aq]
     | some p=>simp [aP,aq]
   | succ i=>
     cases aq:x.key with
     | none=>simpa [aP,aq] using bO
     | some p=>simpa [aP,aq] using bO
theorem bG.kill {c E L a W} (h:bG c E L a W) (i:Nat):bG c E (L.set i ⟨none,.dead⟩) a W:=by
 have kJ:=vG (L:=L) (i:=i) (cp:= .dead)
 have aq:∀ k∈aP (L.set i ⟨none,.dead⟩),k∈aP L:=fun k aq=>kJ.subset aq
 have gZ:Ext (aP L ++ c.b2) W (aP (L.set i ⟨none,.dead⟩) ++ c.b2) W:= .drop fun k hm=>by
  rcases List.mem_append.1 hm with hm | hm
  ·exact List.mem_append.2 (.inl (aq k hm))
  ·exact List.mem_append.2 (.inr hm)
 exact
 {defers:=h.defers
  size:=h.size
  env:=fun t τ al=>let⟨v,J,ab⟩:=h.env t τ al; ⟨v,J,τ.mono gZ ab⟩
  dw:=h.dw
  own:=fun e he=>by
   obtain⟨j,aF⟩:=List.mem_iff_getElem?.1 he
   rw [List.getElem?_set] at aF
   split at aF
   ·split at aF
    ·simp only [Option.some.injEq] at aF; subst aF; trivial
    ·cases aF
   ·have J:=h.own e (List.mem_of_getElem? aF)
    unfold aN.ok at *
    split at J
    ·obtain⟨o',bo,cE⟩:=J
     exact⟨o',bo,dB.mono _ gZ cE⟩
    ·exact J
  nodup:=h.nodup.sublist kJ
  lt:=fun k hm=>h.lt k (aq k hm)
  fH:=fun k hm=>h.fH k (aq k hm)
  eQ:=fun k hm=>⟨(h.eQ k hm).1,fun ab=>(h.eQ k hm).2 (aq k ab)⟩ }
theorem bG.yK {c E L a W} (h:bG c E L a W) {i p:Nat} {cp:dB} (aj:L[i]? =some ⟨some p,cp⟩):p ∉ aP (L.set i ⟨none,.dead⟩) ++ c.b2:=by
 intro hm
 rcases List.mem_append.1 hm with hm | hm
 ·obtain⟨j,e,dk,aF,sY⟩:=So p hm
  exact dk (Gh h.nodup aF aj sY rfl)
 ·exact(h.eQ p hm).2 (kH.2 ⟨_,List.mem_of_getElem? aj,rfl⟩)
theorem EZ {α:Type} [ah α] {A W} {cs:Array Value} {xs:List α} {cap:Nat} (h:cs.size=cap * ah.size α) (aO:xs.length≤cap) (aQ:gi A W (cs.toList.take (xs.length * ah.size α)) xs):
 0 + xs.length * ah.size α≤cs.size∧gi A W ((cs.toList.drop 0).take (xs.length * ah.size α)) xs:=by
 refine⟨?_,by simpa using aQ⟩
 rw [h,Nat.zero_add]; exact Nat.mul_le_mul_right _ aO
section
variable {c:c8} {E:List (Nat × I)} {L:List aN} {ops:Array Oper} {Q:Exit→Act→World→Prop}
variable {d:Option Tmp} {ty:TypeId} {pos:String} {af:Array Edge} {g:Option (Nat × Bool)} {x y:Operand} {t t2:TypeId}
theorem bG.freeze {a:Act} {W:World} {α:Type} [ah α] {i s cap T:Nat} {key:Option Nat} {xs:List α} (h:bG c E L a W) (al:look E s=some (.eq (aZ key xs.length cap))) (av:L[i]? =some ⟨key,.row T xs cap⟩):
 bG c ((s,.of xs) :: E) (L.set i ⟨none,.dead⟩) a W:=by
 have aq:=h.kill i
 refine { aq with env:=fun t τ ev=> ?_ }
 simp only [look] at ev
 by_cases e:Nat.beq s t=true
 ·rw [e] at ev
  simp only [cond_true,Option.some.injEq] at ev
  subst ev
  have:=ep.1 e
  subst this
  obtain⟨v,J,ab⟩:=h.env s _ al
  refine⟨v,J,mj.2 ?_⟩
  have lj:v=aZ key xs.length cap:=ab
  subst lj
  have bo:=h.own _ (List.mem_of_getElem? av)
  cases key with
  | none=>exact .inl ⟨rfl,bo.1⟩
  | some p=>
    obtain⟨o,eA,cs,rfl,eF,aO,oD,aQ⟩:=bo
    obtain⟨aE,aW⟩:=EZ eF aO aQ
    refine .inr ⟨p,0,cap,cs,T,(0,0),rfl,h.yK av,eA,aO,by omega,aE,?_⟩
    have kJ:=vG (L:=L) (i:=i) (cp:= .dead)
    exact aW.mono (.drop fun k hm=>by
     rcases List.mem_append.1 hm with hm | hm
     ·exact List.mem_append.2 (.inl (kJ.subset hm))
     ·exact List.mem_append.2 (.inr hm))
 ·simp only [Bool.not_eq_true] at e
  rw [e] at ev
  exact aq.env t τ ev
theorem ak.freeze {l:List Oper} {α:Type} [ah α] {key:Option Nat} {xs:List α} {cap T:Nat} (i s:Nat) (al:look E s=some (.eq (aZ key xs.length cap))) (av:L[i]? =some ⟨key,.row T xs cap⟩)
 (k:ak c ops Q l ((s,.of xs) :: E) (L.set i ⟨none,.dead⟩)):ak c ops Q l E L:=fun a W st=>k a W (st.freeze al av)
theorem ae.freeze {x:Exit} {α:Type} [ah α] {key:Option Nat} {xs:List α} {cap T:Nat} (i s:Nat) (al:look E s=some (.eq (aZ key xs.length cap))) (av:L[i]? =some ⟨key,.row T xs cap⟩)
 (k:ae c Q x ((s,.of xs) :: E) (L.set i ⟨none,.dead⟩)):ae c Q x E L:=fun a W st=>k a W (st.freeze al av)
theorem ag.freeze {code:Code} {α:Type} [ah α] {key:Option Nat} {xs:List α} {cap T:Nat} (i s:Nat) (al:look E s=some (.eq (aZ key xs.length cap))) (av:L[i]? =some ⟨key,.row T xs cap⟩)
 (k:ag c Q code ((s,.of xs) :: E) (L.set i ⟨none,.dead⟩)):ag c Q code E L:=fun a W st=>k a W (st.freeze al av)
theorem bG.Vi {a:Act} {W:World} {α:Type} [ah α] (T:TypeId) (h:bG c E L a W):bG c E (⟨none,.row T ([]:List α) 0⟩ :: L) a W:=
 {h with
  own:=fun e he=>by
   rcases List.mem_cons.1 he with rfl | he
   ·exact⟨rfl,rfl⟩
   ·exact h.own e he }
theorem ak.own {l:List Oper} {α:Type} [ah α] (T:TypeId) (k:ak c ops Q l E (⟨none,.row T ([]:List α) 0⟩ :: L)):ak c ops Q l E L:=fun a W st=>k a W (st.Vi T)
theorem pI:bb c E L (.const (.slice none 0 0)) (.eq (aZ none 0 0)):=fun _ _ _=>rfl
theorem tT {key:Option Nat} {n cap:Nat} {e i T:Nat} {α:Type} [ah α] {xs:List α} (hu:c.P.underlying t=some (.slice e)) (an:bb c E L x (.eq (aZ key n cap))) (aO:n=xs.length) (av:L[i]? =some ⟨key,.row T xs cap⟩):b3 c E L ⟨d,.call ⟨.builtin .len,#[x],#[t]⟩,ty,pos,af,g⟩ (.of (n:Int)):= .pure fun a W s=>by
 subst aO
 have J:a.eval x=_:=an a W s
 have bo:=s.own _ (List.mem_of_getElem? av)
 cases key with
 | none=>
   have:xs= []:=bo.1
   subst this
   exact⟨.int .i64 0,by simp [execOp,resolve,invoke,builtin,Builtin.len_,J,aZ,run_underlying hu,goInt],of_int.2 rfl⟩
 | some p=>exact⟨.int .i64 xs.length,by simp [execOp,resolve,invoke,builtin,Builtin.len_,J,aZ,run_underlying hu,goInt],of_int.2 rfl⟩
theorem gi.one {α:Type} [ah α] {A W} {cs:List Value} {xs:List α} (h:gi A W cs xs):∀ u∈cs,u.oneCell'=true:=by
 intro u hu
 obtain⟨j,aF⟩:=List.mem_iff_getElem?.1 hu
 have cv:=(List.getElem?_eq_some_iff.1 aF).1
 have J:=h.1
 by_cases hs:ah.size α=0
 ·rw [hs,Nat.mul_zero] at J; omega
 ·have hp:0 < ah.size α:=Nat.pos_of_ne_zero hs
  have aj:j / ah.size α < _:=(Nat.div_lt_iff_lt_mul hp).2 (by rw [J] at cv; exact cv)
  refine ah.one (h.2 _ aj) u (List.mem_iff_getElem?.2 ⟨j % ah.size α,?_⟩)
  rw [List.getElem?_take,if_pos (Nat.mod_lt _ hp),List.getElem?_drop,Nat.mul_comm,Nat.div_add_mod]
  exact aF
theorem r4 {α:Type} [ah α] {A W} {cs ds:List Value} {xs ys:List α} (h:gi A W cs xs) (cR:gi A W ds ys):gi A W (cs ++ ds) (xs ++ ys):=by
 refine⟨by rw [List.length_append,h.1,cR.1,List.length_append,Nat.add_mul],fun i aj=> ?_⟩
 rw [List.length_append] at aj
 by_cases cv:i < xs.length
 ·have J:=h.2 i cv
  have hle:(i + 1) * ah.size α≤xs.length * ah.size α:=Nat.mul_le_mul_right _ cv
  rw [Nat.succ_mul] at hle
  have jL:=h.1
  rw [List.drop_append_of_le_length (by omega),List.take_append_of_le_length (by simp; omega)]
  rw [List.getElem_append_left cv]
  exact J
 ·have J:=cR.2 (i - xs.length) (by omega)
  have e:i * ah.size α=cs.length + (i - xs.length) * ah.size α:=by
   rw [h.1,← Nat.add_mul]; congr 1; omega
  rw [e,List.drop_append,List.drop_of_length_le (by omega),List.nil_append,show cs.length + (i - xs.length) * ah.size α - cs.length=(i - xs.length) * ah.size α by omega]
  rw [List.getElem_append_right (by omega)]
  exact J
theorem ng.cells {α:Type} [ah α] {A W v} {ys:List α} (h:ng A W v ys):
 (v= .slice none 0 0∧ys= [])∨ ∃ (b off cap:Nat) (news:List Value),v= .slice (some ⟨b,off,none⟩) ys.length cap∧news.length=ys.length * ah.size α∧ (∀ (j:Nat) (u:Value),news[j]? =some u→W.cell? ((⟨b,off,none⟩:Addr).add j)=some u)∧
  (∀ u∈news,u.oneCell'=true)∧gi A W news ys:=by
 rcases h with h | ⟨b,off,cap,cur,T,hl,J,ab,aE,aW,aX,bk,cV⟩
 ·exact .inl h
 ·refine .inr ⟨b,off,cap,_,J,cV.1,fun j u hu=> ?_,fun u hu=> ?_,cV⟩
  ·rw [List.getElem?_take] at hu
   split at hu
   ·rw [jk,cell_of_row W b (off + j) cur T hl aE]
    rw [List.getElem?_drop] at hu
    simpa using hu
   ·cases hu
  ·exact cV.one u hu
theorem bG.grow {a:Act} {W:World} (h:bG c E L a W) {i:Nat} {lS:aN} (aj:L[i]? =some lS) {o:Obj} {cp:dB} (ao:cp.holds (aP L ++ c.b2) W o):
 bG c E (L.set i ⟨some W.heap.size,cp⟩) a (W.alloc o):=by
 have J:=h.alloc ao
 refine J.sub (fun e he=> ?_) ?_
 ·obtain⟨j,aF⟩:=List.mem_iff_getElem?.1 he
  rw [List.getElem?_set] at aF
  split at aF
  ·split at aF
   ·simp only [Option.some.injEq] at aF; subst aF; simp
   ·cases aF
  ·exact List.mem_cons_of_mem _ (List.mem_of_getElem? aF)
 ·have zR:W.heap.size ∉ aP L:=fun hm=>Nat.lt_irrefl _ (h.lt _ hm)
  have key:∀ (L:List aN) (i:Nat) (q:Nat),q ∉ aP L→ (aP L).Nodup→ (aP (L.set i ⟨some q,cp⟩)).Nodup∧ ∀ k∈aP (L.set i ⟨some q,cp⟩),k=q∨k∈aP L:=by
   intro L
   induction L with
   | nil=>intro i q _ aO; exact⟨by simpa using aO,by simp [aP]⟩
   | cons x r bO=>
     intro i q hq aO
     cases an:x.key with
     | none=>
       have gv:q ∉ aP r:=by simpa [aP,an] using hq
       have ph:(aP r).Nodup:=by simpa [aP,an] using aO
       cases i with
       | zero=>exact⟨by simp only [List.set_cons_zero,aP]; exact List.nodup_cons.2 ⟨gv,ph⟩,fun k aq=>by
        simp only [List.set_cons_zero,aP,List.mem_cons] at aq; rcases aq with rfl | aq
        ·exact .inl rfl
        ·exact .inr (by simpa [aP,an] using aq)⟩
       | succ i=>
         obtain⟨J,ab⟩:=bO i q gv ph
         exact⟨by simpa [aP,an] using J,fun k aq=>by have:=ab k (by simpa [aP,an] using aq); simpa [aP,an] using this⟩
     | some p=>
       simp only [aP,an,List.mem_cons,not_or] at hq
       simp only [aP,an] at aO
       obtain⟨hp,ph⟩:=List.nodup_cons.1 aO
       cases i with
       | zero=>exact⟨by simp only [List.set_cons_zero,aP]; exact List.nodup_cons.2 ⟨hq.2,ph⟩,fun k aq=>by
        simp only [List.set_cons_zero,aP,List.mem_cons] at aq; rcases aq with rfl | aq
        ·exact .inl rfl
        ·exact .inr (by simp [aP,an,aq])⟩
       | succ i=>
         obtain⟨J,ab⟩:=bO i q hq.2 ph
         refine⟨?_,fun k aq=> ?_⟩
         ·simp only [List.set_cons_succ,aP,an]
          refine List.nodup_cons.2 ⟨fun hm=> ?_,J⟩
          rcases ab p hm with e | rz
          ·exact hq.1 e.symm
          ·exact hp rz
         ·simp only [List.set_cons_succ,aP,an,List.mem_cons] at aq
          rcases aq with rfl | aq
          ·exact .inr (by simp [aP,an])
          ·rcases ab k aq with e | rz
           ·exact .inl e
           ·exact .inr (by simp [aP,an,rz])
  exact(key L i _ zR h.nodup).1
theorem FT {α:Type} [ah α] {A W} {cs ds:List Value} {xs:List α} {T cap:Nat} (h:gi A W cs xs) (dh:ds.length=(cap - xs.length) * ah.size α) (aO:xs.length≤cap) (hm:cap≤maxLen) {arr:Array Value} (a9:arr.toList=cs ++ ds):
 (dB.row T xs cap).holds A W (.cells arr T (0,0)):=by
 refine⟨arr,rfl,?_,aO,hm,?_⟩
 ·have:arr.size=(cs ++ ds).length:=by rw [← a9]; simp
  rw [this,List.length_append,h.1,dh,← Nat.add_mul]; congr 1; omega
 ·rw [a9,← h.1,List.take_left]; exact h
theorem ak.app {α:Type} [ah α] {rest:List Oper} {bc i e bytes cap:Nat} {key:Option Nat} {xs ys r:List α} {z:α} (hu:c.P.underlying t=some (.slice e)) (ft:bA c.P e α) (gl:cF c.P e z)
 (uU:(c.P.info? e).map (·.bytes)=some bytes) (hs:bb c E L x (.eq (aZ key xs.length cap))) (av:L[i]? =some ⟨key,.row e xs cap⟩) (a4:bb c E L y (.of ys)) (h:fP bytes xs ys=some r) (aO:Nat.blt bc c.n=true)
 (k:∀ o7 cap',ak c ops Q rest ((bc,.eq (aZ o7 r.length cap')) :: E) (L.set i ⟨o7,.row e r cap'⟩)):
 ak c ops Q (⟨some bc,.call ⟨.builtin .append,#[x,y],#[t,t]⟩,ty,pos,af,none⟩ :: rest) E L:=fun a W s=>by
 obtain⟨uP,mA,rfl⟩:=K3 h
 obtain⟨gd,ec,dW,dh,qa⟩:=gl.zero
 have mv:gd.size=ah.size α:=by
  obtain⟨i2,J,ab⟩:=ft.info
  rw [dW] at J; cases J; exact ab
 have Gk:gd.bytes=bytes:=by simpa [dW] using uU
 have uV:ec.cells.size=ah.size α:=by have:=ah.len (qa [] W).2; simpa using this
 subst Gk
 have J:a.eval x=_:=hs a W s
 have bo:=s.own _ (List.mem_of_getElem? av)
 have jC:bc < c.n:=by simpa using aO
 have te:=(mj.1 (a4 a W s)).cells
 have pd:maxLen=9223372036854775807:=rfl
 have main:∃ o7 cap' W',(Builtin.append_ #[t,t] ty #[a.eval x,a.eval y]).run c.P W= .ok (aZ o7 (xs ++ ys).length cap') W'∧bG c E (L.set i ⟨o7,.row e (xs ++ ys) cap'⟩) a W':=by
  cases key with
  | none=>
    obtain⟨Zt,Zu⟩:xs= []∧cap=0:=bo
    subst Zt
    subst Zu
    have wN:L.set i ⟨none,.row e ([]:List α) 0⟩=L:=by
     obtain⟨cv,he⟩:=List.getElem?_eq_some_iff.1 av
     rw [← he]; exact List.set_getElem_self cv
    rcases te with⟨a3,rfl⟩ | ⟨b,off,cp,news,a3,lM,Dc,DM,fy⟩
    ·refine⟨none,0,W,?_,by simpa [wN] using s⟩
     simp [J,a3,aZ,Builtin.append_,run_underlying hu,Go.sizeOf,typeInfo,dW,Builtin.lenOf,Builtin.firstCells]
    ·by_cases hm:ys.length=0
     ·have:ys= []:=List.eq_nil_of_length_eq_zero hm
      subst this
      refine⟨none,0,W,?_,by simpa [wN] using s⟩
      simp [J,a3,aZ,Builtin.append_,run_underlying hu,Go.sizeOf,typeInfo,dW,Builtin.lenOf,Builtin.firstCells,loadCells,loadCellsFrom]
     ·simp only [List.length_nil,Nat.zero_add] at uP mA
      have aQ:=run_append_nil (P:=c.P) W t ty e gd ec hu dW dh ⟨b,off,none⟩ ys.length cp news (by rw [mv]; exact lM) Dc (by omega) (by omega) (by omega)
      refine⟨some W.heap.size,grownCap W ys.length 0 e,_,by rw [J,a3]; simpa [aZ] using aQ,?_⟩
      have Ai:=grownCap_ge W ys.length 0 e
      have hle:=grownCap_le_maxLen W ys.length 0 e mA
      have:=(s.world (Fr.drew W)).grow av (o:= .cells (news.toArray ++ Builtin.zeroCells ec.cells (grownCap W ys.length 0 e - ys.length)) e) (cp:= .row e ([] ++ ys) (grownCap W ys.length 0 e))
       (FT (T:=e) (fy.mono (Ext.dw (Fr.drew W))) (ds:=(Builtin.zeroCells ec.cells (grownCap W ys.length 0 e - ys.length)).toList) (by rw [Array.length_toList,size_zeroCells,uV]) Ai hle (by simp))
      simpa using this
  | some p=>
    obtain⟨jB,eA,cs,rfl,eF,Zv,oD,DN⟩:=bo
    have H7:a.eval x= .slice (some ⟨p,0,none⟩) xs.length cap:=J
    rcases te with⟨a3,rfl⟩ | ⟨b,off,cp,news,a3,lM,Dc,DM,fy⟩
    ·refine⟨some p,cap,W,?_,?_⟩
     ·simp [H7,a3,aZ,Builtin.append_,run_underlying hu,Go.sizeOf,typeInfo,dW,Builtin.lenOf,Builtin.firstCells,storeCells,Zv]
     ·have:L.set i ⟨some p,.row e (xs ++ []) cap⟩=L:=by
       obtain⟨cv,he⟩:=List.getElem?_eq_some_iff.1 av
       rw [List.append_nil,← he]; exact List.set_getElem_self cv
      rw [this]; exact s
    ·by_cases wK:xs.length + ys.length≤cap
     ·have OQ:xs.length * gd.size + news.length≤cs.size:=by rw [mv,lM,eF,← Nat.add_mul]; exact Nat.mul_le_mul_right _ wK
      have aQ:=run_append_room (P:=c.P) W t ty e gd hu dW p xs.length cap cs eA ⟨b,off,none⟩ ys.length cp news (by rw [mv]; exact lM) Dc DM wK OQ
      refine⟨some p,cap,_,by rw [H7,a3]; simpa [aZ] using aQ,?_⟩
      refine s.store av eA ⟨_,rfl,?_,by simpa using wK,oD,?_⟩
      ·simp only [List.size_toArray,List.length_append,List.length_take,List.length_drop,Array.length_toList]; omega
      ·have al:(cs.toList.take (xs.length * gd.size)).length=xs.length * ah.size α:=by rw [mv]; exact DN.1
       have wW:=r4 DN fy
       rw [mv]
       have hlen:(xs ++ ys).length * ah.size α=(cs.toList.take (xs.length * ah.size α) ++ news).length:=by rw [wW.1]
       have P4:((cs.toList.take (xs.length * ah.size α) ++ news ++ cs.toList.drop (xs.length * ah.size α + news.length)).toArray).toList.take ((xs ++ ys).length * ah.size α)=cs.toList.take (xs.length * ah.size α) ++ news:=by
        rw [hlen]; exact List.take_left
       rw [List.append_assoc] at P4
       rw [P4]
       exact wW
     ·have holds:∀ (j:Nat) u,(cs.toList.take (xs.length * ah.size α))[j]? =some u→W.cell? ((⟨p,0,none⟩:Addr).add j)=some u:=by
       intro j u nP
       rw [List.getElem?_take] at nP
       split at nP
       ·rw [jk,Nat.zero_add,cell_of_row W p j cs e (0,0) eA]; simpa using nP
       ·cases nP
      have aQ:=run_append_grow (P:=c.P) W t ty e gd ec hu dW dh ⟨p,0,none⟩ xs.length cap _ (by rw [mv]; exact DN.1) holds ⟨b,off,none⟩ ys.length cp news (by rw [mv]; exact lM) Dc (by omega) (by omega) (growslice_fits (by omega) uP)
      have Ai:=grownCap_ge W (xs.length + ys.length) cap e
      have hle:=grownCap_le_maxLen W (xs.length + ys.length) cap e mA
      refine⟨some W.heap.size,grownCap W (xs.length + ys.length) cap e,_,by rw [H7,a3]; simpa [aZ] using aQ,?_⟩
      have wW:=(r4 DN fy).mono (Ext.dw (Fr.drew W))
      have:=(s.world (Fr.drew W)).grow av (o:= .cells ((cs.toList.take (xs.length * ah.size α)).toArray ++ news.toArray ++ Builtin.zeroCells ec.cells (grownCap W (xs.length + ys.length) cap e - (xs.length + ys.length))) e)
       (cp:= .row e (xs ++ ys) (grownCap W (xs.length + ys.length) cap e))
       (FT (T:=e) wW (ds:=(Builtin.zeroCells ec.cells (grownCap W (xs.length + ys.length) cap e - (xs.length + ys.length))).toList) (by rw [Array.length_toList,size_zeroCells,uV,List.length_append]) (by rw [List.length_append]; exact Ai) hle (by simp))
      simpa using this
 obtain⟨o7,cap',W',kK,kQ⟩:=main
 refine ib rfl (R:=fun v hD=>v=aZ o7 (xs ++ ys).length cap'∧hD=W') (.mo ?_ ⟨rfl,rfl⟩) fun v hD ⟨a3,hw⟩=> ?_
 ·simp only [execOp,resolve,invoke,builtin,Sem.run_bind,Sem.run_pure,Result.andThen_ok]
  have ay:(#[x,y]:Array Operand).map a.eval= #[a.eval x,a.eval y]:=by simp
  rw [ay,kK]
  rfl
 ·subst a3
  subst hw
  exact k o7 cap' _ _ (kQ.put jC rfl)
inductive mT (c:c8) (E:List (Nat × I)) (L:List aN) {α:Type} [ah α]:List α→List (Nat × Operand)→List α→Prop
 | nil {b} :mT c E L b [] b
 | cons {b b':List α} {v:α} {i:Nat} {x:Operand} {r:List (Nat × Operand)} :i < b.length→bb c E L x (.of v)→mT c E L (b.set i v) r b'→mT c E L b ((i,x) :: r) b'
theorem mT.run {α:Type} [ah α] {b b':List α} {bs:List (Nat × Operand)} (h:mT c E L b bs b'):∀ a W,bG c E L a W→ ∀ cs:Array Value,gi (aP L ++ c.b2) W cs.toList b→
 ∃ dK,Instr.fill (fun i=>some (i * ah.size α,ah.size α)) cs (bs.map fun(i,x)=>(i,a.eval x))=some dK∧gi (aP L ++ c.b2) W dK.toList b'∧b'.length=b.length:=by
 induction h with
 | nil=>intro a W s cs aQ; exact⟨cs,rfl,aQ,rfl⟩
 | @cons b b' v i x r aj ab _ bO=>
   intro a W s cs aQ
   have a3:=ab a W s
   have eF:(a.eval x).cells.size=ah.size α:=by have:=ah.len a3.2; simpa using this
   have al:=aQ.1
   have hle:(i + 1) * ah.size α≤b.length * ah.size α:=Nat.mul_le_mul_right _ aj
   rw [Nat.succ_mul] at hle
   rw [List.map_cons,Cl rfl eF (by simp at al; omega)]
   obtain⟨dK,aE,aW,aX⟩:=bO a W s (fK cs.toList (i * ah.size α) (a.eval x).cells.toList).toArray (by
    have:=Fo aQ aj a3.2
    simpa [fK,ah.len a3.2] using this)
   exact⟨dK,aE,aW,by rw [aX,List.length_set]⟩
theorem yF {α:Type} [ah α] {A W} {z:α} {ec:Value} (h:(I.of z).holds A W ec) (n:Nat) (hs:ah.size α≠0):gi A W ((Array.range (n * ah.size α)).map (ec.cells[· % ec.cells.size]!)).toList (List.replicate n z):=by
 have al:ec.cells.size=ah.size α:=by have:=ah.len h.2; simpa using this
 have hp:0 < ah.size α:=Nat.pos_of_ne_zero hs
 refine⟨by simp,fun i aj=> ?_⟩
 have hZ:i < n:=by simpa using aj
 have hle:(i + 1) * ah.size α≤n * ah.size α:=Nat.mul_le_mul_right _ hZ
 rw [Nat.succ_mul] at hle
 have:((((Array.range (n * ah.size α)).map (ec.cells[· % ec.cells.size]!)).toList.drop (i * ah.size α)).take (ah.size α))=ec.cells.toList:=by
  apply List.ext_getElem?
  intro j
  rw [List.getElem?_take]
  split
  ·rename_i aF
   rw [List.getElem?_drop]
   have cv:i * ah.size α + j < n * ah.size α:=by omega
   have zV:(i * ah.size α + j) % ah.size α=j:=by rw [Nat.mul_comm,Nat.mul_add_mod]; exact Nat.mod_eq_of_lt aF
   simp only [Array.getElem?_toList,Array.getElem?_map,Array.getElem?_range,cv,if_true,Option.map_some,al,zV]
   rw [getElem!_pos ec.cells j (by omega)]
   simp [al,aF]
  ·rename_i aF
   symm
   simp only [Array.getElem?_toList]
   exact Array.getElem?_eq_none (by omega)
 rw [this]
 simpa using h.2
theorem jU {α:Type} [ah α] {e n:Nat} {z:α} {r:List α} {bs:List (Nat × Operand)} (hu:c.P.underlying t=some (.slice e)) (ft:bA c.P e α) (gl:cF c.P e z) (hs:Nat.beq (ah.size α) 0=false) (aO:Nat.ble (n * ah.size α) 16777216=true)
 (a7:mT c E L (List.replicate n z) bs r):b3 c E L ⟨d,.buildSlice t n bs.toArray,ty,pos,af,g⟩ (.of r):=fun a W s=>by
 obtain⟨gd,ec,dW,dh,qa⟩:=gl.zero
 have mv:gd.size=ah.size α:=by
  obtain⟨i2,J,ab⟩:=ft.info
  rw [dW] at J; cases J; exact ab
 have fe:ah.size α≠0:=fun h=>by rw [h] at hs; cases hs
 have pj:=yF (qa (aP L ++ c.b2) W) n fe
 obtain⟨dK,aE,aW,aX⟩:=a7.run a W s _ pj
 have hlen:r.length=n:=by rw [aX]; simp
 have hm:(bs.toArray.map fun(x:Nat × Operand)=>(x.1,a.eval x.2)).toList=bs.map fun(i,x)=>(i,a.eval x):=by simp
 have YN:=Nat.le_of_ble_eq_true aO
 refine .mo (v:= .slice (some ⟨W.heap.size,0,none⟩) n n) (W':=W.alloc (.cells dK e)) ?_ ⟨Fr.alloc W _,mj.2 ?_⟩
 ·simp only [execOp,Instr.buildSlice,Sem.run_bind,run_underlying hu,Result.andThen_ok,Go.sizeOf,typeInfo,run_program,dW,Sem.run_pure,mv]
  rw [if_neg (by omega)]
  try simp only [Sem.run_pure,Result.andThen_ok,Sem.run_bind]
  by_cases bP:n * ah.size α=0
  ·have s4:n=0:=by
    rcases Nat.mul_eq_zero.1 bP with h | h
    ·exact h
    ·exact absurd h fe
   subst s4
   simp only [Nat.zero_mul,if_true,Sem.run_pure,Result.andThen_ok]
   try simp only [Nat.zero_mul] at aE
   have lS:((Array.range 0).map (fun x=>(#[]:Array Value)[x % (#[]:Array Value).size]!))=((Array.range 0).map (ec.cells[· % ec.cells.size]!)):=by simp
   simp only [pure_bind]
   rw [lS,hm,aE]
   simp [newRow]
  ·simp only [bP,if_false,Sem.run_bind,zeroValue,typeInfo,run_program,Result.andThen_ok,dW,dh,Sem.run_pure]
   rw [hm,aE]
   simp [newRow]
 ·have gZ:Ext (aP L ++ c.b2) W (aP L ++ c.b2) (W.alloc (.cells dK e)):=Ext.dw (Fr.alloc W _)
  refine .inr ⟨W.heap.size,0,n,dK,e,(0,0),by rw [hlen],fun wX=>Nat.lt_irrefl _ (s.CK _ wX),MR W _,by omega,?_,?_,?_⟩
  ·have:r.length * 1≤n * ah.size α:=by rw [hlen]; exact Nat.mul_le_mul_left _ (by omega)
   have:maxLen=9223372036854775807:=rfl
   omega
  ·have:=aW.1; simp at this; omega
  ·have bk:=aW.1
   rw [List.drop_zero,← bk,List.take_length]
   exact aW.mono gZ
end
end Gv
namespace Gv
open Go
set_option linter.unusedVariables false
set_option linter.unusedSimpArgs false
theorem Cy {cs:List Value} {o s:Nat} {u:Value} (h:u∈cs.drop o):u∈ (cs.drop o).take s∨u∈cs.drop (o + s):=by
 rw [← List.take_append_drop s (cs.drop o)] at h
 rcases List.mem_append.1 h with h | h
 ·exact .inl h
 ·rw [List.drop_drop] at h; exact .inr h
theorem L7 {cs:List Value} {n o:Nat} {u:Value} {p:Prop} (al:cs.length=n) (bo:o=n) (h:u∈cs.drop o):p:=by
 rw [List.drop_of_length_le (by omega)] at h; cases h
theorem Vj {cs ds:List Value} {o s n:Nat} (al:cs.length=n) (hd:ds.length=s) (h:o + s≤n):(cs.take o ++ ds ++ cs.drop (o + s)).length=n:=by
 simp only [List.length_append,List.length_take,List.length_drop]; omega
theorem L8 {cs ds:List Value} {o s n:Nat} (al:cs.length=n) (hd:ds.length=s) (h:o + s≤n):((cs.take o ++ ds ++ cs.drop (o + s)).drop o).take s=ds:=by
 have J:(cs.take o).length=o:=by simp; omega
 rw [List.append_assoc,List.drop_append,J,List.drop_of_length_le (by omega),List.nil_append,Nat.sub_self,List.drop_zero,List.take_append_of_le_length (by omega),List.take_of_length_le (by omega)]
theorem Fp {cs ds:List Value} {o s n cT s2:Nat} (al:cs.length=n) (hd:ds.length=s) (h:o + s≤n) (dk:cT + s2≤o∨o + s≤cT):((cs.take o ++ ds ++ cs.drop (o + s)).drop cT).take s2=(cs.drop cT).take s2:=by
 apply List.ext_getElem?
 intro i
 simp only [List.getElem?_take,List.getElem?_drop]
 split
 ·rename_i aj
  simp only [List.getElem?_append,List.length_append,List.length_take,List.getElem?_take,List.getElem?_drop]
  have J:min o cs.length=o:=by omega
  rw [J,hd]
  rcases dk with ab | ab
  ·rw [if_pos (by omega),if_pos (by omega),if_pos (by omega)]
  ·rw [if_neg (by omega)]; congr 1; omega
 ·rfl
structure s5 (P:Type) where
 size:Nat
 rep:List Nat→World→List Value→Nat→P→Prop
 one:∀ {A W cs o x n},rep A W cs o x→cs.length=n→o + size=n→ ∀ u∈cs.drop o,u.oneCell'=true
 mono:∀ {A W c0 W' cs o x},Ext A W c0 W'→rep A W cs o x→rep c0 W' cs o x
 q1:∀ {A W cs o x n ds p s},rep A W cs o x→cs.length=n→ds.length=s→p + s≤n→p + s≤o→rep A W (cs.take p ++ ds ++ cs.drop (p + s)) o x
@[reducible] def hK (B:Type) [ah B]:s5 B where
  size:=ah.size B
  rep A W cs o x:=ah.rep A W ((cs.drop o).take (ah.size B)) x
  one h al bo u hu:=by
   rcases Cy (s:=ah.size B) hu with J | bP
   ·exact ah.one h u J
   ·exact L7 al bo bP
  mono e h:=ah.mono e h
  q1 h al hd aO hp:=by rw [Fp al hd aO (.inr hp)]; exact h
@[reducible] def dp (B:Type) [ah B] {P:Type} (S:s5 P):s5 (B × P) where
  size:=ah.size B + S.size
  rep A W cs o x:=ah.rep A W ((cs.drop o).take (ah.size B)) x.1∧S.rep A W cs (o + ah.size B) x.2
  one h al bo u hu:=by
   rcases Cy (s:=ah.size B) hu with J | bP
   ·exact ah.one h.1 u J
   ·exact S.one h.2 al (by omega) u bP
  mono e h:=⟨ah.mono e h.1,S.mono e h.2⟩
  q1 h al hd aO hp:=⟨by rw [Fp al hd aO (.inr hp)]; exact h.1,S.q1 h.2 al hd aO (by omega)⟩
@[reducible] def ah.str {T P:Type} (S:s5 P) (to:T→P) (N:Nat) (jC:S.size=N:=by rfl):ah T where
  size:=N
  agg:=true
  rep A W cs x:=cs.length=N∧S.rep A W cs 0 (to x)
  len h:=h.1
  one h:=fun u hu=>S.one h.2 h.1 (by omega) u (by simpa using hu)
  flat h:=by cases h
  mono e h:=⟨h.1,S.mono e h.2⟩
structure Aj {P:Type} (S:s5 P) (G:Type) [ah G] where
 off:Nat
 get:P→G
 set:P→G→P
 fR:off + ah.size G≤S.size
 h0:∀ {A W cs o b},S.rep A W cs o b→ah.rep A W ((cs.drop (o + off)).take (ah.size G)) (get b)
 kG:∀ {A W cs n o b ds g},cs.length=n→o + S.size≤n→S.rep A W cs o b→ah.rep A W ds g→S.rep A W (cs.take (o + off) ++ ds ++ cs.drop (o + off + ah.size G)) o (set b g)
def h5 {B:Type} [ah B]:Aj (hK B) B where
 off:=0
 get b:=b
 set _ g:=g
 fR:=by show 0 + ah.size B≤ah.size B; omega
 h0 h:=h
 kG al bo _ bZ:=by
  have h:=L8 al (ah.len bZ) bo
  show ah.rep _ _ ((List.drop _ _).take _) _
  rw [Nat.add_zero,h]; exact bZ
def dx {B:Type} [ah B] {P:Type} {S:s5 P} :Aj (dp B S) B where
 off:=0
 get b:=b.1
 set b g:=(g,b.2)
 fR:=by show 0 + ah.size B≤ah.size B + S.size; omega
 h0 h:=h.1
 kG {A W cs n o b ds g} al bo h bZ:=by
  have bo:o + (ah.size B + S.size)≤n:=bo
  refine⟨?_,S.q1 h.2 al (ah.len bZ) (by omega) (by omega)⟩
  rw [Nat.add_zero,L8 al (ah.len bZ) (by omega)]; exact bZ
def bD {B:Type} [ah B] {P:Type} {S:s5 P} {G:Type} [ah G] (l:Aj S G):Aj (dp B S) G where
 off:=ah.size B + l.off
 get b:=l.get b.2
 set b g:=(b.1,l.set b.2 g)
 fR:=by have:=l.fR; show ah.size B + l.off + ah.size G≤ah.size B + S.size; omega
 h0 h:=by rw [← Nat.add_assoc]; exact l.h0 h.2
 kG {A W cs n o b ds g} al bo h bZ:=by
  have bo:o + (ah.size B + S.size)≤n:=bo
  have aj:=l.fR
  have ab:=l.kG al (by omega) h.2 bZ
  rw [Nat.add_assoc o] at ab
  exact⟨by rw [Fp al (ah.len bZ) (by omega) (.inl (by omega))]; exact h.1,ab⟩
def aI.str {T P G:Type} [ah G] {S:s5 P} {to:T→P} {N:Nat} (l:Aj S G) (off:Nat) (get:T→G) (set:T→G→T) (jC:S.size=N:=by rfl) (bo:l.off=off:=by rfl) (J:∀ b,l.get (to b)=get b:=by intro b; rfl) (ab:∀ b g,l.set (to b) g=to (set b g):=by intro b g; rfl): @aI T G (ah.str S to N jC) _:=
 @aI.mk T G (ah.str S to N jC) _ off get set (by have:=l.fR; show off + ah.size G≤N; omega)
  (fun {A W cs b} h=>by have:=l.h0 h.2; rw [Nat.zero_add,bo,J] at this; exact this)
  (fun {A W cs b ds g} h bZ=>by
   have aE:=l.kG h.1 (by omega) h.2 bZ
   rw [Nat.zero_add,bo,ab] at aE
   have aW:=l.fR
   exact⟨Vj h.1 (ah.len bZ) (by omega),aE⟩)
class ba (α:Type) [ah α] [Inhabited α] where
 cells:List Value
 ok:∀ A W,ah.rep A W cells (default:α)
instance:ba Bool:=⟨[.bool false],fun _ _=>rfl⟩
instance:ba Int:=⟨[.int .i64 0],fun _ _=>rfl⟩
instance:ba (BitVec 64):=⟨[.int .u64 0],fun _ _=>rfl⟩
instance:ba (BitVec 32):=⟨[.int .u32 0],fun _ _=>rfl⟩
instance:ba (BitVec 16):=⟨[.int .u16 0],fun _ _=>rfl⟩
instance:ba (BitVec 8):=⟨[.int .u8 0],fun _ _=>rfl⟩
instance:ba ByteArray:=⟨[.string ByteArray.empty],fun _ _=>rfl⟩
instance {α:Type} [ah α]:ba (List α):=⟨[.slice none 0 0],fun _ _=>⟨_,rfl,.inl ⟨rfl,rfl⟩⟩⟩
theorem Ln {α:Type} [ah α] {A W} {Jd:List Value} {z:α} (h:ah.rep A W Jd z):∀ n,gi A W (List.replicate n Jd).flatten (List.replicate n z)
 | 0=>⟨by simp,fun i aj=>by simp at aj⟩
 | n + 1=>by
   have J:=Ln h n
   have ab:gi A W Jd [z]:=⟨by simp [ah.len h],fun i aj=>by
    have:i=0:=by simpa using aj
    subst this
    rw [Nat.zero_mul,List.drop_zero,← ah.len h,List.take_length]; exact h⟩
   have:=r4 ab J
   simpa [List.replicate_succ] using this
instance {α:Type} [ah α] [Inhabited α] [ba α] {n:Nat} :ba (Vector α n):=⟨(List.replicate n (ba.cells α)).flatten,fun A W=>by
 have:=Ln (ba.ok (α:=α) A W) n
 show gi A W _ (Vector.replicate n default).toList
 simpa using this⟩
def Hz (α:Type) [ah α] [Inhabited α] [ba α]:Value:=if ah.agg α=true then .agg (ba.cells α).toArray else(ba.cells α).headD undef
theorem cF.of {P:Program} {t:TypeId} {α:Type} [ah α] [Inhabited α] [ba α] (h:(P.info? t).bind (·.zero)=some (Hz α)):cF P t (default:α) where
 zero:=by
  cases aj:P.info? t with
  | none=>simp [aj] at h
  | some i=>
    refine⟨i,Hz α,rfl,by simpa [aj] using h,fun A W=> ?_⟩
    have ok:=ba.ok (α:=α) A W
    unfold Hz
    cases a9:ah.agg α with
    | true=>simp only [if_true]; exact⟨by simp [shaped,a9],by simpa [Value.cells] using ok⟩
    | false=>
      have J:=ah.len ok
      rw [ah.flat a9] at J
      obtain⟨v,a3⟩:=List.length_eq_one_iff.1 J
      have aE:v.oneCell'=true:=ah.one ok v (by rw [a3]; simp)
      simp only [Bool.false_eq_true,if_false,a3,List.headD_cons]
      exact⟨by simp [shaped,a9,aE],by rw [n6 aE]; rw [a3] at ok; exact ok⟩
theorem bA.of {P:Program} {t:TypeId} {α:Type} [ah α] {d:TypeDesc} (a9:(match d with | .struct _ | .array _ _=>true | _=>false)=ah.agg α) (hu:P.underlying t=some d) (hs:(P.info? t).map (·.size)=some (ah.size α)):bA P t α:=⟨hs,d,hu,a9⟩
theorem cl.of {P:Program} {s f o:Nat} {fs:Array Field} {fd:Field} {γ:Type} [ah γ] (hu:P.underlying s=some (.struct fs)) (a7:fs[f]? =some fd) (bo:fd.offset=o) (en:bA P fd.type γ) (hs:Nat.beq (ah.size γ) 0=false):cl P s f o:=by
 obtain⟨i,J,ab⟩:=en.info
 exact⟨fs,fd,i,hu,a7,bo,J,fun h=>by rw [← ab,h] at hs; cases hs⟩
theorem mG.of {P:Program} {t n e s:Nat} {γ:Type} [ah γ] (hu:P.underlying t=some (.array n e)) (en:bA P e γ) (hs:ah.size γ=s):mG P t n s:=by
 obtain⟨i,J,ab⟩:=en.info
 exact⟨e,i,hu,J,by rw [ab,hs]⟩
theorem bind_some {α β:Type} {m:Option α} {f:α→Option β} {r:β} (h:m.bind f=some r):∃ y,m=some y∧f y=some r:=Option.bind_eq_some_iff.1 h
theorem gK {α:Type} {b:Bool} {p q:Option α} {r:α} (hb:b=true) (h:cond b p q=some r):p=some r:=by rw [hb] at h; exact h
theorem gL {α:Type} {b:Bool} {p q:Option α} {r:α} (hb:b=false) (h:cond b p q=some r):q=some r:=by rw [hb] at h; exact h
theorem aG {α:Type} {a b:α} (h:some a=some b):a=b:=Option.some.inj h
def cX {α:Type} [Inhabited α] (b want:Bool) (m:Option α):Option α:=if b=want then m else some default
theorem fE {α:Type} [Inhabited α] {b want:Bool} {m:Option α} {y:α} (h:cX b want m=some y) (hb:b=want):m=some y:=by unfold cX at h; rw [if_pos hb] at h; exact h
def da:Nat:=2 ^ 80
theorem bG.ox {c E L a W} (h:bG c E L a W) (n:Nat):bG c E (L.drop n) a W:=
 h.sub (fun e he=>List.mem_of_mem_drop he) (by
   have:(aP (L.drop n)).Sublist (aP L):=by
    induction L generalizing n with
    | nil=>simp
    | cons x r bO=>
      cases n with
      | zero=>simp
      | succ n=>
        have aQ:∀ n,(aP (r.drop n)).Sublist (aP r):=by
         intro n
         have key:∀ (r:List aN) n,(aP (r.drop n)).Sublist (aP r):=by
          intro r
          induction r with
          | nil=>intro n; simp
          | cons y r Pl=>
            intro n
            cases n with
            | zero=>simp
            | succ n=>
              simp only [List.drop_succ_cons]
              cases aq:y.key with
              | none=>simpa [aP,aq] using Pl n
              | some p=>simp only [aP,aq]; exact(Pl n).cons _
         exact key r n
        simp only [List.drop_succ_cons]
        cases aq:x.key with
        | none=>simpa [aP,aq] using aQ n
        | some p=>simp only [aP,aq]; exact(aQ n).cons _
   exact h.nodup.sublist this)
section
variable {c:c8} {E:List (Nat × I)} {L:List aN} {ops:Array Oper} {Q:Exit→Act→World→Prop}
theorem ag.cX {γ:Type} {x:Operand} {b:Bool} {y z:Code} (E':γ→List (Nat × I)) (aC:γ→List aN) (al:bb c E L x (.of b)) (th:∀ g,ae c Q .normal (E' g) (aC g))
 (cc:(∀ g,ae c Q .normal (E' g) (aC g))→b=true→ag c Q y E L) (a7:(∀ g,ae c Q .normal (E' g) (aC g))→b=false→ag c Q z E L):ag c Q (.cond x y z) E L:=
 ag.cond al (cc th) (a7 th)
theorem ae.meet {x:Exit} {E':List (Nat × I)} {aC:List aN} (n:Nat) (av:L.drop n=aC) (h:hn E E') (k:ae c Q x E' aC):ae c Q x E L:=fun a W s=>k a W (by rw [← av]; exact(s.ox n).less h.look)
def w9 {σ ε γ δ:Type} (c:c8) (E:σ→γ→List (Nat × I)) (L:σ→γ→List aN) (xs:ε→Exit) (fF:ε→δ→List (Nat × I)) (Lx:ε→δ→List aN):σ ⊕ ε→Exit→Act→World→Prop
 | .inl s,x,a,W=>x= .normal∧ ∃ g,bG c (E s g) (L s g) a W
 | .inr e,x,a,W=>x≠ .normal∧x=xs e∧ ∃ g,bG c (fF e g) (Lx e g) a W
theorem ae.Vk {σ ε γ δ:Type} {E':σ→γ→List (Nat × I)} {aC:σ→γ→List aN} {xs:ε→Exit} {fF:ε→δ→List (Nat × I)} {Lx:ε→δ→List aN} {s:σ} (g:γ) (n:Nat)
 (av:L.drop n=aC s g) (h:hn E (E' s g)):ae c (w9 c E' aC xs fF Lx (.inl s)) .normal E L:=fun a W st=>⟨rfl,g,by rw [← av]; exact(st.ox n).less h.look⟩
theorem ae.Vl {σ ε γ δ:Type} {E':σ→γ→List (Nat × I)} {aC:σ→γ→List aN} {xs:ε→Exit} {fF:ε→δ→List (Nat × I)} {Lx:ε→δ→List aN} {e:ε} {x:Exit} (g:δ) (n:Nat)
 (an:x=xs e) (aO:x≠ .normal) (av:L.drop n=Lx e g) (h:hn E (fF e g)):ae c (w9 c E' aC xs fF Lx (.inr e)) x E L:=fun a W st=>⟨aO,an,g,by rw [← av]; exact(st.ox n).less h.look⟩
theorem ag.zp {σ ε γ δ:Type} {body:Code} {N:Nat} {b:σ→Option (σ ⊕ ε)} {cf:σ} {e:ε} (al:dn N b cf=some e)
 (E':σ→γ→List (Nat × I)) (aC:σ→γ→List aN) (xs:ε→Exit) (fF:ε→δ→List (Nat × I)) (Lx:ε→δ→List aN) (g0:γ) (av:L=aC cf g0) (aL:hn E (E' cf g0))
 (qZ:∀ s r,b s=some r→ ∀ g,ag c (w9 c E' aC xs fF Lx r) body (E' s g) (aC s g))
 (nw:∀ g,ae c Q (xs e) (fF e g) (Lx e g)):ag c Q (.loop body) E L:=fun a W st=>by
 subst av
 exact K0 b (fun s a W=> ∃ g,bG c (E' s g) (aC s g) a W) (fun e x a W=>x=xs e∧ ∃ g,bG c (fF e g) (Lx e g) a W)
  (fun s r hs a W ⟨g,ky⟩=>wpIn_mono (qZ s r hs g a W ky) (fun x a W h=>by
   cases r with
   | inl b8=>exact h
   | inr e'=>exact⟨h.1,h.2⟩)) Q e (fun x a W ⟨an,g,hs⟩=>by subst an; exact nw g a W hs) al ⟨g0,st.less aL.look⟩
end
end Gv
namespace Gv
open Go
set_option linter.unusedVariables false
set_option linter.unusedSimpArgs false
theorem b3.as {c E L o} {α:Type} [ah α] {a b:α} (h:b3 c E L o (.of a)) (e:a=b):b3 c E L o (.of b):=by subst e; exact h
def I.o9 {α β:Type} [ah α] [ah β] (P:Program) (F:α→Option β):I where
 holds A W v:= ∃ f fst cap,v= .func (.func f) fst cap∧bH P f∧ ∀ c0 W',Ext A W c0 W'→ (∀ k∈c0,k < W'.heap.size)→ ∀ x r nW,F x=some r→ (I.of x).holds c0 W' nW→
  Calls P f (fst ++ #[nW] ++ cap) W' fun e Ak=> ∃ v,e= .returned v∧Fr [] W' Ak∧ (I.of r).holds c0 Ak v
 mono e h:=let⟨f,fst,cap,J,ab,aE⟩:=h; ⟨f,fst,cap,J,ab,fun c0 W' e'=>aE c0 W' (e.trans e')⟩
def I.rk {α β γ:Type} [ah α] [ah β] [ah γ] (P:Program) (F:α→β→Option γ):I where
 holds A W v:= ∃ f fst cap,v= .func (.func f) fst cap∧bH P f∧ ∀ c0 W',Ext A W c0 W'→ (∀ k∈c0,k < W'.heap.size)→ ∀ x y r nW xj,F x y=some r→ (I.of x).holds c0 W' nW→ (I.of y).holds c0 W' xj→
  Calls P f (fst ++ #[nW,xj] ++ cap) W' fun e Ak=> ∃ v,e= .returned v∧Fr [] W' Ak∧ (I.of r).holds c0 Ak v
 mono e h:=let⟨f,fst,cap,J,ab,aE⟩:=h; ⟨f,fst,cap,J,ab,fun c0 W' e'=>aE c0 W' (e.trans e')⟩
section
variable {c:c8} {E:List (Nat × I)} {L:List aN} {d:Option Tmp} {ty:TypeId} {pos:String} {af:Array Edge} {g:Option (Nat × Bool)}
theorem Lk {α β:Type} [ah α] [ah β] {F:α→Option β} {f:FuncId} (eo:bH c.P f) (h:∀ x r,F x=some r→bn c.P f [.of x] (.of r)):bb c E L (.func f) (.o9 c.P F):=fun a W s=>
 ⟨f,#[],#[],rfl,eo,fun c0 W' _ fL x r nW nX an=>by simpa using h x r nX c0 W' [nW] fL (.cons an .nil)⟩
theorem v5 {α β γ:Type} [ah α] [ah β] [ah γ] {F:α→β→Option γ} {f:FuncId} (eo:bH c.P f) (h:∀ x y r,F x y=some r→bn c.P f [.of x,.of y] (.of r)):bb c E L (.func f) (.rk c.P F):=fun a W s=>
 ⟨f,#[],#[],rfl,eo,fun c0 W' _ fL x y r nW xj nX an a4=>by simpa using h x y r nX c0 W' [nW,xj] fL (.cons an (.cons a4 .nil))⟩
theorem v3 {α β:Type} [ah α] [ah β] {F:α→Option β} {pw x:Operand} {ats:Array TypeId} {AX:α} {r:β} (a7:bb c E L pw (.o9 c.P F)) (an:bb c E L x (.of AX)) (h:F AX=some r):
 b3 c E L ⟨d,.call ⟨.value pw,#[x],ats⟩,ty,pos,af,g⟩ (.of r):=fun a W s=>by
 obtain⟨f,fst,cap,J,eo,ab⟩:=a7 a W s
 refine .tH (f:=f) (args:=fst ++ #[a.eval x] ++ cap) (W':=W) ?_ (ab _ W (Ext.refl _ _) s.CK _ _ _ h (an a W s))
 simp [execOp,resolve,Deferred.ofValue,J,invoke,eo.run]
theorem Cj {α β γ:Type} [ah α] [ah β] [ah γ] {F:α→β→Option γ} {pw x y:Operand} {ats:Array TypeId} {AX:α} {P5:β} {r:γ} (a7:bb c E L pw (.rk c.P F)) (an:bb c E L x (.of AX)) (a4:bb c E L y (.of P5)) (h:F AX P5=some r):
 b3 c E L ⟨d,.call ⟨.value pw,#[x,y],ats⟩,ty,pos,af,g⟩ (.of r):=fun a W s=>by
 obtain⟨f,fst,cap,J,eo,ab⟩:=a7 a W s
 refine .tH (f:=f) (args:=fst ++ #[a.eval x,a.eval y] ++ cap) (W':=W) ?_ (ab _ W (Ext.refl _ _) s.CK _ _ _ _ _ h (an a W s) (a4 a W s))
 simp [execOp,resolve,Deferred.ofValue,J,invoke,eo.run]
end
end Gv
namespace Gv
open Go Go.ChangeShapes Go.WideShapes Go.RowKit
set_option linter.unusedVariables false
structure Arg (P:Program) (t:TypeId) (α:Type) [ah α]:Prop where
 cells:P.cellsOf t=ah.size α
 read:∀ {H:Type} {enc:TypeId × Value→H} {W:World} {n:Nat} {cs:List Value} {x:DataW H × List MemPlace},DataW.trod enc P W 0 (fun _=>true) true n t cs=some x→ ∃ a:α,ah.rep [] W cs a
 form:∀ {W:World} {b:Nat} {v:Value},Value.okWide P W .any b t v→shaped (ah.agg α) v
variable {P:Program} {t e:TypeId}
theorem Ta (hu:P.underlying t=some .bool) {H:Type} {enc:TypeId × Value→H} {W:World} {n:Nat} {cs:List Value} {x:DataW H × List MemPlace} (h:DataW.trod enc P W 0 (fun _=>true) true n t cs=some x):
 ∃ b:Bool,cs= [.bool b]:=by
 cases n with
 | zero=>simp [DataW.trod] at h
 | succ n=>
   unfold DataW.trod at h
   rw [hu] at h
   split at h <;> first | exact⟨_,rfl⟩ | (simp at h)
   all_goals simp_all
theorem Arg.bool (hu:P.underlying t=some .bool) (ao:P.cellsOf t=1):Arg P t Bool where
 cells:=ao
 read {H enc W n cs x} h:=by
  obtain⟨b,rfl⟩:=Ta hu h
  exact⟨b,rfl⟩
 form {W b v} h:=by
  unfold Value.okWide Cell.okWide at h
  simp only [hu] at h
  unfold Cell.ok at h
  rw [hu] at h
  cases v <;> first | rfl | simp at h
theorem yL {k:IntKind} (hu:P.underlying t=some (.int k)) {H:Type} {enc:TypeId × Value→H} {W:World} {n:Nat} {cs:List Value} {x:DataW H × List MemPlace} (h:DataW.trod enc P W 0 (fun _=>true) true n t cs=some x):
 ∃ z:Int,cs= [.int k z]∧k.min≤z∧z≤k.max:=by
 cases n with
 | zero=>simp [DataW.trod] at h
 | succ n=>
   unfold DataW.trod at h
   rw [hu] at h
   split at h <;> simp_all [Lit.wf]
theorem yM {k:IntKind} (hu:P.underlying t=some (.int k)) {W:World} {b:Nat} {v:Value} (h:Value.okWide P W .any b t v):v.oneCell'=true:=by
 unfold Value.okWide Cell.okWide at h
 simp only [hu] at h
 unfold Cell.ok at h
 rw [hu] at h
 cases v <;> first | rfl | simp at h
theorem Arg.int (hu:P.underlying t=some (.int .i64)) (ao:P.cellsOf t=1):Arg P t Int where
 cells:=ao
 read h:=by obtain⟨z,rfl,_⟩:=yL hu h; exact⟨z,rfl⟩
 form h:=yM hu h
theorem Arg.u64 (hu:P.underlying t=some (.int .u64)) (ao:P.cellsOf t=1):Arg P t (BitVec 64) where
 cells:=ao
 read h:=by
  obtain⟨z,rfl,J,ab⟩:=yL hu h
  simp [IntKind.min,IntKind.max,IntKind.signed,IntKind.bits] at J ab
  exact⟨BitVec.ofInt 64 z,by show [_]= [_]; simp; omega⟩
 form h:=yM hu h
theorem Arg.u32 (hu:P.underlying t=some (.int .u32)) (ao:P.cellsOf t=1):Arg P t (BitVec 32) where
 cells:=ao
 read h:=by
  obtain⟨z,rfl,J,ab⟩:=yL hu h
  simp [IntKind.min,IntKind.max,IntKind.signed,IntKind.bits] at J ab
  exact⟨BitVec.ofInt 32 z,by show [_]= [_]; simp; omega⟩
 form h:=yM hu h
theorem Arg.u16 (hu:P.underlying t=some (.int .u16)) (ao:P.cellsOf t=1):Arg P t (BitVec 16) where
 cells:=ao
 read h:=by
  obtain⟨z,rfl,J,ab⟩:=yL hu h
  simp [IntKind.min,IntKind.max,IntKind.signed,IntKind.bits] at J ab
  exact⟨BitVec.ofInt 16 z,by show [_]= [_]; simp; omega⟩
 form h:=yM hu h
theorem Arg.u8 (hu:P.underlying t=some (.int .u8)) (ao:P.cellsOf t=1):Arg P t (BitVec 8) where
 cells:=ao
 read h:=by
  obtain⟨z,rfl,J,ab⟩:=yL hu h
  simp [IntKind.min,IntKind.max,IntKind.signed,IntKind.bits] at J ab
  exact⟨BitVec.ofInt 8 z,by show [_]= [_]; simp; omega⟩
 form h:=yM hu h
theorem TI (hs:(∃ fs,P.underlying t=some (.struct fs))∨ (∃ n e,P.underlying t=some (.array n e))) {W:World} {b:Nat} {v:Value} (h:Value.okWide P W .any b t v):shaped true v:=by
 unfold Value.okWide at h
 rcases hs with⟨fs,hu⟩ | ⟨n,e,hu⟩ <;> rw [hu] at h <;> exact⟨h.choose,h.choose_spec.1⟩
theorem Arg.arr {α:Type} [ah α] [Inhabited α] {n:Nat} (hu:P.underlying t=some (.array n e)) (he:Arg P e α) (ao:P.cellsOf t=n * ah.size α):Arg P t (Vector α n) where
 cells:=ao
 read {H enc W m cs x} h:=by
  obtain⟨xs,q,_,_,al,hlen,a7⟩:=DataW.trod_array hu h
  have aQ:∀ i,i < n→ ∃ a:α,ah.rep [] W ((cs.drop (i * ah.size α)).take (ah.size α)) a:=by
   intro i aj
   have J:=a7 i aj
   rw [List.getElem?_eq_getElem (by omega)] at J
   rw [← he.cells]
   exact he.read J
  refine⟨Vector.ofFn fun i=>(aQ i.1 i.2).choose,by rw [al,ao]; simp,fun i aj=> ?_⟩
  have hZ:i < n:=by simpa using aj
  have:=(aQ i hZ).choose_spec
  simpa using this
 form h:=TI (.inr ⟨_,_,hu⟩) h
theorem K4 {H:Type} {enc:TypeId × Value→H} {W W':World} (al:laidOutB P=true) {sp:Nat→Bool} :∀ {g8:List TypeId} {vs:List Value} {ds:List (DataW H)} {bs:List MemPlace},
 (∀ t∈g8,P.readableRec t=true∧t < P.types.size)→DataW.TrodAll enc P W 0 (fun _=>true) true g8 vs ds bs→ (∀ p∈bs,W.sameAt W' p)→ (∀ p∈bs,sp p.block=true)→DataW.TrodAll enc P W' 0 sp true g8 vs ds bs
 | [],_,_,_,_,h,_,_=>by
   obtain⟨rfl,rfl,rfl⟩:=trodAll_nil h
   exact rfl
 | _ :: _,_,_,_,cc,h,hs,hp=>by
   obtain⟨v,H8,d,H9,p,q,rfl,rfl,rfl,J,ab⟩:=trodAll_cons h
   have bP:=cc _ (List.mem_cons_self ..)
   exact⟨p,q,WideElems.Trod_stays al bP.1 bP.2 J (fun x an=>hs x (by simp [an])) (fun x an=>hp x (by simp [an])),
    K4 al (fun t sZ=>cc t (List.mem_cons_of_mem _ sZ)) ab (fun x an=>hs x (by simp [an])) (fun x an=>hp x (by simp [an])),rfl⟩
theorem Fr.below {W W':World} (h:Fr [] W W'):Below W.heap.size W W':=⟨h.os,h.tape,h.output,h.size,fun k aq=>h.block k aq (by simp)⟩
theorem TJ {H:Type} {enc:TypeId × Value→H} {f:Func} {s:ChangeSpec} {W W':World} {args:Array Value} {ds gs:List (DataW H)} {before:List MemPlace} {fG:TypeId}
 (al:laidOutB P=true) (hp:∀ t∈f.params.toList,P.readableRec t=true∧t < P.types.size) (aQ:f.resultTypes= #[fG]) (hb:P.underlying fG=some .bool) (a3:s.vars= [])
 (hs:s.fn H ds= { results:= [.lit (.bool true)],args:=ds })
 (xk:DataW.Whole enc P f.params.toList s.vars false W args.toList ds gs before) (nX:Fr [] W W'):
 s.post enc P f false true false false W args (.bool true) W':=by
 have Zw:=xk
 obtain⟨p,q,fL,Je,rfl,dh,aO⟩:=Zw
 rw [a3] at Je
 obtain⟨rfl,rfl⟩:=trodVars_none Je
 have cv:∀ x∈p,x.block < W.heap.size:=fun x an=>xk.lt x (by simpa using an)
 have s6:=nX.below
 have Xf:∀ x∈p,W.sameAt W' x:=fun x an=>s6.same (cv x an)
 have YO:∀ (b:Nat) (sp:Nat→Bool) (hd:Bool),DataW.TrodAll enc P W' b sp hd f.resultTypes.toList ((Value.bool true).resultList f.resultTypes.size) [.lit (.bool true)] []:=by
  intro b sp hd
  rw [aQ]
  exact⟨[],[],shut_bool hb true,rfl,rfl⟩
 refine⟨ds,[],p ++ [],[],p,[],xk,?_,?_,?_,World.keptBut_mono (fun x an=> ?_) (s6.frame fun _=>False),fun h=>by cases h⟩
 ·rw [List.append_nil,hs]; exact YO _ _ _
 ·rw [List.append_nil,hs]; exact K4 al hp fL Xf (fun x an=>by simpa using cv x an)
 ·rw [List.append_nil,hs,a3]; rfl
 ·exact an.elim
end Gv
namespace Gv
open Go Go.ChangeShapes Go.WideShapes Go.RowKit
set_option linter.unusedVariables false
set_option linter.unusedSimpArgs false
theorem TK {P:Program} {fits:TypeId→Bool} {d:Nat} {e:TypeId} {count off n:Nat} (h:rowAt P fits d e count off n=true):off≤count * P.cellsOf e:=by
 cases d with
 | zero=>cases h
 | succ d=>
   unfold rowAt at h
   simp only at h
   split at h
   ·cases h
   ·rename_i hs
    have hp:0 < P.cellsOf e:=Nat.pos_of_ne_zero hs
    have aa3:=Nat.div_add_mod off (P.cellsOf e)
    rw [Bool.or_eq_true] at h
    rcases h with h | h
    ·simp only [Bool.and_eq_true,beq_iff_eq,decide_eq_true_eq] at h
     have:P.cellsOf e * (off / P.cellsOf e)≤P.cellsOf e * count:=Nat.mul_le_mul_left _ (by omega)
     rw [Nat.mul_comm count]; omega
    ·simp only [Bool.and_eq_true,decide_eq_true_eq] at h
     have hm:=Nat.mod_lt off hp
     have:P.cellsOf e * (off / P.cellsOf e + 1)≤P.cellsOf e * count:=Nat.mul_le_mul_left _ (by omega)
     rw [Nat.mul_add] at this
     rw [Nat.mul_comm count]; omega
theorem K5 {P:Program} :∀ {d:Nat} {e:TypeId} {count off:Nat} {u:TypeId} {n:Nat},liesAt P d e count off u n=true→off≤count * P.cellsOf e
 | 0,_,_,_,_,_,h=>by cases h
 | d + 1,e,count,off,u,n,h=>by
   unfold liesAt at h
   rw [Bool.or_eq_true] at h
   rcases h with h | h
   ·exact TK h
   ·split at h
    ·exact K5 h
    ·cases h
structure sL (P:Program) (t:TypeId) (α:Type) [ah α]:Prop where
 top:∀ {H:Type} {enc:TypeId × Value→H} {W:World} {n b:Nat} {v:Value} {x:DataW H × List MemPlace},DataW.trod enc P W 0 (fun _=>true) true n t v.cells.toList=some x→Value.okWide P W .any b t v→ ∃ a:α,(I.of a).holds [] W v
variable {P:Program} {t e:TypeId}
theorem sL.of {α:Type} [ah α] (h:Arg P t α):sL P t α where
 top J ab:=let⟨a,aE⟩:=h.read J; ⟨a,h.form ab,aE⟩
theorem TL {α:Type} [ah α] (hu:P.underlying t=some (.slice e)) (he:Arg P e α) (dh:Nat.beq (ah.size α) 0=false) {H:Type} {enc:TypeId × Value→H} {W:World} {n b:Nat} {v:Value} {x:DataW H × List MemPlace}
 (h:DataW.trod enc P W 0 (fun _=>true) true n t [v]=some x) (hT:Cell.okWide P W .any b t v):∃ a:List α,(I.of a).holds [] W v:=by
 have ja:ah.size α≠0:=fun h=>by rw [h] at dh; cases dh
 rcases DataW.trod_slice hu h with⟨J,_⟩ | ⟨a,len,cap,elems,rest,m,_,J,_,_,aa4,oD,aa5,YP,aaO,_⟩
 ·have:=List.singleton_inj.1 J
  subst this
  exact⟨[],mj.2 (.inl ⟨rfl,rfl⟩)⟩
 ·have:=List.singleton_inj.1 J
  subst this
  unfold Cell.okWide at hT
  simp only [hu] at hT
  unfold Cell.ok at hT
  rw [hu] at hT
  obtain⟨_,_,_,N7,row,cells,xa,YQ⟩:=hT
  obtain⟨P6,rI,aa6⟩:=a
  simp only at N7
  subst N7
  unfold World.shape? at xa
  cases eA:W.heap[P6]? with
  | none=>rw [eA] at xa; cases xa
  | some jB=>
    rw [eA] at xa
    cases jB <;> simp at xa
    rename_i s7 T hl
    obtain⟨P7,eF⟩:=xa
    have aaS:rI≤s7.size:=by
     have aX:rI≤_:=K5 YQ
     have bk:=Nat.div_mul_le_self cells (P.cellsOf row)
     omega
    have Xg:=he.cells
    have fy:∀ i,i < len→ ∃ a:α,ah.rep [] W ((s7.toList.drop (rI + i * ah.size α)).take (ah.size α)) a∧rI + (i + 1) * ah.size α≤s7.size:=fun i aj=>by
     have aX:=YP i aj
     rw [List.getElem?_eq_getElem (by omega)] at aX
     obtain⟨dK,bk,cV⟩:=Option.bind_eq_some_iff.1 aX
     obtain⟨_,al,ao⟩:=World.cells?_some bk
     rw [Xg] at al ao bk
     have uq:∀ j,j < ah.size α→s7[rI + i * ah.size α + j]? =dK[j]? :=fun j aF=>by
      rw [← ao j aF,jk,jk]
      unfold World.cell?
      simp [eA]
     have heq:(s7.toList.drop (rI + i * ah.size α)).take (ah.size α)=dK:=by
      apply List.ext_getElem?
      intro j
      rw [List.getElem?_take]
      by_cases aF:j < ah.size α
      ·rw [if_pos aF,List.getElem?_drop,Array.getElem?_toList]; exact uq j aF
      ·rw [if_neg aF]; symm; exact List.getElem?_eq_none (by omega)
     obtain⟨a,a9⟩:=he.read cV
     refine⟨a,by rw [heq]; exact a9,?_⟩
     have eS:=uq (ah.size α - 1) (by omega)
     rw [List.getElem?_eq_getElem (show ah.size α - 1 < dK.length by omega)] at eS
     have:=(Array.getElem?_eq_some_iff.1 eS).1
     rw [Nat.add_mul]; omega
    have hex:∃ xs:List α,xs.length=len∧ ∀ i (h:i < xs.length),ah.rep [] W ((s7.toList.drop (rI + i * ah.size α)).take (ah.size α)) xs[i]:=by
     refine⟨List.ofFn fun i:Fin len=>(fy i.1 i.2).choose,by simp,fun i aj=> ?_⟩
     have hZ:i < len:=by simpa using aj
     rw [List.getElem_ofFn]
     exact(fy i hZ).choose_spec.1
    obtain⟨xs,Ah,Ia⟩:=hex
    have hbound:rI + xs.length * ah.size α≤s7.size:=by
     rw [Ah]
     rcases Nat.eq_zero_or_pos len with bP | bP
     ·rw [bP]; omega
     ·have:=(fy (len - 1) (by omega)).choose_spec.2
      rw [show len - 1 + 1=len by omega] at this
      exact this
    refine⟨xs,mj.2 (.inr ⟨P6,rI,cap,s7,T,hl,by rw [Ah],by simp,eA,by omega,by omega,hbound,?_,fun i aj=> ?_⟩)⟩
    ·rw [List.length_take,List.length_drop]; simp; omega
    ·have hle:(i + 1) * ah.size α≤xs.length * ah.size α:=Nat.mul_le_mul_right _ aj
     rw [Nat.succ_mul] at hle
     rw [rY _ _ _ _ _ hle]
     exact Ia i aj
theorem sL.Zx {α:Type} [ah α] (hu:P.underlying t=some (.slice e)) (he:Arg P e α) (dh:Nat.beq (ah.size α) 0=false):sL P t (List α) where
 top {H enc W n b v x} h hT:=by
  have wY:Cell.okWide P W .any b t v:=by
   unfold Value.okWide at hT
   simp only [hu] at hT
   exact hT
  have YR:v.oneCell'=true:=by
   unfold Cell.okWide at wY
   simp only [hu] at wY
   unfold Cell.ok at wY
   rw [hu] at wY
   cases v <;> first | rfl | simp at wY
  rw [n6 YR] at h
  exact TL hu he dh h wY
theorem Ca {H:Type} {enc:TypeId × Value→H} {W:World} {g8:List TypeId} {vs:List Value} {ds:List (DataW H)} {bs:List MemPlace} {α:Type} [ah α] {b:Nat} (a9:sL P t α)
 (h:DataW.TrodAll enc P W 0 (fun _=>true) true (t :: g8) vs ds bs) (hT:∀ (j:Nat) u v,(t :: g8)[j]? =some u→vs[j]? =some v→Value.okWide P W .any b u v):
 ∃ (a:α) (v:Value) (Ib:List Value) (Pm:List (DataW H)) (mC:List MemPlace) (d:DataW H),vs=v :: Ib∧ds=d :: Pm∧ (I.of a).holds [] W v∧DataW.TrodAll enc P W 0 (fun _=>true) true g8 Ib Pm mC∧
   (∀ (j:Nat) u w,g8[j]? =some u→Ib[j]? =some w→Value.okWide P W .any b u w):=by
 obtain⟨v,H8,d,H9,p,q,rfl,rfl,rfl,⟨n,J⟩,ab⟩:=trodAll_cons h
 obtain⟨a,aE⟩:=a9.top J (hT 0 t v rfl rfl)
 exact⟨a,v,H8,H9,q,d,rfl,rfl,aE,ab,fun j u w aF hw=>hT (j + 1) u w (by simpa using aF) (by simpa using hw)⟩
end Gv
namespace Gv
open Go
set_option linter.unusedVariables false
set_option linter.unusedSimpArgs false
theorem SG {aC L:List aN} (h:aC.Sublist L):(aP aC).Sublist (aP L):=by
 induction h with
 | slnil=>simp [aP]
 | cons e _ bO=>cases aq:e.key <;> simp only [aP,aq] <;> first | exact bO | exact bO.cons _
 | cons_cons e _ bO=>cases aq:e.key <;> simp only [aP,aq] <;> first | exact bO | exact bO.cons_cons _
theorem aN.sf {e:aN} {A c0 W W'} (h:e.ok A W) (x:Ext A W c0 W') (hb:∀ p,e.key=some p→W'.heap[p]? =W.heap[p]?):e.ok c0 W':=by
 unfold aN.ok at *
 cases aq:e.key with
 | none=>rw [aq] at h; exact h
 | some p=>
   rw [aq] at h
   obtain⟨o,J,ab⟩:=h
   exact⟨o,by rw [hb p aq]; exact J,dB.mono _ x ab⟩
def jV (X b2:List Nat) (iD:World) {δ:Type} (ρ:δ→I) (Lo:δ→List aN):Ending→World→Prop:=fun e W'=>
 ∃ v d,e= .returned v∧Fr X iD W'∧ (aP (Lo d)).Nodup∧ (∀ k∈aP (Lo d),k < W'.heap.size∧ (k < iD.heap.size→k∈X)∧k ∉ b2)∧ (∀ e∈Lo d,e.ok (aP (Lo d) ++ b2) W')∧ (ρ d).holds (aP (Lo d) ++ b2) W' v
def cG (P:Program) (f:FuncId) (τs:List I) (Lin:List aN) {δ:Type} (ρ:δ→I) (Lo:δ→List aN):Prop:=
 ∀ (A:List Nat) (W:World) (vs:List Value),(∀ k∈A,k < W.heap.size∧k ∉ aP Lin)→ (aP Lin).Nodup→ (∀ k∈aP Lin,k < W.heap.size)→ (∀ e∈Lin,e.ok (aP Lin ++ A) W)→gW (aP Lin ++ A) W τs vs→
   Calls P f vs.toArray W (jV (aP Lin) A W ρ Lo)
theorem cG.of {P:Program} {f:FuncId} {fn:Func} {code:Code} {n:Nat} {τs:List I} {Lin:List aN} {δ:Type} {ρ:δ→I} {Lo:δ→List aN} (a7:P.funcs[f]? =some fn) (hb:fn.body=some code) (aO:fn.ntmps=n) (hlen:Nat.ble τs.length n=true)
 (h:∀ W A,ag ⟨P,n,W,aP Lin,A,none,[]⟩ (bodyPost P fn (jV (aP Lin) A W ρ Lo)) code (params 0 τs) Lin):cG P f τs Lin ρ Lo:=by
 intro A W vs fL hA cv hT a3
 refine calls_of_wp a7 hb (wpIn_wide.1 (h W A _ _ ?_))
 have al:=a3.length
 have hle:τs.length≤n:=Nat.le_of_ble_eq_true hlen
 exact
 {defers:=rfl
  size:=by simp [aO,al]; omega
  env:=fun t τ lg=>by
   obtain⟨_,v,ab,aE⟩:=tB a3 0 t τ lg
   refine⟨v,?_,aE⟩
   have cv:t < vs.length:=(List.getElem?_eq_some_iff.1 ab).1
   rw [Array.getElem?_append_left (by simpa using cv)]
   simpa using ab
  dw:= .refl _ _
  own:=hT
  nodup:=hA
  lt:=cv
  fH:=fun k aq _=>aq
  eQ:=fL }
section
variable {c:c8} {E:List (Nat × I)} {L:List aN} {ops:Array Oper} {Q:Exit→Act→World→Prop}
variable {d:Option Tmp} {ty:TypeId} {pos:String} {af:Array Edge} {g:Option (Nat × Bool)} {x y:Operand} {t t2:TypeId}
def Al (c:c8) (E:List (Nat × I)) (L:List aN) (r:ResultVar) (τ:I):Prop:=
 ∀ a W,bG c E L a W→ ∃ v,(tY a.tmps r).run c.P W= .ok v W∧τ.holds (aP L ++ c.b2) W v
theorem gf {t:Nat} {τ:I} (h:look E t=some τ):Al c E L (.tmp t) τ:=fun a W s=>by
 obtain⟨v,J,ab⟩:=s.env t τ h
 exact⟨v,by simp [tY,J],ab⟩
theorem om {t:Nat} {ty:TypeId} {i p:Nat} {α:Type} [ah α] {x:α} (en:bA c.P ty α) (h:look E t=some (.eq (.pointer (some ⟨p,0,none⟩)))) (av:L[i]? =some ⟨some p,.var x⟩):Al c E L (.cell t ty) (.of x):=fun a W s=>by
 obtain⟨v,J,ab⟩:=s.env t _ h
 subst ab
 obtain⟨jB,eA,cs,T,rfl,fy⟩:=s.own _ (List.mem_of_getElem? av)
 have al:cs.toList.length=ah.size α:=ah.len fy
 have eF:cs.size=ah.size α:=by simpa using al
 obtain⟨v,aE,aW⟩:=tr (A:=aP L ++ c.b2) (off:=0) en eA (by omega) (by rw [List.drop_zero,← al,List.take_length]; exact fy)
 exact⟨v,by simp [tY,J,asAddr,aE],aW⟩
theorem bG.ends {a:Act} {W:World} (s:bG c E L a W) {δ:Type} {ρ:δ→I} {Lo:δ→List aN} (bc:δ) (hs:(Lo bc).Sublist L) {v:Value} (a3:(ρ bc).holds (aP L ++ c.b2) W v):jV c.X c.b2 c.iD ρ Lo (.returned v) W:=by
 have kJ:=SG hs
 have aq:∀ k∈aP (Lo bc),k∈aP L:=fun k aq=>kJ.subset aq
 have gZ:Ext (aP L ++ c.b2) W (aP (Lo bc) ++ c.b2) W:= .drop fun k hm=>by
  rcases List.mem_append.1 hm with hm | hm
  ·exact List.mem_append.2 (.inl (aq k hm))
  ·exact List.mem_append.2 (.inr hm)
 exact⟨v,bc,rfl,s.dw,s.nodup.sublist kJ,fun k hm=>⟨s.lt k (aq k hm),s.fH k (aq k hm),fun a9=>(s.eQ k a9).2 (aq k hm)⟩,
  fun e he=>aN.sf (s.own e (hs.subset he)) gZ fun _ _=>rfl,I.mono _ gZ a3⟩
theorem ae.ha {fn:Func} {r:ResultVar} {τ:I} {δ:Type} {ρ:δ→I} {Lo:δ→List aN} (bc:δ) (hs:(Lo bc).Sublist L) (aQ:fn.results= #[r]) (uW:ρ bc=τ) (h:Al c E L r τ) (h4:c.ds= []:=by rfl):ae c (bodyPost c.P fn (jV c.X c.b2 c.iD ρ Lo)) .ret E L:=fun a W s=>by
 subst uW
 obtain⟨v,J,ab⟩:=h a W s
 exact⟨s.v7 h4,v,by simp [vW,aQ,J],s.ends bc hs ab⟩
theorem ae.qU {fn:Func} {r jN:ResultVar} {τ pg:I} {δ:Type} {ρ:δ→I} {Lo:δ→List aN} (bc:δ) (hs:(Lo bc).Sublist L) (aQ:fn.results= #[r,jN]) (uW:ρ bc= .eI [τ,pg]) (h:Al c E L r τ) (ab:Al c E L jN pg) (h4:c.ds= []:=by rfl):ae c (bodyPost c.P fn (jV c.X c.b2 c.iD ρ Lo)) .ret E L:=fun a W s=>by
 obtain⟨v,aE,aW⟩:=h a W s
 obtain⟨v2,aX,bk⟩:=ab a W s
 exact⟨s.v7 h4,.tuple #[v,v2],by simp [vW,aQ,aE,aX],s.ends bc hs (by rw [uW]; exact⟨_,rfl,.cons aW (.cons bk .nil)⟩)⟩
theorem r6:∀ {L:List aN} {i:Nat} {e:aN},L[i]? =some e→L.Perm (e :: L.eraseIdx i)
 | [],i,e,h=>by simp at h
 | x :: r,0,e,h=>by simp only [List.getElem?_cons_zero,Option.some.injEq] at h; subst h; exact .refl _
 | x :: r,i + 1,e,h=>by
   simp only [List.getElem?_cons_succ] at h
   exact((r6 h).cons x).trans (.swap e x _)
theorem bG.cd {a:Act} {W:World} (s:bG c E L a W) {i:Nat} {e:aN} (h:L[i]? =some e):bG c E (e :: L.eraseIdx i) a W:=s.perm (r6 h)
theorem ak.cd {l:List Oper} (i:Nat) {e:aN} (h:L[i]? =some e) (k:ak c ops Q l E (e :: L.eraseIdx i)):ak c ops Q l E L:=fun a W s=>k a W (s.cd h)
theorem ae.cd {z:Exit} (i:Nat) {e:aN} (h:L[i]? =some e) (k:ae c Q z E (e :: L.eraseIdx i)):ae c Q z E L:=fun a W s=>k a W (s.cd h)
theorem bG.after {a:Act} {W W':World} {Lin Lr:List aN} (s:bG c E (Lin ++ Lr) a W) {Lo:List aN} (a7:Fr (aP Lin) W W') (hA:(aP Lo).Nodup)
 (aq:∀ k∈aP Lo,k < W'.heap.size∧ (k < W.heap.size→k∈aP Lin)∧k ∉ aP Lr ++ c.b2) (hT:∀ e∈Lo,e.ok (aP Lo ++ (aP Lr ++ c.b2)) W'):bG c E (Lo ++ Lr) a W':=by
 have gZ:Ext (aP (Lin ++ Lr) ++ c.b2) W (aP (Lo ++ Lr) ++ c.b2) W':=
  ⟨a7.size,fun k cv a9=>a7.block k cv fun hm=>a9 (by rw [e0]; simp [hm]),fun k hm cv=>by
   rw [e0] at hm ⊢
   simp only [List.mem_append] at hm ⊢
   rcases hm with(hm | hm) | hm
   ·exact .inl (.inl ((aq k hm).2.1 cv))
   ·exact .inl (.inr hm)
   ·exact .inr hm⟩
 have lH:=s.nodup
 rw [e0] at lH
 obtain⟨mD,nQ,pk⟩:=List.nodup_append.1 lH
 have Pn:∀ k∈aP Lr,k < W.heap.size∧k ∉ aP Lin:=fun k hm=>⟨s.lt k (by rw [e0]; exact List.mem_append.2 (.inr hm)),fun h=>pk k h k hm rfl⟩
 exact
 {defers:=s.defers
  size:=s.size
  env:=fun t τ al=>let⟨v,J,ab⟩:=s.env t τ al; ⟨v,J,τ.mono gZ ab⟩
  dw:=⟨a7.os.trans s.dw.os,a7.tape.trans s.dw.tape,a7.output.trans s.dw.output,Nat.le_trans s.dw.size a7.size,fun k cv an=>
   (a7.block k (Nat.lt_of_lt_of_le cv s.dw.size) fun hm=>an (s.fH k (by rw [e0]; exact List.mem_append.2 (.inl hm)) cv)).trans (s.dw.block k cv an)⟩
  own:=fun e he=>by
   rcases List.mem_append.1 he with he | he
   ·have:=hT e he
    refine aN.sf this (.drop fun k hm=> ?_) fun _ _=>rfl
    rw [e0] at hm
    simp only [List.mem_append] at hm ⊢
    rcases hm with(hm | hm) | hm
    ·exact .inl hm
    ·exact .inr (.inl hm)
    ·exact .inr (.inr hm)
   ·exact aN.sf (s.own e (List.mem_append.2 (.inr he))) gZ fun p hp=>by
     have:=Pn p (kH.2 ⟨e,he,hp⟩)
     exact a7.block p this.1 this.2
  nodup:=by
   rw [e0]
   exact List.nodup_append.2 ⟨hA,nQ,fun k J j ab e=>by subst e; exact(aq k J).2.2 (List.mem_append.2 (.inl ab))⟩
  lt:=fun k hm=>by
   rw [e0] at hm
   rcases List.mem_append.1 hm with hm | hm
   ·exact(aq k hm).1
   ·exact Nat.lt_of_lt_of_le (Pn k hm).1 a7.size
  fH:=fun k hm bP=>by
   rw [e0] at hm
   have cv:k < W.heap.size:=Nat.lt_of_lt_of_le bP s.dw.size
   rcases List.mem_append.1 hm with hm | hm
   ·exact s.fH k (by rw [e0]; exact List.mem_append.2 (.inl ((aq k hm).2.1 cv))) bP
   ·exact s.fH k (by rw [e0]; exact List.mem_append.2 (.inr hm)) bP
  eQ:=fun k hm=>by
   obtain⟨J,ab⟩:=s.eQ k hm
   refine⟨Nat.lt_of_lt_of_le J a7.size,fun h=> ?_⟩
   rw [e0] at h ab
   rcases List.mem_append.1 h with h | h
   ·exact(aq k h).2.2 (List.mem_append.2 (.inr hm))
   ·exact ab (List.mem_append.2 (.inr h)) }
theorem hO.MT {xs:List Operand} {τs:List I} (h:hO c E L xs τs) {a:Act} {W:World} (s:bG c E L a W):gW (aP L ++ c.b2) W τs (xs.map a.eval):=h.holds a W s
theorem yB {a:Act} {W:World} {f:FuncId} {xs:List Operand} {ats:Array TypeId} {τs:List I} {Lin Lr:List aN} {δ:Type} {ρ:δ→I} {Lo:δ→List aN} (eo:bH c.P f) (h:cG c.P f τs Lin ρ Lo)
 (s:bG c E (Lin ++ Lr) a W) (an:gW (aP (Lin ++ Lr) ++ c.b2) W τs (xs.map a.eval)):
 gj c.P ⟨d,.call ⟨.value (.func f),xs.toArray,ats⟩,ty,pos,af,g⟩ a W fun v W'=> ∃ bc,bG c E (Lo bc ++ Lr) a W'∧ (ρ bc).holds (aP (Lo bc ++ Lr) ++ c.b2) W' v:=by
 have lH:=s.nodup
 rw [e0] at lH
 obtain⟨mD,nQ,pk⟩:=List.nodup_append.1 lH
 have jY:Ext (aP (Lin ++ Lr) ++ c.b2) W (aP Lin ++ (aP Lr ++ c.b2)) W:= .drop fun k hm=>by
  rw [e0]
  simp only [List.mem_append] at hm ⊢
  rcases hm with hm | hm | hm
  ·exact .inl (.inl hm)
  ·exact .inl (.inr hm)
  ·exact .inr hm
 have fL:∀ k∈aP Lr ++ c.b2,k < W.heap.size∧k ∉ aP Lin:=fun k hm=>by
  rcases List.mem_append.1 hm with hm | hm
  ·exact⟨s.lt k (by rw [e0]; exact List.mem_append.2 (.inr hm)),fun h=>pk k h k hm rfl⟩
  ·obtain⟨J,ab⟩:=s.eQ k hm
   exact⟨J,fun h=>ab (by rw [e0]; exact List.mem_append.2 (.inl h))⟩
 have cv:∀ k∈aP Lin,k < W.heap.size:=fun k hm=>s.lt k (by rw [e0]; exact List.mem_append.2 (.inl hm))
 refine .tH (f:=f) (args:=(xs.map a.eval).toArray) (W':=W) (by simp [execOp,resolve,Deferred.ofValue,Act.eval,invoke,eo.run]) ?_
 refine(h (aP Lr ++ c.b2) W (xs.map a.eval) fL mD cv (fun e he=>aN.sf (s.own e (List.mem_append.2 (.inl he))) jY fun _ _=>rfl) (an.mono jY)).mono fun e W' ⟨v,bc,he,a7,J,ab,aE,aW⟩=> ?_
 refine⟨v,he,bc,s.after a7 J ab aE,(ρ bc).mono (.drop fun k hm=> ?_) aW⟩
 rw [e0] at hm
 simp only [List.mem_append] at hm ⊢
 rcases hm with(hm | hm) | hm
 ·exact .inl hm
 ·exact .inr (.inl hm)
 ·exact .inr (.inr hm)
theorem ak.lX {rest:List Oper} {bc:Nat} {f:FuncId} {xs:List Operand} {ats:Array TypeId} {τs:List I} {Lin Lr:List aN} {δ:Type} {ρ:δ→I} {Lo:δ→List aN} (eo:bH c.P f) (h:cG c.P f τs Lin ρ Lo)
 (an:hO c E (Lin ++ Lr) xs τs) (aO:Nat.blt bc c.n=true) (k:∀ q,ak c ops Q rest ((bc,ρ q) :: E) (Lo q ++ Lr)):
 ak c ops Q (⟨some bc,.call ⟨.value (.func f),xs.toArray,ats⟩,ty,pos,af,none⟩ :: rest) E (Lin ++ Lr):=fun a W s=>
 ib rfl (yB eo h s (an.holds a W s)) fun v W' ⟨q,b8,a3⟩=>k q _ _ (b8.put (by simpa using aO) a3)
end
end Gv
namespace Gv
open Go
set_option linter.unusedVariables false
set_option linter.unusedSimpArgs false
def et {α:Type} (xs:List α) (k:Nat) (v:α):List α:=xs.set k v
section
variable {c:c8} {E:List (Nat × I)} {L:List aN} {ops:Array Oper} {Q:Exit→Act→World→Prop}
variable {d:Option Tmp} {ty:TypeId} {pos:String} {af:Array Edge} {g:Option (Nat × Bool)} {x y:Operand} {t t2:TypeId}
theorem bG.rowAt {a:Act} {W:World} (s:bG c E L a W) {i:Nat} {key:Option Nat} {T cap:Nat} {α:Type} [ah α] {xs:List α} (av:L[i]? =some ⟨key,.row T xs cap⟩) (an:0 < xs.length):
 ∃ p cs,key=some p∧W.heap[p]? =some (.cells cs T (0,0))∧cs.size=cap * ah.size α∧xs.length≤cap∧cap≤maxLen∧gi (aP L ++ c.b2) W (cs.toList.take (xs.length * ah.size α)) xs:=by
 have bo:=s.own _ (List.mem_of_getElem? av)
 cases key with
 | none=>have:xs= []:=bo.1; subst this; simp at an
 | some p=>
   obtain⟨o,eA,cs,rfl,J,ab,aE,aW⟩:=bo
   exact⟨p,cs,rfl,eA,J,ab,aE,aW⟩
theorem mX {e i k T cap:Nat} {key:Option Nat} {α:Type} [ah α] {xs:List α} {z:Int} (hu:c.P.underlying t=some (.slice e)) (ft:bA c.P e α) (an:bb c E L x (.eq (aZ key xs.length cap))) (a4:bb c E L y (.of z))
 (av:L[i]? =some ⟨key,.row T xs cap⟩) (aq:k < xs.length∧z=k):b3 c E L ⟨d,.indexAddr t x y,ty,pos,af,g⟩ (.eq (.pointer (some ⟨key.getD 0,k * ah.size α,none⟩))):= .pure fun a W s=>by
 obtain⟨bk,rfl⟩:=aq
 obtain⟨p,cs,rfl,_⟩:=s.rowAt av (by omega)
 have J:a.eval x=_:=an a W s
 have aX:=of_int.1 (a4 a W s)
 obtain⟨gd,dW,eF⟩:=ft.info
 exact⟨_,by simp [execOp,Instr.indexAt,asIntOf,run_underlying hu,J,aX,bk,Go.sizeOf,typeInfo,dW,eF,jk,aZ]; rfl,by simp [I.eq]⟩
theorem wu {k n s:Nat} (h:k < n):k * s + s≤n * s:=by rw [← Nat.succ_mul]; exact Nat.mul_le_mul_right _ h
theorem wc {i k T cap o:Nat} {key:Option Nat} {α γ:Type} [ah α] [Inhabited α] [ah γ] {xs:List α} (l:aI α γ) {r:γ} (en:bA c.P t γ) (an:bb c E L x (.eq (.pointer (some ⟨key.getD 0,o,none⟩))))
 (av:L[i]? =some ⟨key,.row T xs cap⟩) (aq:k < xs.length) (bo:o=k * ah.size α + l.off) (aQ:l.get (aB xs k)=r):b3 c E L ⟨d,.load t x,ty,pos,af,g⟩ (.of r):= .pure fun a W s=>by
 subst bo; subst aQ
 obtain⟨p,cs,rfl,eA,J,ab,aE,aW⟩:=s.rowAt av (by omega)
 have eJ:=wu (s:=ah.size α) aq
 have al:=l.fR
 have hle:xs.length * ah.size α≤cap * ah.size α:=Nat.mul_le_mul_right _ ab
 have fy:=l.h0 (aW.2 k aq)
 rw [rY _ _ _ _ _ l.fR,List.drop_take,List.take_take,Nat.min_eq_left (by omega)] at fy
 rw [dU xs aq]
 obtain⟨v,aX,bk⟩:=tr (A:=aP L ++ c.b2) en eA (off:=k * ah.size α + l.off) (by omega) fy
 have cV:a.eval x=_:=an a W s
 simp only [Option.getD_some] at cV
 exact⟨v,by simp [execOp,Instr.loadAt,Instr.sureAddr,cV,aX],bk⟩
theorem ak.si {rest:List Oper} {i k T cap o:Nat} {key:Option Nat} {α γ:Type} [ah α] [Inhabited α] [ah γ] {xs r:List α} {v:γ} (l:aI α γ) (en:bA c.P t γ) (an:bb c E L x (.eq (.pointer (some ⟨key.getD 0,o,none⟩)))) (a4:bb c E L y (.of v))
 (av:L[i]? =some ⟨key,.row T xs cap⟩) (aq:k < xs.length) (bo:o=k * ah.size α + l.off) (aQ:et xs k (l.set (aB xs k) v)=r)
 (k':ak c ops Q rest E (L.set i ⟨key,.row T r cap⟩)):ak c ops Q (⟨none,.store t x y,ty,pos,af,none⟩ :: rest) E L:=fun a W s=>by
 subst bo; subst aQ
 obtain⟨p,cs,rfl,eA,J,ab,aE,aW⟩:=s.rowAt av (by omega)
 have eJ:=wu (s:=ah.size α) aq
 have al:=l.fR
 have hle:xs.length * ah.size α≤cap * ah.size α:=Nat.mul_le_mul_right _ ab
 have a3:=a4 a W s
 have Ic:(a.eval y).cells.toList.length=ah.size γ:=ah.len a3.2
 have aX:=yd (A:=aP L ++ c.b2) en eA (off:=k * ah.size α + l.off) (by omega) a3
 have cV:a.eval x=_:=an a W s
 simp only [Option.getD_some] at cV
 refine ib rfl (R:=fun v W'=>W'=W.setRow p (fK cs.toList (k * ah.size α + l.off) (a.eval y).cells.toList).toArray) (.wg ?_ rfl) fun u W' hw=> ?_
 ·simp [execOp,Instr.storeAt,Instr.sureAddr,cV,aX]
 ·subst hw
  refine k' _ _ (s.store av eA ?_)
  have jL:cs.toList.length=cap * ah.size α:=by simpa using J
  have lK:(fK cs.toList (k * ah.size α + l.off) (a.eval y).cells.toList).length=cs.toList.length:=by
   simp only [fK,List.length_append,List.length_take,List.length_drop,Ic]; omega
  refine⟨_,rfl,by simpa [jL] using lK,by simpa [et] using ab,aE,?_⟩
  have au:=aW.2 k aq
  have aT:=l.kG au a3.2
  have bq:=Fo aW aq aT
  have lM:(cs.toList.take (xs.length * ah.size α)).length=xs.length * ah.size α:=by rw [List.length_take]; omega
  rw [K2 _ _ _ _ _ _ l.fR (by omega)] at bq
  have hlen:(et xs k (l.set (aB xs k) v)).length=xs.length:=by simp [et]
  rw [hlen,List.toList_toArray]
  have e:(fK cs.toList (k * ah.size α + l.off) (a.eval y).cells.toList).take (xs.length * ah.size α)=
   (cs.toList.take (xs.length * ah.size α)).take (k * ah.size α + l.off) ++ (a.eval y).cells.toList ++ (cs.toList.take (xs.length * ah.size α)).drop (k * ah.size α + l.off + ah.size γ):=by
   have ay:(cs.toList.take (k * ah.size α + l.off)).length=k * ah.size α + l.off:=by rw [List.length_take]; omega
   have aS:(cs.toList.take (k * ah.size α + l.off) ++ (a.eval y).cells.toList).length=k * ah.size α + l.off + ah.size γ:=by rw [List.length_append,ay,Ic]
   rw [fK,Ic,List.take_append,aS,List.take_of_length_le (by omega),List.take_take,Nat.min_eq_left (by omega),List.drop_take]
  rw [e,show et xs k (l.set (aB xs k) v)=xs.set k (l.set xs[k] v) by rw [et,dU xs aq]]
  exact bq
def iw (key:Option Nat) (lo n cap size:Nat):Value:=match key with
 | some p=> .slice (some (if cap=lo then⟨p,0,none⟩ else⟨p,lo * size,none⟩)) n (cap - lo)
 | none=> .slice none 0 0
theorem yD {key:Option Nat} {n cap size:Nat} :iw key 0 n cap size=aZ key n cap:=by
 cases key <;> simp [iw,aZ]
theorem Ck {i T cap:Nat} {key:Option Nat} {α:Type} [ah α] {xs:List α} {e:TypeId} {lo aj:Option Operand} {m n:Nat} {AY AZ:Int} (hu:c.P.underlying t=some (.slice e)) (ft:bA c.P e α) (an:bb c E L x (.eq (aZ key xs.length cap)))
 (av:L[i]? =some ⟨key,.row T xs cap⟩) (g6:tg c E L lo AY 0) (eE:tg c E L aj AZ xs.length) (hm:AY=m) (aO:AZ=n) (h:m≤n∧n≤xs.length):
 b3 c E L ⟨d,.slice t x lo aj none,ty,pos,af,g⟩ (.eq (iw key m (n - m) cap (ah.size α))):= .pure fun a W s=>by
 subst hm; subst aO
 obtain⟨w8,m9⟩:=h
 obtain⟨gd,dW,eF⟩:=ft.info
 have J:a.eval x=_:=an a W s
 have bo:=s.own _ (List.mem_of_getElem? av)
 cases key with
 | none=>
   have iB:xs= []:=bo.1
   subst iB
   have s4:n=0:=by simpa using m9
   have hJ:m=0:=by omega
   subst s4
   subst hJ
   refine⟨.slice none 0 0,?_,rfl⟩
   have av:(match lo.map a.eval with | some v=>Instr.sliceBound v 0 .sliceB | none=>pure 0:Sem Nat).run c.P W= .ok 0 W:=by
    cases g6 with
    | none=>rfl
    | some al=>exact pF (Nat.le_refl _) (of_int.1 (al a W s))
   have jh:(match aj.map a.eval,(none:Option Value) with | some v,some _=>Instr.sliceBound v 0 .slice3B | some v,none=>Instr.sliceBound v 0 .sliceAcap | none,none=>pure 0 | none,some _=>stuck "Slice: max without high" :Sem Nat).run c.P W= .ok 0 W:=by
    cases eE with
    | none=>rfl
    | some al=>exact pF (Nat.le_refl _) (of_int.1 (al a W s))
   cases g6 <;> cases eE
   all_goals
    simp only [aZ,execOp,Instr.sliceAt,Instr.slice,Instr.sliceBounds,J,Sem.run_bind,run_underlying hu,Result.andThen_ok,Option.map_none,Option.map_some,Option.isSome_none,Bool.false_eq_true,if_false,if_true,Sem.run_pure] at av jh ⊢
    try simp only [av,jh,Result.andThen_ok,Go.sizeOf,typeInfo,Sem.run_bind,run_program,dW,Sem.run_pure]
    try simp [dW]
 | some p=>
   obtain⟨o,eA,cs,rfl,au,aT,bq,cx⟩:=bo
   refine⟨_,?_,rfl⟩
   simp only [iw]
   have av:∀ v,v=Value.int .i64 m→ (Instr.sliceBound v n .sliceB).run c.P W= .ok m W:=fun v a3=>pF w8 a3
   have jh:∀ v,v=Value.int .i64 n→ (Instr.sliceBound v cap .sliceAcap).run c.P W= .ok n W:=fun v a3=>pF (by omega) a3
   generalize eJ:(n:Int)=P0 at eE
   generalize Ag:(m:Int)=P1 at g6
   generalize Ah:(xs.length:Int)=P2 at eE
   generalize Pj:(0:Int)=P3 at g6
   cases g6 with
   | none=>
     have hJ:m=0:=by omega
     cases eE with
     | none=>
       have m9:n=xs.length:=by omega
       subst m9
       subst hJ
       simp [execOp,Instr.sliceAt,Instr.slice,Instr.sliceBounds,J,aZ,run_underlying hu,Go.sizeOf,typeInfo,dW,eF,jk]
     | some cE=>
       subst eJ
       subst hJ
       simp [execOp,Instr.sliceAt,Instr.slice,Instr.sliceBounds,J,aZ,run_underlying hu,Go.sizeOf,typeInfo,dW,eF,jk,jh _ (of_int.1 (cE a W s))]
   | some al=>
     subst Ag
     cases eE with
     | none=>
       have m9:n=xs.length:=by omega
       subst m9
       simp [execOp,Instr.sliceAt,Instr.slice,Instr.sliceBounds,J,aZ,run_underlying hu,Go.sizeOf,typeInfo,dW,eF,jk,av _ (of_int.1 (al a W s))]
       split <;> rfl
     | some cE=>
       subst eJ
       simp [execOp,Instr.sliceAt,Instr.slice,Instr.sliceBounds,J,aZ,run_underlying hu,Go.sizeOf,typeInfo,dW,eF,jk,av _ (of_int.1 (al a W s)),jh _ (of_int.1 (cE a W s))]
       split <;> rfl
theorem bG.again {a:Act} {W:World} (s:bG c E L a W) {i:Nat} {key:Option Nat} {cp cp':dB} (av:L[i]? =some ⟨key,cp⟩) (h:∀ A W o,cp.holds A W o→cp'.holds A W o) (aO:cp.l1→cp'.l1):bG c E (L.set i ⟨key,cp'⟩) a W:=by
 have g1:aP (L.set i ⟨key,cp'⟩)=aP L:=wo (e:=⟨key,cp⟩) (cp:=cp') av
 exact
 {defers:=s.defers
  size:=s.size
  env:=fun t τ al=>by rw [g1]; exact s.env t τ al
  dw:=s.dw
  own:=fun e he=>by
   rw [g1]
   obtain⟨j,aF⟩:=List.mem_iff_getElem?.1 he
   rw [List.getElem?_set] at aF
   split at aF
   ·split at aF
    ·simp only [Option.some.injEq] at aF
     subst aF
     have bo:=s.own _ (List.mem_of_getElem? av)
     cases key with
     | none=>exact aO bo
     | some p=>obtain⟨o,J,ab⟩:=bo; exact⟨o,J,h _ _ _ ab⟩
    ·cases aF
   ·exact s.own e (List.mem_of_getElem? aF)
  nodup:=by rw [g1]; exact s.nodup
  lt:=by rw [g1]; exact s.lt
  fH:=by rw [g1]; exact s.fH
  eQ:=by rw [g1]; exact s.eQ }
theorem Fq {T cap n:Nat} {α:Type} [ah α] {xs:List α} (aO:n≤xs.length) {A W o} (h:(dB.row T xs cap).holds A W o):(dB.row T (xs.take n) cap).holds A W o:=by
 obtain⟨cs,rfl,J,ab,aE,aW⟩:=h
 have al:(xs.take n).length=n:=by rw [List.length_take]; omega
 have hle:n * ah.size α≤xs.length * ah.size α:=Nat.mul_le_mul_right _ aO
 have Du:xs.length * ah.size α≤cap * ah.size α:=Nat.mul_le_mul_right _ ab
 refine⟨cs,rfl,J,by omega,aE,?_⟩
 rw [al]
 have jL:cs.toList.length=cap * ah.size α:=by simpa using J
 refine⟨by rw [List.length_take,al]; omega,fun i aj=> ?_⟩
 have hZ:i < n:=by omega
 have eJ:=wu (s:=ah.size α) hZ
 have:=aW.2 i (by omega)
 rw [List.drop_take,List.take_take,Nat.min_eq_left (by omega)] at this ⊢
 rw [List.getElem_take]
 exact this
theorem ak.V9 {l:List Oper} {i T cap n:Nat} {key:Option Nat} {α:Type} [ah α] {xs r:List α} (bc:Nat) (al:look E bc=some (.eq (iw key 0 (n - 0) cap (ah.size α)))) (av:L[i]? =some ⟨key,.row T xs cap⟩) (aO:n≤xs.length) (aQ:xs.take n=r)
 (k:ak c ops Q l ((bc,.eq (aZ key r.length cap)) :: E) (L.set i ⟨key,.row T r cap⟩)):ak c ops Q l E L:=fun a W s=>by
 subst aQ
 have hlen:(xs.take n).length=n:=by rw [List.length_take]; omega
 have b8:=s.again av (fun _ _ _ h=>Fq aO h) (cp':= .row T (xs.take n) cap) (fun⟨J,ab⟩=>⟨by rw [J]; simp,ab⟩)
 refine k a W { b8 with env:=fun t τ ev=> ?_ }
 simp only [look] at ev
 by_cases e:Nat.beq bc t=true
 ·rw [e] at ev
  simp only [cond_true,Option.some.injEq] at ev
  subst ev
  have:=ep.1 e
  subst this
  obtain⟨v,J,ab⟩:=s.env bc _ al
  refine⟨v,J,?_⟩
  have lj:v=_:=ab
  rw [Nat.sub_zero,yD] at lj
  rw [hlen]
  exact lj
 ·simp only [Bool.not_eq_true] at e
  rw [e] at ev
  exact b8.env t τ ev
end
end Gv
namespace Gv
open Go
set_option linter.unusedVariables false
set_option linter.unusedSimpArgs false
def nv {α:Type} [Inhabited α] (xs:List α) (lo n:Nat):List α:=xs.take lo ++ List.replicate n default ++ xs.drop (lo + n)
theorem K6 {α:Type} [ah α] {A W} {cs ds:List Value} {xs ys:List α} {lo:Nat} (h:gi A W cs xs) (cR:gi A W ds ys) (aq:lo + ys.length≤xs.length):
 gi A W (cs.take (lo * ah.size α) ++ ds ++ cs.drop (lo * ah.size α + ds.length)) (xs.take lo ++ ys ++ xs.drop (lo + ys.length)):=by
 have al:=h.1
 have hle:lo * ah.size α≤xs.length * ah.size α:=Nat.mul_le_mul_right _ (by omega)
 have t1:gi A W (cs.take (lo * ah.size α)) (xs.take lo):=by
  have e:(xs.take lo).length=lo:=by rw [List.length_take]; omega
  refine⟨by rw [List.length_take,e]; omega,fun i aj=> ?_⟩
  have hZ:i < lo:=by omega
  have:=h.2 i (by omega)
  have eJ:=wu (s:=ah.size α) hZ
  rw [List.drop_take,List.take_take,Nat.min_eq_left (by omega),List.getElem_take]
  exact this
 have t3:gi A W (cs.drop (lo * ah.size α + ds.length)) (xs.drop (lo + ys.length)):=by
  have e:lo * ah.size α + ds.length=(lo + ys.length) * ah.size α:=by rw [cR.1,Nat.add_mul]
  rw [e]
  refine⟨by rw [List.length_drop,List.length_drop,al,← Nat.sub_mul],fun i aj=> ?_⟩
  rw [List.length_drop] at aj
  have:=h.2 (lo + ys.length + i) (by omega)
  rw [List.drop_drop,← Nat.add_mul,List.getElem_drop]
  exact this
 exact r4 (r4 t1 cR) t3
section
variable {c:c8} {E:List (Nat × I)} {L:List aN} {ops:Array Oper} {Q:Exit→Act→World→Prop}
variable {d:Option Tmp} {ty:TypeId} {pos:String} {af:Array Edge} {g:Option (Nat × Bool)} {x y:Operand} {t t2:TypeId}
theorem ak.clear {rest:List Oper} {i e T cap lo n:Nat} {key:Option Nat} {α:Type} [ah α] [Inhabited α] {xs r:List α} (hu:c.P.underlying t=some (.slice e)) (ft:bA c.P e α) (gl:cF c.P e (default:α)) (eF:Nat.beq (ah.size α) 0=false)
 (an:bb c E L x (.eq (iw key lo n cap (ah.size α)))) (av:L[i]? =some ⟨key,.row T xs cap⟩) (aO:lo + n≤xs.length) (aQ:nv xs lo n=r)
 (k:ak c ops Q rest E (L.set i ⟨key,.row T r cap⟩)):ak c ops Q (⟨none,.call ⟨.builtin .clear,#[x],#[t]⟩,ty,pos,af,none⟩ :: rest) E L:=fun a W s=>by
 subst aQ
 have J:a.eval x=_:=an a W s
 have bo:=s.own _ (List.mem_of_getElem? av)
 have jY:∀ cp,L.set i ⟨key,cp⟩=L.set i ⟨key,cp⟩:=fun _=>rfl
 by_cases bP:n=0∨key=none
 ·have iB:nv xs lo n=xs:=by
   rcases bP with bP | bP
   ·subst bP; simp [nv]
   ·subst bP
    have:xs= []:=bo.1
    subst this
    have:n=0:=by simp at aO; omega
    subst this; simp [nv]
  have kK:(execOp a.eval ⟨none,.call ⟨.builtin .clear,#[x],#[t]⟩,ty,pos,af,none⟩).run c.P W= .ok (.value (.tuple #[])) W:=by
   rcases bP with bP | bP
   ·subst bP
    cases key <;> simp [execOp,resolve,invoke,builtin,Builtin.clear_,J,iw,run_underlying hu]
   ·subst bP
    simp [execOp,resolve,invoke,builtin,Builtin.clear_,J,iw,run_underlying hu]
  refine ib rfl (R:=fun v W'=>W'=W) (.mo kK rfl) fun v W' hw=> ?_
  subst hw
  rw [iB] at k
  have:L.set i ⟨key,.row T xs cap⟩=L:=by
   apply List.ext_getElem?
   intro j
   rw [List.getElem?_set]
   split
   ·rename_i e9; subst e9
    have:=(List.getElem?_eq_some_iff.1 av).1
    rw [if_pos this,av]
   ·rfl
  rw [this] at k
  exact k _ _ s
 ·have s4:0 < n:=by
   rcases Nat.eq_zero_or_pos n with h | h
   ·exact absurd (.inl h) bP
   ·exact h
  obtain⟨p,cs,rfl,eA,au,aT,bq,cx⟩:=s.rowAt av (by omega)
  obtain⟨gd,ec,dW,dh,Ie⟩:=gl.zero
  have DO:=Ie (aP L ++ c.b2) W
  have Zy:ec.cells.toList.length=ah.size α:=ah.len DO.2
  have ja:ah.size α≠0:=fun h=>by rw [h] at eF; cases eF
  have Am:=yF DO n ja
  have uV:ec.cells.size=ah.size α:=by simpa using Zy
  have Ig:Builtin.zeroCells ec.cells n=(Array.range (n * ah.size α)).map (ec.cells[· % ec.cells.size]!):=by rw [Builtin.zeroCells,uV]
  rw [← Ig] at Am
  generalize kz:(Builtin.zeroCells ec.cells n).toList=D at Am
  have aa7:D.length=n * ah.size α:=by rw [Am.1]; simp
  have g6:cap≠lo:=by omega
  have hle:(lo + n) * ah.size α≤cap * ah.size α:=Nat.mul_le_mul_right _ (by omega)
  rw [Nat.add_mul] at hle
  have kQ:=run_storeCells_at (P:=c.P) p (lo * ah.size α) _ D 0 cs W eA (by omega) Am.one
  have kK:(execOp a.eval ⟨none,.call ⟨.builtin .clear,#[x],#[t]⟩,ty,pos,af,none⟩).run c.P W= .ok (.value (.tuple #[])) (W.setRow p (fK cs.toList (lo * ah.size α) D).toArray):=by
   obtain⟨m,rfl⟩:∃ m,n=m + 1:=⟨n - 1,by omega⟩
   simp only [Nat.add_zero] at kQ
   simp [execOp,resolve,invoke,builtin,Builtin.clear_,J,iw,run_underlying hu,g6,zeroValue,typeInfo,run_program,dW,dh,kz,kQ,fK]
  refine ib rfl (R:=fun v W'=>W'=W.setRow p (fK cs.toList (lo * ah.size α) D).toArray) (.mo kK rfl) fun v W' hw=> ?_
  subst hw
  refine k _ _ (s.store av eA ?_)
  have jL:cs.toList.length=cap * ah.size α:=by simpa using au
  have hlen:(nv xs lo n).length=xs.length:=by simp [nv]; omega
  have lM:(cs.toList.take (xs.length * ah.size α)).length=xs.length * ah.size α:=by
   rw [List.length_take]
   have:xs.length * ah.size α≤cap * ah.size α:=Nat.mul_le_mul_right _ aT
   omega
  have YS:(lo + n) * ah.size α≤xs.length * ah.size α:=Nat.mul_le_mul_right _ aO
  rw [Nat.add_mul] at YS
  have aaT:xs.length * ah.size α≤cap * ah.size α:=Nat.mul_le_mul_right _ aT
  refine⟨_,rfl,?_,by rw [hlen]; exact aT,bq,?_⟩
  ·simp only [List.size_toArray,fK,List.length_append,List.length_take,List.length_drop]; omega
  ·rw [hlen,List.toList_toArray]
   have gT:=K6 (lo:=lo) cx Am (by simpa using aO)
   have e:(fK cs.toList (lo * ah.size α) D).take (xs.length * ah.size α)=(cs.toList.take (xs.length * ah.size α)).take (lo * ah.size α) ++ D ++ (cs.toList.take (xs.length * ah.size α)).drop (lo * ah.size α + D.length):=by
    have ay:(cs.toList.take (lo * ah.size α)).length=lo * ah.size α:=by rw [List.length_take]; omega
    have aS:(cs.toList.take (lo * ah.size α) ++ D).length=lo * ah.size α + D.length:=by rw [List.length_append,ay]
    rw [fK,List.take_append,aS,List.take_of_length_le (by omega),List.take_take,Nat.min_eq_left (by omega),List.drop_take]
   rw [e]
   simpa [nv] using gT
theorem bG.share {a:Act} {W:World} (s:bG c E L a W) {i fa p:Nat} {α:Type} [ah α] {z:α} (al:look E fa=some (.eq (.pointer (some ⟨p,0,none⟩)))) (av:L[i]? =some ⟨some p,.var z⟩):bG c ((fa,.ptr z) :: E) (L.set i ⟨none,.dead⟩) a W:=by
 have aq:=s.kill i
 refine { aq with env:=fun t τ ev=> ?_ }
 simp only [look] at ev
 by_cases e:Nat.beq fa t=true
 ·rw [e] at ev
  simp only [cond_true,Option.some.injEq] at ev
  subst ev
  have:=ep.1 e
  subst this
  obtain⟨v,J,ab⟩:=s.env fa _ al
  have lj:v=_:=ab
  subst lj
  obtain⟨o,eA,cs,T,rfl,aQ⟩:=s.own _ (List.mem_of_getElem? av)
  have hlen:cs.toList.length=ah.size α:=ah.len aQ
  refine⟨_,J,p,0,cs,T,(0,0),rfl,s.yK av,eA,by simp at hlen; omega,?_⟩
  rw [List.drop_zero,← hlen,List.take_length]
  have kJ:=vG (L:=L) (i:=i) (cp:= .dead)
  exact ah.mono (.drop fun k hm=>by
   rcases List.mem_append.1 hm with hm | hm
   ·exact List.mem_append.2 (.inl (kJ.subset hm))
   ·exact List.mem_append.2 (.inr hm)) aQ
 ·simp only [Bool.not_eq_true] at e
  rw [e] at ev
  exact aq.env t τ ev
theorem ak.share {l:List Oper} {p:Nat} {α:Type} [ah α] {z:α} (i fa:Nat) (al:look E fa=some (.eq (.pointer (some ⟨p,0,none⟩)))) (av:L[i]? =some ⟨some p,.var z⟩) (k:ak c ops Q l ((fa,.ptr z) :: E) (L.set i ⟨none,.dead⟩)):ak c ops Q l E L:=
 fun a W s=>k a W (s.share al av)
theorem ag.share {code:Code} {p:Nat} {α:Type} [ah α] {z:α} (i fa:Nat) (al:look E fa=some (.eq (.pointer (some ⟨p,0,none⟩)))) (av:L[i]? =some ⟨some p,.var z⟩) (k:ag c Q code ((fa,.ptr z) :: E) (L.set i ⟨none,.dead⟩)):ag c Q code E L:=
 fun a W s=>k a W (s.share al av)
theorem wm {α β:Type} [ah α] [ah β] {F:α→Option β} {f:FuncId} {xs:List Operand} {τs:List I} (eo:bH c.P f) (an:hO c E L xs τs) (h:∀ x r,F x=some r→bn c.P f (.of x :: τs) (.of r)):
 b3 c E L ⟨d,.makeFunc (.func f) #[] xs.toArray,ty,pos,af,g⟩ (.o9 c.P F):= .pure fun a W s=>by
 have cE:=an.holds a W s
 refine⟨.func (.func f) #[] (xs.map a.eval).toArray,by simp [execOp,Instr.makeFunc],f,_,_,rfl,eo,fun c0 W' e fL x r nW nX a3=> ?_⟩
 simpa using h x r nX c0 W' (nW :: xs.map a.eval) fL (.cons a3 (cE.mono e))
def I.Flat (τ:I):Prop:= ∀ A W c0 W' v,τ.holds A W v→τ.holds c0 W' v
theorem Ce {b:Bool} :(I.of b).Flat:=fun _ _ _ _ _ h=>h
theorem tG {b:Int} :(I.of b).Flat:=fun _ _ _ _ _ h=>h
theorem b3.Ya {o:Oper} {τ:I} {T cap:Nat} {key:Option Nat} {α:Type} [ah α] {xs:List α} (i s:Nat) (al:look E s=some (.eq (aZ key xs.length cap))) (av:L[i]? =some ⟨key,.row T xs cap⟩) (a7:τ.Flat)
 (h:b3 c ((s,.of xs) :: E) (L.set i ⟨none,.dead⟩) o τ):b3 c E L o τ:=fun a W st=>by
 have:=h a W (st.freeze al av)
 unfold gj at this ⊢
 exact Oper.wp_mono (fun gI W' ⟨v,J,ab,aE⟩=>⟨v,J,ab,a7 _ _ _ _ _ aE⟩) this
def I.OR {α:Type} (xs:List α):I where
 holds _ _ v:= ∃ b:Bool,v= .bool b∧ (b=true→xs= [])
 mono _ h:=h
theorem KG {P:Program} {e:TypeId} (W:World) (d:Nat) {t:TypeId} (a:Option Addr) (l cp:Nat) (h:P.underlying t=some (.slice e)):(Op.equalIn (d + 1) t (.slice a l cp) (.slice none 0 0)).run P W= .ok a.isNone W:=by
 cases a <;> simp [Op.equalIn,run_underlying h]
theorem GI {α:Type} [ah α] {xs:List α} {e:TypeId} (hu:c.P.underlying t=some (.slice e)) (an:bb c E L x (.of xs)):b3 c E L ⟨d,.binOp .eql t x (.const (.slice none 0 0)) t2,ty,pos,af,g⟩ (.OR xs):= .pure fun a W s=>by
 have aO:a.eval (.const (.slice none 0 0))= .slice none 0 0:=rfl
 rcases mj.1 (an a W s) with⟨J,rfl⟩ | ⟨b,off,cap,cur,T,hl,J,ab⟩
 ·exact⟨.bool true,by
   simp only [execOp,eqGuard,binOp,J,aO,Op.equal,Op.maxDepth]
   simp [KG W 9999 none 0 0 hu],true,rfl,fun _=>rfl⟩
 ·exact⟨.bool false,by
   simp only [execOp,eqGuard,binOp,J,aO,Op.equal,Op.maxDepth]
   simp [KG W 9999 (some ⟨b,off,none⟩) xs.length cap hu],false,rfl,fun h=>by cases h⟩
theorem ag.GJ {α:Type} {y z:Code} {xs:List α} (al:bb c E L x (.OR xs)) (cc:xs= []→ag c Q y E L) (a7:ag c Q z E L):ag c Q (.cond x y z) E L:=fun a W s=>by
 obtain⟨b,J,ab⟩:=al a W s
 exact wpIn_cond_split J (fun h=>cc (ab h) a W s) (fun _=>a7 a W s)
end
def zQ (n:Nat) (lo aj:Int):Option (Nat × Nat):=if 0≤lo∧lo≤aj∧aj≤n then some (lo.toNat,aj.toNat) else none
theorem vX {n:Nat} {lo aj:Int} {y:Nat × Nat} (h:zQ n lo aj=some y):lo=y.1∧aj=y.2∧y.1≤y.2∧y.2≤n:=by
 unfold zQ at h
 split at h
 ·rename_i ao
  simp only [Option.some.injEq] at h
  subst h
  simp only
  omega
 ·cases h
end Gv
namespace Gv
open Go
set_option linter.unusedVariables false
set_option linter.unusedSimpArgs false
def c1 (c:c8) (ops:Array Oper) (Q:Exit→Act→World→Prop) (f:Nat) (bl:Array Bool) (E:List (Nat × I)) (L:List aN):Prop:=
 ∀ a W,bG c E L a W→wpAnyIn c.F 9 c.P .any ops Q f bl a W
def px (K:Act→World→Prop) (Q:Exit→Act→World→Prop):Exit→Act→World→Prop
 | .normal,a,W=>K a W
 | x,a,W=>Q x a W
section
variable {c:c8} {E:List (Nat × I)} {L:List aN} {ops:Array Oper} {Q:Exit→Act→World→Prop}
theorem px.out {K:Act→World→Prop} (h:LetsOut (px K Q)):LetsOut Q:=h
theorem Oper.Tb {F:Fence} {n:Nat} {P:Program} {o:Oper} {a:Act} {K:Act→World→Prop} {r:Result Next} (h:o.uponIn F n P a K (px K Q) r):o.uponIn F n P a K Q r:=by
 cases r with
 | ok m oJ=>
   cases m <;> simp only [Oper.uponIn] at h ⊢ <;>
    first
     | exact h
     | exact⟨h.1,CallsIn.mono h.2 (fun e sW he=>by cases e <;> exact he)⟩
     | exact⟨h.1,RoundIn.mono h.2 (fun e sW he=>by cases e <;> exact he)⟩
 | halt x oJ=>cases x <;> simp only [Oper.uponIn] at h ⊢ <;> exact h
theorem BZ {i:Nat} {o:Oper} {K:Act→World→Prop} {a:Act} {W:World} (aj:ops[i]? =some o) (h:c.p6 ops (px K Q) [o] a W):wpOpIn c.F 9 c.P ops Q i K a W:=by
 unfold wpOpIn
 simp only [aj]
 simp only [c8.p6,wpListIn] at h
 split
 ·rename_i hw
  rw [if_pos hw] at h
  exact⟨h.1,Oper.Tb h.2⟩
 ·rename_i hw
  rw [if_neg hw] at h
  exact h
def zs (c:c8) (ops:Array Oper) (Q:Exit→Act→World→Prop) (f:Nat) (bl:Array Bool) (E:List (Nat × I)) (L:List aN):List Nat→Prop
 | []=>True
 | i :: r=>(∃ o,ops[i]? =some o∧ak c ops (px (wpAnyIn c.F 9 c.P .any ops Q f (bl.setIfInBounds i true)) Q) [o] E L)∧zs c ops Q f bl E L r
theorem zs.get {f:Nat} {bl:Array Bool} :∀ {xl:List Nat},zs c ops Q f bl E L xl→ ∀ i∈xl,∃ o,ops[i]? =some o∧ak c ops (px (wpAnyIn c.F 9 c.P .any ops Q f (bl.setIfInBounds i true)) Q) [o] E L
 | _ :: _,h,i,aj=>by
   rcases List.mem_cons.1 aj with rfl | aj
   ·exact h.1
   ·exact zs.get h.2 i aj
theorem c1.step {f:Nat} {bl:Array Bool} (xl:List Nat) (aQ:Region.ready .any ops bl=xl) (dk:xl.isEmpty=false) (h:zs c ops Q f bl E L xl):c1 c ops Q (f + 1) bl E L:=fun a W s=>
 ⟨fun bP=>(by rw [← aQ,bP] at dk; exact absurd dk (by simp)),fun i aj=>(by
  rw [aQ] at aj
  obtain⟨o,J,ab⟩:=h.get i aj
  exact BZ J (ab a W s))⟩
theorem c1.le {f:Nat} {bl:Array Bool} {E':List (Nat × I)} (h:hn E E') (k:c1 c ops Q f bl E' L):c1 c ops Q f bl E L:=fun a W s=>k a W (s.less h.look)
theorem ae.any {f:Nat} {bl yW:Array Bool} (al:bl=yW) (k:c1 c ops Q f yW E L):ae c (px (wpAnyIn c.F 9 c.P .any ops Q f bl) Q) .normal E L:=fun a W s=>by
 subst al
 exact k a W s
theorem c1.cut {γ:Type} (xm:Nat) (yW:Array Bool) (E':γ→List (Nat × I)) (aC:γ→List aN) {f:Nat} {bl:Array Bool} (J:∀ g,c1 c ops Q xm yW (E' g) (aC g))
 (ab:(∀ g,c1 c ops Q xm yW (E' g) (aC g))→c1 c ops Q f bl E L):c1 c ops Q f bl E L:=ab J
theorem ag.WG {pf:Nat} {l:List Oper} (hm:c.P.follows .mixedOrders=true) (n:Nat) (ls:Array Bool) (aO:l.length=n) (Ih:Array.replicate n false=ls) (h:c1 c l.toArray Q n ls E L):ag c Q (.region pf l.toArray true) E L:=fun a W s=>by
 subst aO Ih
 refine wpIn_region_any hm ?_
 have:=h a W.drew (s.world (Fr.drew W))
 simpa using this
theorem ae.perm {x:Exit} {aC:List aN} (h:L.Perm aC) (k:ae c Q x E aC):ae c Q x E L:=fun a W s=>k a W (s.perm h)
end
end Gv
namespace Gv
open Go
set_option linter.unusedVariables false
set_option linter.unusedSimpArgs false
section
variable {c:c8} {E:List (Nat × I)} {L:List aN} {ops:Array Oper} {Q:Exit→Act→World→Prop}
variable {d:Option Tmp} {ty:TypeId} {pos:String} {af:Array Edge} {g:Option (Nat × Bool)} {x y:Operand} {t t2:TypeId}
theorem ak.pV {α:Type} [ah α] {rest:List Oper} {bc e n:Nat} {z:α} {r:List α} {bs:List (Nat × Operand)} (hu:c.P.underlying t=some (.slice e)) (ft:bA c.P e α) (gl:cF c.P e z) (hs:Nat.beq (ah.size α) 0=false) (aO:Nat.ble (n * ah.size α) 16777216=true)
 (a7:mT c E L (List.replicate n z) bs r) (jC:Nat.blt bc c.n=true) (k:∀ p,ak c ops Q rest ((bc,.eq (aZ p r.length n)) :: E) (⟨p,.row e r n⟩ :: L)):
 ak c ops Q (⟨some bc,.buildSlice t n bs.toArray,ty,pos,af,none⟩ :: rest) E L:=fun a W s=>by
 obtain⟨gd,ec,dW,dh,qa⟩:=gl.zero
 have mv:gd.size=ah.size α:=by
  obtain⟨i2,J,ab⟩:=ft.info
  rw [dW] at J; cases J; exact ab
 have fe:ah.size α≠0:=fun h=>by rw [h] at hs; cases hs
 have pj:=yF (qa (aP L ++ c.b2) W) n fe
 obtain⟨dK,aE,aW,aX⟩:=a7.run a W s _ pj
 have hlen:r.length=n:=by rw [aX]; simp
 have hm:(bs.toArray.map fun(x:Nat × Operand)=>(x.1,a.eval x.2)).toList=bs.map fun(i,x)=>(i,a.eval x):=by simp
 have YN:=Nat.le_of_ble_eq_true aO
 refine ib rfl (R:=fun v W'=>v= .slice (some ⟨W.heap.size,0,none⟩) n n∧W'=W.alloc (.cells dK e)) (.mo (v:= .slice (some ⟨W.heap.size,0,none⟩) n n) (W':=W.alloc (.cells dK e)) ?_ ⟨rfl,rfl⟩) fun v W' ⟨J,ab⟩=> ?_
 ·simp only [execOp,Instr.buildSlice,Sem.run_bind,run_underlying hu,Result.andThen_ok,Go.sizeOf,typeInfo,run_program,dW,Sem.run_pure,mv]
  rw [if_neg (by omega)]
  try simp only [Sem.run_pure,Result.andThen_ok,Sem.run_bind]
  by_cases bP:n * ah.size α=0
  ·have s4:n=0:=by
    rcases Nat.mul_eq_zero.1 bP with h | h
    ·exact h
    ·exact absurd h fe
   subst s4
   simp only [Nat.zero_mul,if_true,Sem.run_pure,Result.andThen_ok]
   try simp only [Nat.zero_mul] at aE
   have lS:((Array.range 0).map (fun x=>(#[]:Array Value)[x % (#[]:Array Value).size]!))=((Array.range 0).map (ec.cells[· % ec.cells.size]!)):=by simp
   simp only [pure_bind]
   rw [lS,hm,aE]
   simp [newRow]
  ·simp only [bP,if_false,Sem.run_bind,zeroValue,typeInfo,run_program,Result.andThen_ok,dW,dh,Sem.run_pure]
   rw [hm,aE]
   simp [newRow]
 ·subst J ab
  have zN:n≤maxLen:=by
   have:n * 1≤n * ah.size α:=Nat.mul_le_mul_left _ (by omega)
   have:maxLen=9223372036854775807:=rfl
   omega
  have eF:dK.size=n * ah.size α:=by have:=aW.1; rw [hlen] at this; simpa using this
  have b8:=s.alloc (o:= .cells dK e) (cp:= .row e r n) ⟨dK,rfl,eF,by omega,zN,by
   have bk:=aW.1
   rw [← bk,List.take_length]
   exact aW⟩
  refine k (some W.heap.size) _ _ (b8.put (τ:= .eq (aZ (some W.heap.size) r.length n)) (by simpa using jC) ?_)
  show _=_
  rw [hlen]; rfl
theorem ak.gY {l:List Oper} {key:Option Nat} {n m cap:Nat} (fa:Nat) (al:look E fa=some (.eq (aZ key n cap))) (aO:n=m) (k:ak c ops Q l ((fa,.eq (aZ key m cap)) :: E) L):ak c ops Q l E L:=fun a W s=>by
 subst aO
 refine k a W (s.less fun t τ h=> ?_)
 simp only [look] at h
 by_cases e:Nat.beq fa t=true
 ·rw [e] at h
  simp only [cond_true] at h
  have:=ep.1 e
  subst this
  exact⟨τ,by rw [al,h],fun _ _ _ h=>h⟩
 ·simp only [Bool.not_eq_true] at e
  rw [e] at h
  exact⟨τ,h,fun _ _ _ h=>h⟩
end
theorem ir {α:Type} {xs r:List α} {k:Nat} {v:α} (h:et xs k v=r):xs.length=r.length:=by rw [← h]; simp [et]
theorem KB {α:Type} [Inhabited α] {xs r:List α} {lo n:Nat} (aO:lo + n≤xs.length) (h:nv xs lo n=r):xs.length=r.length:=by rw [← h]; simp [nv]; omega
theorem Fa {α:Type} {b:Nat} {r:List α} (h:((fP b [] ([]:List α)).bind fun y=>some y)=some r):r= []:=by
 obtain⟨y,J,ab⟩:=bind_some h
 obtain⟨_,_,aE⟩:=K3 J
 rw [aE] at ab
 exact(aG ab).symm
end Gv
