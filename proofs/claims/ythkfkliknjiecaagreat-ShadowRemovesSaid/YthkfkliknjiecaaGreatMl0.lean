/-
  The library of the decompiler, as far as it is needed here. Conditions: none.
-/
import Derived.WalkKit
import Derived.StillTail
import Derived.OwnWalkIn
import Derived.RangeFuncNested
import Derived.RangeFuncLeaves
import Derived.RangeFuncCalls
import Derived.ChangeSame
import Derived.OpenShut
import Derived.Carry
import Derived.DataReads
namespace Gv
open Go
theorem Bh (w:World) (o:Obj) (i:Nat) (h:i<w.heap.size):(w.alloc o).heap[i]? =w.heap[i]? :=by
 show(w.heap.push o)[i]? =w.heap[i]?
 rw [Array.getElem?_push,if_neg (Nat.ne_of_lt h)]
theorem IP (w:World) (o:Obj):(w.alloc o).heap[w.heap.size]? =some o:=by
 show(w.heap.push o)[w.heap.size]? =some o
 simp
structure Fr (X:List Nat) (W W':World):Prop where
 os:W'.os=W.os
 tape:W'.tape=W.tape
 output:W'.output=W.output
 size:W.heap.size≤W'.heap.size
 block:∀ k,k<W.heap.size→k ∉ X→W'.heap[k]? =W.heap[k]?
theorem Fr.refl (X:List Nat) (W:World):Fr X W W:=⟨rfl,rfl,rfl,Nat.le_refl _,fun _ _ _=>rfl⟩
theorem Fr.trans {X:List Nat} {A B C:World} (h:Fr X A B) (k:Fr X B C):Fr X A C:=
 ⟨k.os.trans h.os,k.tape.trans h.tape,k.output.trans h.output,Nat.le_trans h.size k.size,
   fun i ak aq=>(k.block i (Nat.lt_of_lt_of_le ak h.size) aq).trans (h.block i ak aq)⟩
theorem Fr.weaken {X Y:List Nat} {A B:World} (h:Fr X A B) (s:∀ k∈X,k∈Y):Fr Y A B:=
 ⟨h.os,h.tape,h.output,h.size,fun i ak aq=>h.block i ak fun hm=>aq (s _ hm)⟩
theorem Fr.nil {X:List Nat} {A B:World} (h:Fr [] A B):Fr X A B:=h.weaken (by simp)
theorem Fr.only {X Y:List Nat} {A B:World} (h:Fr X A B) (s:∀ k∈X,k<A.heap.size→k∈Y):Fr Y A B:=
 ⟨h.os,h.tape,h.output,h.size,fun i ak aq=>h.block i ak fun hm=>aq (s _ hm ak)⟩
theorem Fr.alloc {X:List Nat} (W:World) (o:Obj):Fr X W (W.alloc o):=
 ⟨rfl,rfl,rfl,by simp,fun k aw _=>Bh W o k aw⟩
theorem Fr.drew {X:List Nat} (W:World):Fr X W W.drew:=⟨rfl,rfl,rfl,Nat.le_refl _,fun _ _ _=>rfl⟩
theorem Fr.setRow {X:List Nat} (W:World) (g:Nat) (cs:Array Value) (h:g∈X):Fr X W (W.setRow g cs):=
 ⟨rfl,rfl,rfl,by simp,fun k _ aq=>setRow_other W g k cs (fun e=>aq (e ▸ h))⟩
structure Ext (A:List Nat) (W:World) (dh:List Nat) (W':World):Prop where
 size:W.heap.size≤W'.heap.size
 block:∀ k,k<W.heap.size→k ∉ A→W'.heap[k]? =W.heap[k]?
 new:∀ k∈dh,k<W.heap.size→k∈A
theorem Ext.refl (A:List Nat) (W:World):Ext A W A W:=⟨Nat.le_refl _,fun _ _ _=>rfl,fun _ h _=>h⟩
theorem Ext.trans {A B C:List Nat} {U V W:World} (h:Ext A U B V) (k:Ext B V C W):Ext A U C W:=
 ⟨Nat.le_trans h.size k.size,
  fun i ak bp=>(k.block i (Nat.lt_of_lt_of_le ak h.size) (fun hb=>bp (h.new i hb ak))).trans (h.block i ak bp),
  fun i al ak=>h.new i (k.new i al (Nat.lt_of_lt_of_le ak h.size)) ak⟩
theorem Ext.ZW {A X:List Nat} {W W':World} (h:Fr X W W') (s:∀ k∈X,k∈A):Ext A W A W':=
 ⟨h.size,fun k aw bp=>h.block k aw fun aq=>bp (s k aq),fun _ h _=>h⟩
theorem Ext.dQ {A:List Nat} {W W':World} (h:Fr [] W W'):Ext A W A W':= .ZW h (by simp)
theorem Ext.drop {A dh:List Nat} {W:World} (s:∀ k∈dh,k∈A):Ext A W dh W:=⟨Nat.le_refl _,fun _ _ _=>rfl,fun k h _=>s k h⟩
structure I where
 holds:List Nat→World→Value→Prop
 mono:∀ {A W dh W' v},Ext A W dh W'→holds A W v→holds dh W' v
class aj (α:Type) where
 size:Nat
 agg:Bool
 rep:List Nat→World→List Value→α→Prop
 len:∀ {A W cs x},rep A W cs x→cs.length=size
 one:∀ {A W cs x},rep A W cs x→ ∀ v∈cs,v.oneCell'=true
 flat:agg=false→size=1
 mono:∀ {A W dh W' cs x},Ext A W dh W'→rep A W cs x→rep dh W' cs x
def shaped (b:Bool) (v:Value):Prop:=if b=true then ∃ cs,v= .agg cs else v.oneCell'=true
theorem oP {v:Value} (h:v.oneCell'=true):v.cells= #[v]:=by cases v <;> first | rfl | simp [Value.oneCell'] at h
def I.of {α:Type} [aj α] (x:α):I where
 holds A W v:=shaped (aj.agg α) v∧aj.rep A W v.cells.toList x
 mono e h:=⟨h.1,aj.mono e h.2⟩
def I.eq (u:Value):I where
 holds _ _ v:=v=u
 mono _ h:=h
def I.cond (c:Prop) (τ:I):I where
 holds A W v:=(c→τ.holds A W v)∧ (¬ c→v=undef)
 mono e h:=⟨fun al=>τ.mono e (h.1 al),h.2⟩
def I.any:I where
 holds _ _ _:=True
 mono _ h:=h
inductive g2 (A:List Nat) (W:World):List I→List Value→Prop
 | nil:g2 A W [] []
 | cons {τ v τs vs} :τ.holds A W v→g2 A W τs vs→g2 A W (τ::τs) (v::vs)
theorem g2.mono {A W dh W'} (e:Ext A W dh W'):∀ {τs vs},g2 A W τs vs→g2 dh W' τs vs
 | _,_,.nil=>.nil
 | _,_,.cons h r=>.cons (I.mono _ e h) (r.mono e)
theorem g2.length {A W} :∀ {τs vs},g2 A W τs vs→vs.length=τs.length
 | _,_,.nil=>rfl
 | _,_,.cons _ r=>by simp [r.length]
def I.ep (τs:List I):I where
 holds A W v:= ∃ vs:Array Value,v= .tuple vs∧g2 A W τs vs.toList
 mono e h:=let⟨vs,a2,cE⟩:=h; ⟨vs,a2,cE.mono e⟩
def I.ptr {α:Type} [aj α] (x:α):I where
 holds A W v:= ∃ b off cur T hA,v= .pointer (some ⟨b,off,none⟩)∧b ∉ A∧W.heap[b]? =some (.cells cur T hA)∧off+aj.size α≤cur.size∧aj.rep A W ((cur.toList.drop off).take (aj.size α)) x
 mono e h:=by
  obtain⟨b,off,cur,T,hA,rfl,hb,cE,hs,aQ⟩:=h
  have cD:b<_:=(Array.getElem?_eq_some_iff.1 cE).1
  exact⟨b,off,cur,T,hA,rfl,fun hm=>hb (e.new b hm cD),by rw [e.block b cD hb]; exact cE,hs,aj.mono e aQ⟩
structure dZ where
 holds:List Nat→World→Obj→Prop
 m4:Prop
 mono:∀ {A W dh W' o},Ext A W dh W'→holds A W o→holds dh W' o
def dZ.var {α:Type} [aj α] (x:α):dZ where
 holds A W o:= ∃ cs T,o= .cells cs T (0,0)∧aj.rep A W cs.toList x
 m4:=False
 mono e h:=let⟨cs,T,bm,aQ⟩:=h; ⟨cs,T,bm,aj.mono e aQ⟩
def g4 {α:Type} [aj α] (A:List Nat) (W:World) (cs:List Value) (xs:List α):Prop:=
 cs.length=xs.length * aj.size α∧ ∀ i (h:i<xs.length),aj.rep A W ((cs.drop (i * aj.size α)).take (aj.size α)) xs[i]
theorem g4.mono {α:Type} [aj α] {A W dh W'} {cs:List Value} {xs:List α} (e:Ext A W dh W') (h:g4 A W cs xs):g4 dh W' cs xs:=
 ⟨h.1,fun i ak=>aj.mono e (h.2 i ak)⟩
def dZ.row {α:Type} [aj α] (T:TypeId) (xs:List α) (cap:Nat):dZ where
 holds A W o:= ∃ cs,o= .cells cs T (0,0)∧cs.size=cap * aj.size α∧xs.length≤cap∧cap≤maxLen∧g4 A W (cs.toList.take (xs.length * aj.size α)) xs
 m4:=xs= []∧cap=0
 mono e h:=let⟨cs,aa,ad,aF,aX,a0⟩:=h; ⟨cs,aa,ad,aF,aX,a0.mono e⟩
def dZ.dead:dZ where
 holds _ _ _:=True
 m4:=True
 mono _ h:=h
structure aT where
 key:Option Nat
 cp:dZ
def aT.ok (A:List Nat) (W:World) (e:aT):Prop:=
 match e.key with
 | some p=> ∃ o,W.heap[p]? =some o∧e.cp.holds A W o
 | none=>e.cp.m4
def aV:List aT→List Nat
 | []=>[]
 | e::r=>match e.key with
   | some p=>p::aV r
   | none=>aV r
theorem lB {L:List aT} {k:Nat} :k∈aV L↔ ∃ e∈L,e.key=some k:=by
 induction L with
 | nil=>simp [aV]
 | cons e r bR=>
   cases aw:e.key with
   | none=>simp [aV,aw,bR]
   | some p=>simp [aV,aw,bR,eq_comm]
structure dp where
 P:Program
 n:Nat
 jr:World
 X:List Nat
 ca:List Nat
 rd:Option Nat
 ds:List Nat
def FP (D:Nat):Deferred:= { target:= .collected D,args:= #[] }
abbrev dp.F (c:dp):Fence:= { fn:=fun _=>True,depth:=none,alive:=false,round:=c.rd }
abbrev dp.wp (c:dp) (y:Code) (Q:Exit→Act→World→Prop):Act→World→Prop:=y.wpIn c.F 9 c.P Q
abbrev dp.qI (c:dp) (ops:Array Oper) (Q:Exit→Act→World→Prop):List Oper→Act→World→Prop:=wpListIn c.F 9 c.P ops Q
def look:List (Nat×I)→Nat→Option I
 | [],_=>none
 | (s,τ)::r,t=>bif Nat.beq s t then some τ else look r t
structure bV (c:dp) (E:List (Nat×I)) (L:List aT) (a:Act) (W:World):Prop where
 defers:a.defers=c.ds.map FP
 size:a.tmps.size=c.n
 env:∀ t τ,look E t=some τ→ ∃ v,a.tmps[t]? =some v∧τ.holds (aV L++c.ca) W v
 dQ:Fr c.X c.jr W
 own:∀ e∈L,e.ok (aV L++c.ca) W
 nodup:(aV L).Nodup
 lt:∀ k∈aV L,k<W.heap.size
 gl:∀ k∈aV L,k<c.jr.heap.size→k∈c.X
 fg:∀ k∈c.ca,k<W.heap.size∧k ∉ aV L
theorem eD {s t:Nat} :Nat.beq s t=true↔s=t:=by
 constructor
 ·exact Nat.eq_of_beq_eq_true
 rintro rfl; exact Nat.beq_refl s
theorem bV.Fc {c E L a W} (h:bV c E L a W):∀ k∈aV L++c.ca,k<W.heap.size:=by
 intro k aw
 rcases List.mem_append.1 aw with aw | aw
 ·exact h.lt k aw
 exact(h.fg k aw).1
theorem bV.world {c E L a W W'} (h:bV c E L a W) (f:Fr [] W W'):bV c E L a W' where
 defers:=h.defers
 size:=h.size
 env t τ ao:=let⟨v,aa,ad⟩:=h.env t τ ao; ⟨v,aa,τ.mono (.dQ f) ad⟩
 dQ:=h.dQ.trans f.nil
 own e he:=by
  have aa:=h.own e he
  unfold aT.ok at *
  split at aa
  ·rename_i p hp
   obtain⟨o,bm,cE⟩:=aa
   have cD:=h.lt p (lB.2 ⟨e,he,hp⟩)
   exact⟨o,by rw [f.block p cD (by simp)]; exact bm,dZ.mono _ (.dQ f) cE⟩
  exact aa
 nodup:=h.nodup
 lt k aw:=Nat.lt_of_lt_of_le (h.lt k aw) f.size
 gl:=h.gl
 fg k aw:=⟨Nat.lt_of_lt_of_le (h.fg k aw).1 f.size,(h.fg k aw).2⟩
theorem bV.put {c E L a W} (h:bV c E L a W) {d:Nat} (hd:d<c.n) {v:Value} {τ:I} (a2:τ.holds (aV L++c.ca) W v):
 bV c ((d,τ)::E) L (a.put (some d) v) W where
 defers:=h.defers
 size:=by simp [Act.put,h.size]
 env t ng ao:=by
  simp only [look] at ao
  simp only [Act.put]
  by_cases e:Nat.beq d t=true
  ·rw [e] at ao
   simp only [cond_true,Option.some.injEq] at ao
   subst ao
   have:=eD.1 e
   subst this
   exact⟨v,by simp [h.size,hd],a2⟩
  simp only [Bool.not_eq_true] at e
  rw [e] at ao
  simp only [cond_false] at ao
  obtain⟨u,aa,ad⟩:=h.env t ng ao
  have dm:d≠t:=fun h=>by rw [eD.2 h] at e; cases e
  exact⟨u,by rw [Array.getElem?_setIfInBounds_ne dm]; exact aa,ad⟩
 dQ:=h.dQ
 own:=h.own
 nodup:=h.nodup
 lt:=h.lt
 gl:=h.gl
 fg:=h.fg
theorem bV.vL {c E L a W} (s:bV c E L a W) (h:c.ds= []):a.defers= []:=by rw [s.defers,h]; rfl
theorem bV.less {c E E' L a W} (h:bV c E L a W) (aG:∀ t τ,look E' t=some τ→ ∃ σ,look E t=some σ∧ ∀ A W v,σ.holds A W v→τ.holds A W v):bV c E' L a W:=
 {h with env:=fun t τ ao=>let⟨_,aa,ad⟩:=aG t τ ao; let⟨v,aF,aX⟩:=h.env t _ aa; ⟨v,aF,ad _ _ _ aX⟩ }
theorem bV.alloc {c E L a W} (h:bV c E L a W) {o:Obj} {cp:dZ} (al:cp.holds (aV L++c.ca) W o):
 bV c E (⟨some W.heap.size,cp⟩::L) a (W.alloc o):=by
 have wQ:W.heap.size ∉ aV L:=fun hm=>Nat.lt_irrefl _ (h.lt _ hm)
 have hP:Ext (aV L++c.ca) W (aV (⟨some W.heap.size,cp⟩::L)++c.ca) (W.alloc o):=
  ⟨by simp,fun k aw _=>Bh W o k aw,fun k aw cD=>by
   simp only [aV,List.cons_append,List.mem_cons] at aw
   rcases aw with rfl | aw
   ·exact absurd cD (Nat.lt_irrefl _)
   exact aw⟩
 exact
 {defers:=h.defers
  size:=h.size
  env:=fun t τ ao=>let⟨v,aa,ad⟩:=h.env t τ ao; ⟨v,aa,τ.mono hP ad⟩
  dQ:=h.dQ.trans (Fr.alloc W o)
  own:=fun e he=>by
   rcases List.mem_cons.1 he with rfl | he
   ·exact⟨o,IP W o,cp.mono hP al⟩
   have aa:=h.own e he
   unfold aT.ok at *
   split at aa
   ·rename_i p hp
    obtain⟨o',bm,cE⟩:=aa
    exact⟨o',by rw [Bh W o p (h.lt p (lB.2 ⟨e,he,hp⟩))]; exact bm,dZ.mono _ hP cE⟩
   exact aa
  nodup:=by simp only [aV]; exact List.nodup_cons.2 ⟨wQ,h.nodup⟩
  lt:=fun k aw=>by
   simp only [aV,List.mem_cons] at aw
   rw [World.size_alloc]
   rcases aw with rfl | aw
   ·omega
   have:=h.lt k aw; omega
  gl:=fun k aw cD=>by
   simp only [aV,List.mem_cons] at aw
   rcases aw with rfl | aw
   ·have:=h.dQ.size; omega
   exact h.gl k aw cD
  fg:=fun k aw=>by
   obtain⟨aa,ad⟩:=h.fg k aw
   refine⟨by rw [World.size_alloc]; omega,fun hm=>?_⟩
   simp only [aV,List.mem_cons] at hm
   rcases hm with rfl | hm
   ·omega
   exact ad hm }
theorem bV.sub {c E L ax a W} (h:bV c E L a W) (ar:∀ e∈ax,e∈L) (aR:(aV ax).Nodup):bV c E ax a W:=by
 have aw:∀ k∈aV ax,k∈aV L:=fun k aw=>by
  obtain⟨e,he,ad⟩:=lB.1 aw
  exact lB.2 ⟨e,ar e he,ad⟩
 have hP:Ext (aV L++c.ca) W (aV ax++c.ca) W:= .drop fun k hm=>by
  rcases List.mem_append.1 hm with hm | hm
  ·exact List.mem_append.2 (.inl (aw k hm))
  exact List.mem_append.2 (.inr hm)
 exact
 {defers:=h.defers
  size:=h.size
  env:=fun t τ ao=>let⟨v,aa,ad⟩:=h.env t τ ao; ⟨v,aa,τ.mono hP ad⟩
  dQ:=h.dQ
  own:=fun e he=>by
   have aa:=h.own e (ar e he)
   unfold aT.ok at *
   split at aa
   ·obtain⟨o',bm,cE⟩:=aa
    exact⟨o',bm,dZ.mono _ hP cE⟩
   exact aa
  nodup:=aR
  lt:=fun k hm=>h.lt k (aw k hm)
  gl:=fun k hm=>h.gl k (aw k hm)
  fg:=fun k hm=>⟨(h.fg k hm).1,fun ad=>(h.fg k hm).2 (aw k ad)⟩ }
theorem fv (L R:List aT):aV (L++R)=aV L++aV R:=by
 induction L with
 | nil=>rfl
 | cons e r bR=>cases aw:e.key <;> simp [aV,aw,bR]
theorem yq {L:List aT} {i:Nat} {e:aT} {cp:dZ} (ak:L[i]? =some e):aV (L.set i ⟨e.key,cp⟩)=aV L:=by
 induction L generalizing i with
 | nil=>simp at ak
 | cons x r bR=>
   cases i with
   | zero=>simp only [List.getElem?_cons_zero,Option.some.injEq] at ak; subst ak; simp [aV]
   | succ i=>simp only [List.getElem?_cons_succ] at ak; simp [aV,bR ak]
theorem IQ {L:List aT} (aR:(aV L).Nodup) {i j:Nat} {e f:aT} {p:Nat} (ak:L[i]? =some e) (aE:L[j]? =some f) (he:e.key=some p) (a7:f.key=some p):i=j:=by
 induction L generalizing i j with
 | nil=>simp at ak
 | cons x r bR=>
   have aQ:(aV r).Nodup:=by
    cases aq:x.key with
    | none=>simpa [aV,aq] using aR
    | some q=>simp only [aV,aq] at aR; exact(List.nodup_cons.1 aR).2
   have qu:∀ q,x.key=some q→q ∉ aV r:=fun q aq=>by simp only [aV,aq] at aR; exact(List.nodup_cons.1 aR).1
   cases i with
   | zero=>
     simp only [List.getElem?_cons_zero,Option.some.injEq] at ak
     subst ak
     cases j with
     | zero=>rfl
     | succ j=>
       simp only [List.getElem?_cons_succ] at aE
       exact absurd (lB.2 ⟨f,List.mem_of_getElem? aE,a7⟩) (qu p he)
   | succ i=>
     simp only [List.getElem?_cons_succ] at ak
     cases j with
     | zero=>
       simp only [List.getElem?_cons_zero,Option.some.injEq] at aE
       subst aE
       exact absurd (lB.2 ⟨e,List.mem_of_getElem? ak,he⟩) (qu p a7)
     | succ j=>
       simp only [List.getElem?_cons_succ] at aE
       rw [bR aQ ak aE]
theorem bV.store {c E L a W} (h:bV c E L a W) {i p:Nat} {cp cp':dZ} (ak:L[i]? =some ⟨some p,cp⟩) {cs eh:Array Value} {T:TypeId}
 (bm:W.heap[p]? =some (.cells cs T (0,0))) (al:cp'.holds (aV L++c.ca) W (.cells eh T (0,0))):
 bV c E (L.set i ⟨some p,cp'⟩) a (W.setRow p eh):=by
 have hQ:aV (L.set i ⟨some p,cp'⟩)=aV L:=yq (cp:=cp') ak
 have hp:p∈aV L:=lB.2 ⟨_,List.mem_of_getElem? ak,rfl⟩
 have hP:Ext (aV L++c.ca) W (aV L++c.ca) (W.setRow p eh):=
  ⟨by simp,fun k _ bp=>setRow_other W p k eh (fun e=>bp (e ▸ List.mem_append.2 (.inl hp))),fun _ h _=>h⟩
 exact
 {defers:=h.defers
  size:=h.size
  env:=fun t τ ao=>by rw [hQ]; exact let⟨v,aa,ad⟩:=h.env t τ ao; ⟨v,aa,τ.mono hP ad⟩
  dQ:=⟨h.dQ.os,h.dQ.tape,h.dQ.output,by simpa using h.dQ.size,fun k aw aq=>by
   rw [setRow_other W p k eh (fun e=>aq (e ▸ h.gl p hp (e ▸ aw)))]
   exact h.dQ.block k aw aq⟩
  own:=fun e he=>by
   rw [hQ]
   obtain⟨j,aE⟩:=List.mem_iff_getElem?.1 he
   rw [List.getElem?_set] at aE
   split at aE
   ·rename_i hR
    subst hR
    split at aE
    ·simp only [Option.some.injEq] at aE
     subst aE
     exact⟨_,setRow_heap W p cs eh T (0,0) bm,cp'.mono hP al⟩
    cases aE
   rename_i hR
   have aa:=h.own e (List.mem_of_getElem? aE)
   unfold aT.ok at *
   split at aa
   ·rename_i q hq
    obtain⟨o',tg,cE⟩:=aa
    have dm:q≠p:=fun e'=>hR (IQ h.nodup ak aE rfl (e' ▸ hq))
    exact⟨o',by rw [setRow_other W p q eh dm]; exact tg,dZ.mono _ hP cE⟩
   exact aa
  nodup:=by rw [hQ]; exact h.nodup
  lt:=by rw [hQ]; simpa using h.lt
  gl:=by rw [hQ]; exact h.gl
  fg:=by rw [hQ]; simpa using h.fg }
abbrev aj.scalar {α:Type} (val:α→Value) (h:∀ x,(val x).oneCell'=true):aj α where
 size:=1
 agg:=false
 rep _ _ cs x:=cs= [val x]
 len h:=by rw [h]; rfl
 one aQ:=by subst aQ; intro v a2; rw [List.mem_singleton.1 a2]; exact h _
 flat _:=rfl
 mono _ h:=h
instance:aj Bool:= .scalar Value.bool fun _=>rfl
instance:aj Int:= .scalar (Value.int .i64) fun _=>rfl
instance:aj (BitVec 64):= .scalar (fun x=>Value.int .u64 (x.toNat:Int)) fun _=>rfl
instance:aj (BitVec 32):= .scalar (fun x=>Value.int .u32 (x.toNat:Int)) fun _=>rfl
instance:aj (BitVec 16):= .scalar (fun x=>Value.int .u16 (x.toNat:Int)) fun _=>rfl
instance:aj (BitVec 8):= .scalar (fun x=>Value.int .u8 (x.toNat:Int)) fun _=>rfl
instance:aj ByteArray:= .scalar Value.string fun _=>rfl
theorem oO {v u:Value} (h:v.oneCell'=true) (e:v.cells.toList= [u]):v=u:=by
 rw [oP h] at e
 simpa using e
theorem of_bool {A W v} {b:Bool} :(I.of b).holds A W v↔v= .bool b:=
 ⟨fun h=>oO h.1 h.2,fun h=>by subst h; exact⟨rfl,rfl⟩⟩
theorem of_int {A W v} {x:Int} :(I.of x).holds A W v↔v= .int .i64 x:=
 ⟨fun h=>oO h.1 h.2,fun h=>by subst h; exact⟨rfl,rfl⟩⟩
theorem gj {A W v} {x:BitVec 64} :(I.of x).holds A W v↔v= .int .u64 (x.toNat:Int):=
 ⟨fun h=>oO h.1 h.2,fun h=>by subst h; exact⟨rfl,rfl⟩⟩
theorem FC {A W v} {x:BitVec 8} :(I.of x).holds A W v↔v= .int .u8 (x.toNat:Int):=
 ⟨fun h=>oO h.1 h.2,fun h=>by subst h; exact⟨rfl,rfl⟩⟩
theorem Pe {A W v} {x:ByteArray} :(I.of x).holds A W v↔v= .string x:=
 ⟨fun h=>oO h.1 h.2,fun h=>by subst h; exact⟨rfl,rfl⟩⟩
def bd (c:dp) (E:List (Nat×I)) (L:List aT) (x:Operand) (τ:I):Prop:= ∀ a W,bV c E L a W→τ.holds (aV L++c.ca) W (a.eval x)
section
variable {c:dp} {E:List (Nat×I)} {L:List aT}
theorem ab {t:Nat} {τ:I} (h:look E t=some τ):bd c E L (.tmp t) τ:=fun a W s=>by
 obtain⟨v,aa,ad⟩:=s.env t τ h
 have:a.eval (.tmp t)=v:=by simp [Act.eval,aa]
 rw [this]; exact ad
theorem cJ {t:Nat} {τ:I} {p:Prop} (h:look E t=some (.cond p τ)) (hp:p):bd c E L (.tmp t) τ:=fun a W s=>(ab h a W s).1 hp
theorem E8 (v:Value):bd c E L (.const v) (.eq v):=fun _ _ _=>rfl
theorem bU (k:Int):bd c E L (.const (.int .i64 k)) (.of k):=fun _ _ _=>of_int.2 rfl
theorem gi (b:Bool):bd c E L (.const (.bool b)) (.of b):=fun _ _ _=>of_bool.2 rfl
theorem fT (x:BitVec 64) {k:Int} (h:(x.toNat:Int)=k):bd c E L (.const (.int .u64 k)) (.of x):=fun _ _ _=>gj.2 (by rw [h]; rfl)
theorem dU (s:ByteArray):bd c E L (.const (.string s)) (.of s):=fun _ _ _=>Pe.2 rfl
def ht (P:Program) (o:Oper) (a:Act) (W:World) (R:Value→World→Prop):Prop:=
 o.wp P a W (fun gz W'=> ∃ v,gz=a.put o.dst v∧R v W') (fun _ _ _=>False)
theorem CallsIn.Il {rd:Option Nat} {n:Nat} {P:Program} {f:FuncId} {args:Array Value} {w:World} {R:Ending→World→Prop}
 (h:Calls P f args w R):CallsIn { fn:=fun _=>True,depth:=none,alive:=false,round:=rd } n P f args w R:=
 (callsIn_wide (n:=n)).2 h
theorem RowsIn.XZ {rd:Option Nat} {n:Nat} {P:Program} {row:String} {args:Array Value} {w:World} {R:Value→World→Prop}
 (h:Rows P row args w R):RowsIn { fn:=fun _=>True,depth:=none,alive:=false,round:=rd } n P row args w R:=
 fun c cs _=>let⟨v,q6,r,s⟩:=h c cs; ⟨v,q6,r,stepsIn_wide.2 s⟩
theorem ht.wp {P:Program} {o:Oper} {a:Act} {W:World} {R:Value→World→Prop} {next:Act→World→Prop} {Q:Exit→Act→World→Prop}
 (h:ht P o a W R) (aw:∀ v W',R v W'→next (a.put o.dst v) W'):o.wp P a W next Q:=by
 unfold ht Oper.wp at *
 generalize (execOp a.eval o).run P W=r at *
 cases r with
 | ok n W'=>
   cases n <;> simp only [Oper.upon] at h ⊢
   case value v=>obtain⟨u,aa,ad⟩:=h; rw [aa]; exact aw _ _ ad
   case skip=>obtain⟨u,aa,ad⟩:=h; rw [aa]; exact aw _ _ ad
   case defer d=>obtain⟨u,aa,ad⟩:=h; rw [aa]; exact aw _ _ ad
   case enter f args=>
    refine h.mono fun e uZ he=>?_
    cases e with
    | returned v=>obtain⟨u,aa,ad⟩:=he; simp only at aa ⊢; rw [aa]; exact aw _ _ ad
    | panicked Lv=>exact he.elim
    | outgrown=>obtain⟨_,_,aa⟩:=he; exact aa.elim
   case row row args=>exact h.mono fun v uZ ⟨u,aa,ad⟩=>by rw [aa]; exact aw _ _ ad
 | halt x W'=>cases x <;> simp only [Oper.upon] at h
theorem ht.Wr {P:Program} {o:Oper} {a:Act} {W:World} {R:Value→World→Prop} (h:ht P o a W R):∀ c,o.op≠ .defer c:=by
 intro c bm
 unfold ht Oper.wp execOp at h
 rw [bm] at h
 simp only [Sem.run_bind] at h
 generalize (resolve a.eval c o.type).run P W=r at h
 cases r with
 | ok d W'=>
   simp only [Result.andThen,Sem.run_pure,Oper.upon] at h
   obtain⟨v,aa,_⟩:=h
   have:=congrArg Act.defers aa
   cases hd:o.dst <;> simp [Act.put,hd] at this
 | halt x W'=>cases x <;> simp only [Result.andThen,Oper.upon] at h
theorem ht.wpIn {c:dp} {n:Nat} {o:Oper} {a:Act} {W:World} {R:Value→World→Prop} {next:Act→World→Prop} {Q:Exit→Act→World→Prop}
 (h:ht c.P o a W R) (aw:∀ v W',R v W'→next (a.put o.dst v) W'):o.wpIn c.F n c.P a W next Q:=by
 refine⟨fun _ _=>trivial,?_⟩
 rw [Oper.semAt_eq _ _ _ h.Wr]
 unfold ht Oper.wp at h
 generalize (execOp a.eval o).run c.P W=r at *
 cases r with
 | ok m W'=>
   cases m <;> simp only [Oper.upon,Oper.uponIn] at h ⊢
   case value v=>obtain⟨u,aa,ad⟩:=h; rw [aa]; exact aw _ _ ad
   case skip=>obtain⟨u,aa,ad⟩:=h; rw [aa]; exact aw _ _ ad
   case defer d=>obtain⟨u,aa,ad⟩:=h; rw [aa]; exact aw _ _ ad
   case enter f args=>
    refine⟨fun h=>by simp at h,CallsIn.Il ?_⟩
    refine h.mono fun e uZ he=>?_
    cases e with
    | returned v=>obtain⟨u,aa,ad⟩:=he; simp only at aa ⊢; rw [aa]; exact aw _ _ ad
    | panicked Lv=>exact he.elim
    | outgrown=>obtain⟨_,_,aa⟩:=he; exact aa.elim
   case row row args=>
    refine⟨fun h=>by simp at h,RowsIn.XZ ?_⟩
    exact h.mono fun v uZ ⟨u,aa,ad⟩=>by rw [aa]; exact aw _ _ ad
 | halt x W'=>cases x <;> simp only [Oper.upon] at h
theorem Ur {c:dp} {n:Nat} {o:Oper} {a:Act} {W W':World} {v:Value} {next:Act→World→Prop} {Q:Exit→Act→World→Prop}
 (h:(execOp a.eval o).run c.P W= .ok (.value v) W') (aw:next (a.put o.dst v) W'):o.wpIn c.F n c.P a W next Q:=
 ht.wpIn (R:=fun u U=>u=v∧U=W') (by unfold ht Oper.wp; rw [h]; exact⟨v,rfl,rfl,rfl⟩) fun u U ⟨aa,ad⟩=>by subst aa; subst ad; exact aw
theorem MI {c:dp} {n:Nat} {o:Oper} {a:Act} {W W':World} {next:Act→World→Prop} {Q:Exit→Act→World→Prop}
 (h:(execOp a.eval o).run c.P W= .ok .skip W') (aw:next (a.put o.dst undef) W'):o.wpIn c.F n c.P a W next Q:=
 ht.wpIn (R:=fun u U=>u=undef∧U=W') (by unfold ht Oper.wp; rw [h]; exact⟨undef,rfl,rfl,rfl⟩) fun u U ⟨aa,ad⟩=>by subst aa; subst ad; exact aw
theorem An {F:Fence} {n:Nat} {P:Program} {md:Region.Mode} {ops:Array Oper} {tC:Exit→Act→World→Prop} :∀ (l:List Oper) (k:Nat) (a9:Array Bool) (a:Act) (w:World),(∀ j,l[j]? =ops[k+j]?)→
 Region.seqB md ops l.length k a9=true→wpListIn F n P ops tC l a w→wpAnyIn F n P md ops tC l.length a9 a w
 | [],_,_,_,_,_,h1,h=>⟨by simpa [Region.seqB] using h1,h⟩
 | o::l,k,a9,a,w,ao,h1,h=>by
   have bT:ops[k]? =some o:=by simpa using (ao 0).symm
   simp only [List.length_cons,Region.seqB,Bool.and_eq_true,decide_eq_true_eq] at h1
   refine⟨fun aa=>(by rw [h1.1] at aa; cases aa),fun i ak=>?_⟩
   rw [h1.1] at ak
   have iS:i=k:=by simpa using ak
   subst iS
   have hw:wpOpIn F n P ops tC i (wpListIn F n P ops tC l) a w:=by unfold wpOpIn; simp only [bT]; exact h
   exact wpOpIn_mono (fun gz q6 dc=>An l (i+1) _ gz q6 (fun j=>by have:=ao (j+1); simpa [Nat.add_assoc,Nat.add_comm 1 j] using this) h1.2 dc) hw
theorem ht.l1 {P:Program} {o:Oper} {a:Act} {W W':World} {R:Value→World→Prop} {v:Value}
 (h:(execOp a.eval o).run P W= .ok (.value v) W') (aQ:R v W'):ht P o a W R:=by
 unfold ht Oper.wp
 rw [h]
 exact⟨v,rfl,aQ⟩
theorem ht.yi {P:Program} {o:Oper} {a:Act} {W W':World} {R:Value→World→Prop}
 (h:(execOp a.eval o).run P W= .ok .skip W') (aQ:R undef W'):ht P o a W R:=by
 unfold ht Oper.wp
 rw [h]
 exact⟨undef,rfl,aQ⟩
theorem ht.vM {P:Program} {o:Oper} {a:Act} {W W':World} {R:Value→World→Prop} {f:FuncId} {args:Array Value}
 (h:(execOp a.eval o).run P W= .ok (.enter f args) W') (aQ:Calls P f args W' fun e uZ=> ∃ v,e= .returned v∧R v uZ):ht P o a W R:=by
 unfold ht Oper.wp
 rw [h]
 exact aQ.mono fun e uZ ⟨v,he,ad⟩=>by subst he; exact⟨v,rfl,ad⟩
def cf (c:dp) (E:List (Nat×I)) (L:List aT) (o:Oper) (τ:I):Prop:=
 ∀ a W,bV c E L a W→ht c.P o a W fun v W'=>Fr [] W W'∧τ.holds (aV L++c.ca) W' v
theorem cf.pure {o:Oper} {τ:I} (h:∀ a W,bV c E L a W→ ∃ v,(execOp a.eval o).run c.P W= .ok (.value v) W∧τ.holds (aV L++c.ca) W v):cf c E L o τ:=
 fun a W s=>let⟨_,aa,ad⟩:=h a W s; .l1 aa ⟨.refl _ _,ad⟩
variable {ops:Array Oper} {Q:Exit→Act→World→Prop}
def ai (c:dp) (ops:Array Oper) (Q:Exit→Act→World→Prop) (l:List Oper) (E:List (Nat×I)) (L:List aT):Prop:=
 ∀ a W,bV c E L a W→c.qI ops Q l a W
def ae (c:dp) (Q:Exit→Act→World→Prop) (x:Exit) (E:List (Nat×I)) (L:List aT):Prop:= ∀ a W,bV c E L a W→Q x a W
theorem ai.nil (h:ae c Q .normal E L):ai c ops Q [] E L:=fun a W s=>wpListIn_nil (h a W s)
theorem iD {c:dp} {o:Oper} {rest:List Oper} {a:Act} {W:World} (bQ:o.guard=none) {R:Value→World→Prop} (h:ht c.P o a W R)
 (aw:∀ v W',R v W'→c.qI ops Q rest (a.put o.dst v) W'):c.qI ops Q (o::rest) a W:=
 wpListIn_plain bQ fun _ vb=>h.wpIn fun v W' aQ=>vb _ _ (aw v W' aQ)
theorem ai.v {o:Oper} {rest:List Oper} {d:Nat} {τ:I} (h:cf c E L o τ) (bQ:o.guard=none) (hd:o.dst=some d) (aR:Nat.blt d c.n=true)
 (k:ai c ops Q rest ((d,τ)::E) L):ai c ops Q (o::rest) E L:=fun a W s=>
 iD bQ (h a W s) fun v W' ⟨f,a2⟩=>by
  rw [hd]
  exact k _ _ ((s.world f).put (by simpa using aR) a2)
theorem ai.x {o:Oper} {rest:List Oper} {τ:I} (h:cf c E L o τ) (bQ:o.guard=none) (hd:o.dst=none)
 (k:ai c ops Q rest E L):ai c ops Q (o::rest) E L:=fun a W s=>
 iD bQ (h a W s) fun v W' ⟨f,_⟩=>by
  rw [hd]
  exact k _ _ (s.world f)
theorem AG {j g:Nat} {b:Bool} (aE:(ops[j]?).bind (·.dst)=some g) (ao:look E g=some (.of b)) {a:Act} {W:World} (s:bV c E L a W):
 yielded ops a.tmps j=some b:=by
 obtain⟨v,aa,ad⟩:=s.env g _ ao
 unfold yielded
 rw [aE]
 simp only [Option.bind_some,aa,of_bool.1 ad]
theorem ai.g {o:Oper} {rest:List Oper} {d j g:Nat} {b want:Bool} {τ:I} (h:b=want→cf c E L o τ) (bQ:o.guard=some (j,want)) (aE:(ops[j]?).bind (·.dst)=some g)
 (ao:look E g=some (.of b)) (hd:o.dst=some d) (aR:Nat.blt d c.n=true)
 (k:ai c ops Q rest ((d,.cond (b=want) τ)::E) L):ai c ops Q (o::rest) E L:=fun a W s=>by
 have a6:=AG aE ao s
 unfold dp.qI wpListIn
 by_cases hb:b=want
 ·rw [if_pos (by simp [Region.wanted,bQ,a6,hb])]
  refine((h hb a W s).wpIn fun v W' ⟨f,a2⟩=>?_)
  rw [hd]
  exact k _ _ ((s.world f).put (by simpa using aR) ⟨fun _=>a2,fun h=>absurd hb h⟩)
 rw [if_neg (by simp [Region.wanted,bQ,a6,hb])]
 rw [hd]
 exact⟨fun _ _=>trivial,k _ _ (s.put (by simpa using aR) ⟨fun h=>absurd h hb,fun _=>rfl⟩)⟩
theorem UC {j g:Nat} {p:Prop} {b:Bool} (aE:(ops[j]?).bind (·.dst)=some g) (ao:look E g=some (.cond p (.of b))) {a:Act} {W:World} (s:bV c E L a W):
 (p→yielded ops a.tmps j=some b)∧ (¬ p→yielded ops a.tmps j=none):=by
 obtain⟨v,aa,ad,aF⟩:=s.env g _ ao
 unfold yielded
 rw [aE]
 simp only [Option.bind_some,aa]
 exact⟨fun hp=>by simp only [of_bool.1 (ad hp)],fun hp=>by simp only [aF hp]; rfl⟩
theorem ai.gg {o:Oper} {rest:List Oper} {d j g:Nat} {p:Prop} {b want:Bool} {τ:I} (h:p∧b=want→cf c E L o τ) (bQ:o.guard=some (j,want)) (aE:(ops[j]?).bind (·.dst)=some g)
 (ao:look E g=some (.cond p (.of b))) (hd:o.dst=some d) (aR:Nat.blt d c.n=true)
 (k:ai c ops Q rest ((d,.cond (p∧b=want) τ)::E) L):ai c ops Q (o::rest) E L:=fun a W s=>by
 have a6:=UC aE ao s
 unfold dp.qI wpListIn
 by_cases hb:p∧b=want
 ·rw [if_pos (by simp [Region.wanted,bQ,a6.1 hb.1,hb.2])]
  refine((h hb a W s).wpIn fun v W' ⟨f,a2⟩=>?_)
  rw [hd]
  exact k _ _ ((s.world f).put (by simpa using aR) ⟨fun _=>a2,fun h=>absurd hb h⟩)
 have hw:Region.wanted o (yielded ops a.tmps)=false:=by
  by_cases hp:p
  ·have: ¬ (b=want):=fun h=>hb ⟨hp,h⟩
   simp [Region.wanted,bQ,a6.1 hp,this]
  simp [Region.wanted,bQ,a6.2 hp]
 rw [if_neg (by simp [hw])]
 refine⟨fun _ _=>trivial,?_⟩
 rw [hd]
 exact k _ _ (s.put (by simpa using aR) ⟨fun h=>absurd h hb,fun _=>rfl⟩)
inductive hk (E:List (Nat×I)):List (Nat×I)→Prop
 | nil:hk E []
 | cons {t τ σ r} :look E t=some σ→ (∀ A W v,σ.holds A W v→τ.holds A W v)→hk E r→hk E ((t,τ)::r)
theorem hk.same {t:Nat} {τ:I} {r:List (Nat×I)} (h:look E t=some τ) (k:hk E r):hk E ((t,τ)::r):= .cons h (fun _ _ _ h=>h) k
theorem hk.all {r:List (Nat×I)} (h:hk E r:=by repeat (first | exact hk.nil | refine hk.same rfl ?_)):hk E r:=h
theorem hk.look:∀ {E':List (Nat×I)},hk E E'→ ∀ t τ,Gv.look E' t=some τ→ ∃ σ,Gv.look E t=some σ∧ ∀ A W v,σ.holds A W v→τ.holds A W v
 | _,.nil,t,τ,h=>by simp [Gv.look] at h
 | _,.cons (t:=s) (σ:=σ) aa ad r,t,τ,h=>by
   simp only [Gv.look] at h
   by_cases e:Nat.beq s t=true
   ·rw [e] at h
    simp only [cond_true,Option.some.injEq] at h
    subst h
    rw [eD.1 e] at aa
    exact⟨σ,aa,ad⟩
   simp only [Bool.not_eq_true] at e
   rw [e] at h
   exact r.look t τ h
theorem ae.le {x:Exit} {E':List (Nat×I)} (h:hk E E') (k:ae c Q x E' L):ae c Q x E L:=fun a W s=>k a W (s.less h.look)
theorem ai.le {l:List Oper} {E':List (Nat×I)} (h:hk E E') (k:ai c ops Q l E' L):ai c ops Q l E L:=fun a W s=>k a W (s.less h.look)
def ag (c:dp) (Q:Exit→Act→World→Prop) (code:Code) (E:List (Nat×I)) (L:List aT):Prop:= ∀ a W,bV c E L a W→c.wp code Q a W
theorem ag.le {code:Code} {E':List (Nat×I)} (h:hk E E') (k:ag c Q code E' L):ag c Q code E L:=fun a W s=>k a W (s.less h.look)
theorem ag.cm {id:Nat} {l:List Oper} (h:ai c l.toArray Q l E L):ag c Q (.region id l.toArray false) E L:=fun a W s=>wpIn_region_lit (h a W s)
theorem ag.seq {x y:Code} (h:ag c (Exit.then (c.wp y Q) Q) x E L):ag c Q (.seq x y) E L:=fun a W s=>wpIn_seq (h a W s)
theorem ae.next {y:Code} (h:ag c Q y E L):ae c (Exit.then (c.wp y Q) Q) .normal E L:=fun a W s=>h a W s
theorem ae.exit {y:Act→World→Prop} {id:Nat} (h:ae c Q (.exit id) E L):ae c (Exit.then y Q) (.exit id) E L:=fun a W s=>h a W s
theorem ae.ret {y:Act→World→Prop} (h:ae c Q .ret E L):ae c (Exit.then y Q) .ret E L:=fun a W s=>h a W s
theorem ag.block {id:Nat} {x:Code} (h:ag c (Exit.inBlock id Q) x E L):ag c Q (.block id x) E L:=fun a W s=>wpIn_block (h a W s)
theorem ae.dB {id:Nat} (h:ae c Q .normal E L):ae c (Exit.inBlock id Q) .normal E L:=fun a W s=>h a W s
theorem ae.e1 {id:Nat} (h:ae c Q .normal E L):ae c (Exit.inBlock id Q) (.exit id) E L:=fun a W s=>by
 show(if id=id then Q .normal a W else Q (.exit id) a W)
 rw [if_pos rfl]; exact h a W s
theorem ae.XS {id Cs:Nat} (dm:Nat.beq Cs id=false) (h:ae c Q (.exit Cs) E L):ae c (Exit.inBlock id Q) (.exit Cs) E L:=fun a W s=>by
 show(if Cs=id then Q .normal a W else Q (.exit Cs) a W)
 rw [if_neg (fun e=>by rw [e,Nat.beq_refl] at dm; cases dm)]; exact h a W s
theorem ae.dz {id:Nat} (h:ae c Q .ret E L):ae c (Exit.inBlock id Q) .ret E L:=fun a W s=>h a W s
theorem ag.skip (h:ae c Q .normal E L):ag c Q .skip E L:=fun a W s=>wpIn_skip (h a W s)
theorem ag.exit {id:Nat} (h:ae c Q (.exit id) E L):ag c Q (.exit id) E L:=fun a W s=>wpIn_exit (h a W s)
theorem ag.ret (h:ae c Q .ret E L):ag c Q .ret E L:=fun a W s=>wpIn_ret (h a W s)
theorem ag.cond {x:Operand} {b:Bool} {y z:Code} (ao:bd c E L x (.of b)) (b1:b=true→ag c Q y E L) (a7:b=false→ag c Q z E L):ag c Q (.cond x y z) E L:=
 fun a W s=>wpIn_cond_split (of_bool.1 (ao a W s)) (fun h=>b1 h a W s) (fun h=>a7 h a W s)
def ey {σ ε:Type} :Nat→ (σ→Option (σ ⊕ ε))→σ→Option ε
 | 0,_,_=>none
 | n+1,b,s=>match b s with
   | none=>none
   | some (.inl cl)=>ey n b cl
   | some (.inr e)=>some e
def adS {σ ε:Type} (c:dp) (E:σ→List (Nat×I)) (L:σ→List aT) (xs:ε→Exit) (gY:ε→List (Nat×I)) (Lx:ε→List aT):σ ⊕ ε→Exit→Act→World→Prop
 | .inl s,x,a,W=>x= .normal∧bV c (E s) (L s) a W
 | .inr e,x,a,W=>x≠ .normal∧x=xs e∧bV c (gY e) (Lx e) a W
theorem ae.round {σ ε:Type} {E':σ→List (Nat×I)} {ax:σ→List aT} {xs:ε→Exit} {gY:ε→List (Nat×I)} {Lx:ε→List aT} {s:σ}
 (h:∀ a W,bV c E L a W→bV c (E' s) (ax s) a W):ae c (adS c E' ax xs gY Lx (.inl s)) .normal E L:=fun a W st=>⟨rfl,h a W st⟩
theorem VO {F:Fence} {n:Nat} {P:Program} {body:Code} {σ ε:Type} (b:σ→Option (σ ⊕ ε)) (fS:σ→Act→World→Prop) (X:ε→Exit→Act→World→Prop)
 (pE:∀ s r,b s=some r→ ∀ a W,fS s a W→body.wpIn F n P (fun x a W=>match r with | .inl cl=>x= .normal∧fS cl a W | .inr e=>x≠ .normal∧X e x a W) a W)
 (Q:Exit→Act→World→Prop) (e:ε) (qh:∀ x a W,X e x a W→Q x a W) {cw:σ} {N:Nat} (ao:ey N b cw=some e) {fJ:Act} {jr:World} (bT:fS cw fJ jr):
 (Code.loop body).wpIn F n P Q fJ jr:=by
 intro dQ k cs yY hb aQ
 have key:∀ N s,ey N b s=some e→ ∀ a W,fS s a W→
  ∃ x gz W',Q x gz W'∧ArrivesIn (Machine.fenced P F) P (lone (dQ.atR a (.code body::.inLoop body::k)) cs W) dQ k cs x gz W':=by
  intro N
  induction N with
  | zero=>intro s h; simp [ey] at h
  | succ N bR=>
    intro s h a W ml
    simp only [ey] at h
    split at h
    ·cases h
    ·rename_i cl hs
     obtain⟨x,yO,yP,hq,rR⟩:=pE s _ hs a W ml dQ (.inLoop body::k) cs yY hb aQ
     obtain⟨aq,Kr⟩:=hq
     subst aq
     obtain⟨JX,JY,JZ,Jt,Im⟩:=bR cl h yO yP Kr
     exact⟨JX,JY,JZ,Jt,.of_steps (StepsIn.trans rR (.one (fenced_calm hb aQ rfl) stepR_inLoop)) Im⟩
    rename_i e' hs
    simp only [Option.some.injEq] at h
    subst h
    obtain⟨x,yO,yP,hq,rR⟩:=pE s _ hs a W ml dQ (.inLoop body::k) cs yY hb aQ
    obtain⟨aq,Lw⟩:=hq
    exact⟨x,yO,yP,qh _ _ _ Lw,.pass (x:= .inLoop body) rfl (fun _ _=>.inl aq) rR⟩
 obtain⟨x,gz,W',hq,rR⟩:=key N cw ao fJ jr bT
 exact⟨x,gz,W',hq,.of_steps (.one (fenced_calm hb aQ rfl) stepR_loop) rR⟩
def bw (P:Program) (f:FuncId) (τs:List I) (ρ:I):Prop:=
 ∀ (A:List Nat) (W:World) (vs:List Value),(∀ k∈A,k<W.heap.size)→g2 A W τs vs→
   Calls P f vs.toArray W fun e W'=> ∃ v,e= .returned v∧Fr [] W W'∧ρ.holds A W' v
def params:Nat→List I→List (Nat×I)
 | _,[]=>[]
 | k,τ::r=>(k,τ)::params (k+1) r
theorem vB {A:List Nat} {W:World} {τs:List I} {vs:List Value} (h:g2 A W τs vs):∀ (k t:Nat) (τ:I),look (params k τs) t=some τ→k≤t∧ ∃ v,vs[t - k]? =some v∧τ.holds A W v:=by
 induction h with
 | nil=>intro k t τ h; simp [params,look] at h
 | cons aa r bR=>
   intro k t τ ao
   simp only [params,look] at ao
   by_cases e:Nat.beq k t=true
   ·rw [e] at ao
    simp only [cond_true,Option.some.injEq] at ao
    subst ao
    rw [eD.1 e]
    exact⟨Nat.le_refl _,_,by simp,aa⟩
   simp only [Bool.not_eq_true] at e
   rw [e] at ao
   have dm:k≠t:=fun h=>by rw [eD.2 h] at e; cases e
   obtain⟨ad,v,aF,aX⟩:=bR (k+1) t τ ao
   refine⟨by omega,v,?_,aX⟩
   rw [show t - k=(t - (k+1))+1 by omega,List.getElem?_cons_succ]
   exact aF
theorem bw.enter {P:Program} {f:FuncId} {fn:Func} {code:Code} {n:Nat} {τs:List I} {ρ:I} (a7:P.funcs[f]? =some fn) (hb:fn.body=some code) (aR:fn.ntmps=n) (hlen:Nat.ble τs.length n=true)
 (h:∀ W A,ag ⟨P,n,W,[],A,none,[]⟩ (bodyPost P fn fun e W'=> ∃ v,e= .returned v∧Fr [] W W'∧ρ.holds A W' v) code (params 0 τs) []):bw P f τs ρ:=by
 intro A W vs gA a2
 refine calls_of_wp a7 hb (wpIn_wide.1 (h W A _ _ ?_))
 have ao:=a2.length
 have hle:τs.length≤n:=Nat.le_of_ble_eq_true hlen
 exact
 {defers:=rfl
  size:=by simp [aR,ao]; omega
  env:=fun t τ ln=>by
   obtain⟨_,v,ad,aF⟩:=vB a2 0 t τ ln
   refine⟨v,?_,aF⟩
   have cD:t<vs.length:=(List.getElem?_eq_some_iff.1 ad).1
   rw [Array.getElem?_append_left (by simpa using cD)]
   simpa using ad
  dQ:= .refl _ _
  own:=by simp
  nodup:=by simp [aV]
  lt:=by simp [aV]
  gl:=by simp [aV]
  fg:=fun k aw=>⟨gA k aw,by simp [aV]⟩ }
theorem M0 {ρ:I} {A B:List Nat} {W:World} {v:Value} (h:ρ.holds (B++A) W v):ρ.holds A W v:=ρ.mono (.drop fun _ h=>List.mem_append.2 (.inr h)) h
end
section
variable {c:dp} {E:List (Nat×I)} {L:List aT} {ops:Array Oper} {Q:Exit→Act→World→Prop}
def lR (c:dp) (ops:Array Oper) (E:List (Nat×I)) (L:List aT) (o:Oper) (τ:I):Prop:=
 ∀ a W,bV c E L a W→
   (Region.wanted o (yielded ops a.tmps)=true→ht c.P o a W fun v W'=>Fr [] W W'∧τ.holds (aV L++c.ca) W' v)∧
   (Region.wanted o (yielded ops a.tmps)=false→τ.holds (aV L++c.ca) W undef)
theorem lR.v {o:Oper} {τ:I} (h:cf c E L o τ) (bQ:o.guard=none):lR c ops E L o τ:=fun a W s=>
 ⟨fun _=>h a W s,fun hw=>by simp [Region.wanted,bQ] at hw⟩
theorem lR.g {o:Oper} {j g:Nat} {b want:Bool} {τ:I} (h:b=want→cf c E L o τ) (bQ:o.guard=some (j,want)) (aE:(ops[j]?).bind (·.dst)=some g) (ao:look E g=some (.of b)):
 lR c ops E L o (.cond (b=want) τ):=fun a W s=>by
 have a6:=AG aE ao s
 constructor
 ·intro hw
  have hb:b=want:=by simpa [Region.wanted,bQ,a6] using hw
  refine ht.wp (h hb a W s) fun v W' ⟨f,a2⟩=>⟨v,rfl,f,fun _=>a2,fun h=>absurd hb h⟩
 intro hw
 exact⟨fun hb=>by simp [Region.wanted,bQ,a6,hb] at hw,fun _=>rfl⟩
inductive fD
 | val (τ:I)
 | new (cp:dZ)
 | kF (i:Nat) (cp:dZ)
 | mH (j:Nat) (cp:dZ)
def fD.oj:fD→Bool
 | .kF _ _ | .mH _ _=>true
 | _=>false
def fD.sc (p:Nat):fD→Option I
 | .val τ=>some τ
 | .new _=>some (.eq (.pointer (some ⟨p,0,none⟩)))
 | _=>none
def he (bz:Nat→Nat) (eM:List (Option Nat)) (hs:List fD) (E:List (Nat×I)):List Nat→List (Nat×I)
 | []=>E
 | j::r=>match eM[j]?,hs[j]? with
   | some (some s),some h=>match h.sc (bz j) with
     | some τ=>(s,τ)::he bz eM hs E r
     | none=>he bz eM hs E r
   | _,_=>he bz eM hs E r
def yG:List aT→Nat→dZ→List aT
 | [],_,_=>[]
 | e::r,0,cp=>⟨e.key,cp⟩::r
 | e::r,i+1,cp=>e::yG r i cp
theorem VP {L:List aT} {i:Nat} {e:aT} {cp:dZ} (h:L[i]? =some e):yG L i cp=L.set i ⟨e.key,cp⟩:=by
 induction L generalizing i with
 | nil=>simp at h
 | cons x r bR=>
   cases i with
   | zero=>simp only [List.getElem?_cons_zero,Option.some.injEq] at h; subst h; rfl
   | succ i=>simp only [List.getElem?_cons_succ] at h; simp [yG,bR h]
def eA (L:List aT):List fD→List aT
 | []=>L
 | .kF i cp::r=>eA (yG L i cp) r
 | _::r=>eA L r
def ja (j:Nat) (cp:dZ):List fD→dZ
 | []=>cp
 | .mH i cp'::r=>ja j (bif Nat.beq i j then cp' else cp) r
 | _::r=>ja j cp r
theorem M1 (L:List aT) (r:List fD) (h:fD):eA L (r++[h])=eA (eA L r) [h]:=by
 induction r generalizing L with
 | nil=>rfl
 | cons x r bR=>cases x <;> simp only [List.cons_append,eA] <;> exact bR _
theorem HA (j:Nat) (cp:dZ) (r:List fD) (h:fD):ja j cp (r++[h])=ja j (ja j cp r) [h]:=by
 induction r generalizing cp with
 | nil=>rfl
 | cons x r bR=>cases x <;> simp only [List.cons_append,ja] <;> exact bR _
theorem Ev {L:List aT} :∀ {r:List fD},(∀ h∈r,h.oj=false)→eA L r=L
 | [],_=>rfl
 | h::r,cE=>by
   have:=cE h (by simp)
   have bR:=Ev (L:=L) (r:=r) (fun x aq=>cE x (by simp [aq]))
   cases h <;> first | exact bR | cases this
theorem El {j:Nat} {cp:dZ} :∀ {r:List fD},(∀ h∈r,h.oj=false)→ja j cp r=cp
 | [],_=>rfl
 | h::r,cE=>by
   have:=cE h (by simp)
   have bR:=El (j:=j) (cp:=cp) (r:=r) (fun x aq=>cE x (by simp [aq]))
   cases h <;> first | exact bR | cases this
def pL (w:Nat→Bool) (i:Nat):Nat→List fD→Bool
 | _,[]=>true
 | k,.kF j _::r=>(!(Nat.beq j i)||w k)&&pL w i (k+1) r
 | k,.val _::r=>pL w i (k+1) r
 | k,.new _::r=>pL w i (k+1) r
 | k,.mH _ _::r=>pL w i (k+1) r
theorem UM {L:List aT} {i j:Nat} {cp:dZ} (h:i≠j):(yG L i cp)[j]? =L[j]? :=by
 induction L generalizing i j with
 | nil=>rfl
 | cons e r bR=>
   cases i with
   | zero=>cases j with
     | zero=>exact absurd rfl h
     | succ j=>rfl
   | succ i=>cases j with
     | zero=>rfl
     | succ j=>simp only [yG,List.getElem?_cons_succ]; exact bR (by omega)
theorem AM {L:List aT} {i:Nat} {w:Nat→Bool} :∀ {r:List fD} (b k:Nat),pL w i k r=true→ (∀ q,q<b→ (∃ j cp,r[q]? =some (.kF j cp))→w (k+q)=false)→ (eA L (r.take b))[i]? =L[i]?
 | [],b,_,_,_=>by simp [eA]
 | h::r,0,_,_,_=>by simp [eA]
 | .kF j cp::r,b+1,k,h,hw=>by
   simp only [pL,Bool.and_eq_true,Bool.or_eq_true,Bool.not_eq_true'] at h
   have acw:w k=false:=by simpa using hw 0 (by omega) ⟨j,cp,by simp⟩
   have dm:j≠i:=fun e=>by
    rw [e,Nat.beq_refl,acw] at h
    rcases h.1 with h | h <;> cases h
   rw [List.take_succ_cons,eA,AM b (k+1) h.2 (fun q hq aq=>by have:=hw (q+1) (by omega) (by simpa using aq); rw [← this]; congr 1; omega),UM dm]
 | .val _::r,b+1,k,h,hw=>by rw [List.take_succ_cons]; exact AM (r:=r) b (k+1) h (fun q hq aq=>by have:=hw (q+1) (by omega) (by simpa using aq); rw [← this]; congr 1; omega)
 | .new _::r,b+1,k,h,hw=>by rw [List.take_succ_cons]; exact AM (r:=r) b (k+1) h (fun q hq aq=>by have:=hw (q+1) (by omega) (by simpa using aq); rw [← this]; congr 1; omega)
 | .mH _ _::r,b+1,k,h,hw=>by rw [List.take_succ_cons]; exact AM (r:=r) b (k+1) h (fun q hq aq=>by have:=hw (q+1) (by omega) (by simpa using aq); rw [← this]; congr 1; omega)
def Ly (P:Program) (o:Oper) (cp:dZ):Prop:=
 o.guard=none∧ ∃ kt,(∀ A W,cp.holds A W kt)∧ ∀ (a:Act) W,(execOp a.eval o).run P W= .ok (.value (.pointer (some ⟨W.heap.size,0,none⟩))) (W.alloc kt)
def Dc (c:dp) (E:List (Nat×I)) (L:List aT) (o:Oper) (p:Nat) (cp:dZ):Prop:=
 o.guard=none∧o.dst=none∧ ∀ a W,bV c E L a W→ ∃ cs eh T,W.heap[p]? =some (.cells cs T (0,0))∧ (execOp a.eval o).run c.P W= .ok .skip (W.setRow p eh)∧cp.holds (aV L++c.ca) W (.cells eh T (0,0))
def rM (c:dp) (ops:Array Oper) (bz:Nat→Nat) (eM:List (Option Nat)) (all:List fD) (E:List (Nat×I)) (L:List aT):Nat→List Oper→List fD→List (List Nat)→Prop
 | _,_,[],_=>True
 | i,o::os,.val τ::hs,d::ds=>(∀ ax:List aT,(∀ (j:Nat) (e:aT),L[j]? =some e→pL (fun k=>Region.waitsFor .any ops k i) j 0 all=true→ax[j]? =some e)→lR c ops (he bz eM all E d) ax o τ)∧rM c ops bz eM all E L (i+1) os hs ds
 | i,o::os,.new cp::hs,_::ds=>Ly c.P o cp∧rM c ops bz eM all E L (i+1) os hs ds
 | i,o::os,.kF k cp::hs,d::ds=>(∃ (p:Nat) (nF:dZ),(eA L (all.take i))[k]? =some ⟨some p,nF⟩∧ ∀ ax:List aT,(∀ (j:Nat) (e:aT),(eA L (all.take i))[j]? =some e→ax[j]? =some e)→Dc c (he bz eM all E d) ax o p cp)∧rM c ops bz eM all E L (i+1) os hs ds
 | i,o::os,.mH k cp::hs,d::ds=>(d.contains k=true∧ ∃ nF:dZ,all[k]? =some (.new nF)∧ ∀ (ax:List aT) (q:Nat),ax[q]? =some ⟨some (bz k),ja k nF (all.take i)⟩→Dc c (he bz eM all E d) ax o (bz k) cp)∧rM c ops bz eM all E L (i+1) os hs ds
 | _,_,_,_=>False
def FD (ops:Array Oper) (n:Nat) (eM:List (Option Nat)) (s8:List (List Nat)) (Ct:List Bool) (ze:Nat):Bool:=
 decide (eM.length=n)&&decide (n≤ops.size)&&(eM.filterMap id).all (Nat.blt · ze)&&decide (eM.filterMap id).Nodup&&
 ((List.range n).all fun i=>((ops[i]?).map fun o=>(some o.dst==eM[i]?)&&(o.after.all fun e=> !Region.binds .any e||decide (e.on<i))).getD false)&&
 ((List.range n).all fun i=>(s8.getD i []).all fun j=>decide (j<n)&&Region.waitsFor .any ops i j)&&
 ((List.range n).all fun i=> !(Ct.getD i false)||((List.range i).all fun j=> !(Ct.getD j false)||Region.waitsFor .any ops i j))&&
 (decide (n=ops.size)||(Region.sinkB .any ops n&&Region.chainB .any ops n))&&
 Region.seqB .any ops (ops.size - n) n ((List.range n).foldl (fun l i=>l.setIfInBounds i true) (Array.replicate ops.size false))
def B7 (E:List (Nat×I)) (eM:List Nat):Bool:=match E with
 | []=>true
 | e::r=> !(eM.contains e.1)&&B7 r eM
theorem HL {eM:List Nat} :∀ {E:List (Nat×I)},B7 E eM=true→ ∀ t τ,look E t=some τ→t ∉ eM
 | [],_,t,τ,h=>by simp [look] at h
 | (s,σ)::r,hd,t,τ,h=>by
   simp only [B7,Bool.and_eq_true,Bool.not_eq_true'] at hd
   simp only [look] at h
   by_cases e:Nat.beq s t=true
   ·have:=eD.1 e
    subst this
    simpa using hd.1
   simp only [Bool.not_eq_true] at e
   rw [e] at h
   exact HL hd.2 t τ h
theorem Fe (f g:Nat→Bool) (i:Nat) (a7:f i=true) (bQ:g i=false) (h:∀ j,g j=true→f j=true):∀ n,i<n→ ((List.range n).filter g).length<((List.range n).filter f).length:=by
 have le:∀ n,((List.range n).filter g).length≤ ((List.range n).filter f).length:=by
  intro n
  induction n with
  | zero=>simp
  | succ n bR=>
    rw [List.range_succ,List.filter_append,List.filter_append,List.length_append,List.length_append]
    have:([n].filter g).length≤ ([n].filter f).length:=by
     cases w1:g n with
     | false=>simp [w1]
     | true=>simp [w1,h n w1]
    omega
 intro n
 induction n with
 | zero=>omega
 | succ n bR=>
   intro cD
   rw [List.range_succ,List.filter_append,List.filter_append,List.length_append,List.length_append]
   by_cases e:i=n
   ·subst e
    have:=le i
    simp [a7,bQ]
    omega
   have aa:=bR (by omega)
   have:([n].filter g).length≤ ([n].filter f).length:=by
    cases w1:g n with
    | false=>simp [w1]
    | true=>simp [w1,h n w1]
   omega
theorem HM {bz:Nat→Nat} {eM:List (Option Nat)} {all:List fD} :∀ {k:Nat} {os:List Oper} {hs:List fD} {ds:List (List Nat)},rM c ops bz eM all E L k os hs ds→
 ∀ (i:Nat) h,hs[i]? =some h→ ∃ o,os[i]? =some o∧ (match h with
   | .val τ=> ∀ ax:List aT,(∀ (j:Nat) (e:aT),L[j]? =some e→pL (fun q=>Region.waitsFor .any ops q (k+i)) j 0 all=true→ax[j]? =some e)→lR c ops (he bz eM all E (ds.getD i [])) ax o τ
   | .new cp=>Ly c.P o cp
   | .kF q cp=> ∃ (p:Nat) (nF:dZ),(eA L (all.take (k+i)))[q]? =some ⟨some p,nF⟩∧ ∀ ax:List aT,(∀ (j:Nat) (e:aT),(eA L (all.take (k+i)))[j]? =some e→ax[j]? =some e)→Dc c (he bz eM all E (ds.getD i [])) ax o p cp
   | .mH q cp=>(ds.getD i []).contains q=true∧ ∃ nF:dZ,all[q]? =some (.new nF)∧ ∀ (ax:List aT) (r:Nat),ax[r]? =some ⟨some (bz q),ja q nF (all.take (k+i))⟩→Dc c (he bz eM all E (ds.getD i [])) ax o (bz q) cp)
 | k,os,[],ds,_,i,h,ak=>by simp at ak
 | k,[],h::hs,ds,cE,_,_,_=>by cases h <;> simp [rM] at cE
 | k,o::os,h::hs,[],cE,_,_,_=>by cases h <;> simp [rM] at cE
 | k,o::os,bT::hs,d::ds,cE,i,h,ak=>by
   have hd:rM c ops bz eM all E L (k+1) os hs ds:=by cases bT <;> exact cE.2
   cases i with
   | zero=>
     simp only [List.getElem?_cons_zero,Option.some.injEq] at ak
     subst ak
     refine⟨o,by simp,?_⟩
     cases bT <;> exact cE.1
   | succ i=>
     simp only [List.getElem?_cons_succ] at ak
     obtain⟨o',aa,ad⟩:=HM hd i h ak
     refine⟨o',by simpa using aa,?_⟩
     rw [show k+(i+1)=k+1+i by omega]
     cases h <;> exact ad
theorem Oq {bz:Nat→Nat} {eM:List (Option Nat)} {hs:List fD} {t:Nat} {τ:I} :∀ {ds:List Nat},look (he bz eM hs E ds) t=some τ→ (∃ j∈ds,eM[j]? =some (some t)∧ ∃ h,hs[j]? =some h∧h.sc (bz j)=some τ)∨look E t=some τ
 | [],h=>.inr h
 | j::r,h=>by
   have rest:look (he bz eM hs E r) t=some τ→ (∃ k∈j::r,eM[k]? =some (some t)∧ ∃ h,hs[k]? =some h∧h.sc (bz k)=some τ)∨look E t=some τ:=fun h=>by
    rcases Oq h with⟨k,aw,aa⟩ | aa
    ·exact .inl ⟨k,List.mem_cons_of_mem _ aw,aa⟩
    exact .inr aa
   simp only [he] at h
   split at h
   ·rename_i s aw u0 pa
    split at h
    ·rename_i σ me
     simp only [look] at h
     by_cases e:Nat.beq s t=true
     ·rw [e] at h
      simp only [cond_true,Option.some.injEq] at h
      subst h
      exact .inl ⟨j,by simp,by rw [u0,eD.1 e],aw,pa,me⟩
     simp only [Bool.not_eq_true] at e
     rw [e] at h
     exact rest h
    exact rest h
   exact rest h
def uM (bz:Nat→Nat) (E:List (Nat×I)):Nat→List (Option Nat)→List fD→List (Nat×I)
 | i,some s::hI,.val τ::hs=>(s,τ)::uM bz E (i+1) hI hs
 | i,some s::hI,.new _::hs=>(s,.eq (.pointer (some ⟨bz i,0,none⟩)))::uM bz E (i+1) hI hs
 | i,_::hI,_::hs=>uM bz E (i+1) hI hs
 | _,_,_=>E
def my (bz:Nat→Nat) (all:List fD) (L:List aT):Nat→List fD→List aT
 | i,.new cp::hs=>⟨some (bz i),ja i cp all⟩::my bz all L (i+1) hs
 | i,_::hs=>my bz all L (i+1) hs
 | _,[]=>L
theorem Nh {bz:Nat→Nat} {t:Nat} {τ:I} :∀ {eM:List (Option Nat)} {hs:List fD} (k:Nat),look (uM bz E k eM hs) t=some τ→
 (∃ j:Nat,eM[j]? =some (some t)∧ ∃ h,hs[j]? =some h∧h.sc (bz (k+j))=some τ)∨look E t=some τ
 | [],hs,k,h=>.inr (by cases hs <;> exact h)
 | s::hI,[],k,h=>.inr (by cases s <;> exact h)
 | s::hI,x::hs,k,h=>by
   have rest:look (uM bz E (k+1) hI hs) t=some τ→ (∃ j:Nat,(s::hI)[j]? =some (some t)∧ ∃ h,(x::hs)[j]? =some h∧h.sc (bz (k+j))=some τ)∨look E t=some τ:=fun h=>by
    rcases Nh (k+1) h with⟨j,aa,ad⟩ | aa
    ·refine .inl ⟨j+1,by simpa using aa,?_⟩
     rw [show k+(j+1)=k+1+j by omega]
     simpa using ad
    exact .inr aa
   have one:∀ (cl:Nat) (σ:I),s=some cl→x.sc (bz k)=some σ→look ((cl,σ)::uM bz E (k+1) hI hs) t=some τ→ (∃ j:Nat,(s::hI)[j]? =some (some t)∧ ∃ h,(x::hs)[j]? =some h∧h.sc (bz (k+j))=some τ)∨look E t=some τ:=fun cl σ fl me h=>by
    simp only [look] at h
    by_cases e:Nat.beq cl t=true
    ·rw [e] at h
     simp only [cond_true,Option.some.injEq] at h
     subst h
     exact .inl ⟨0,by simp [fl,eD.1 e],x,by simp,by simpa using me⟩
    simp only [Bool.not_eq_true] at e
    rw [e] at h
    exact rest h
   cases s with
   | none=>cases x <;> exact rest h
   | some cl=>
     cases x with
     | val σ=>exact one cl σ rfl rfl h
     | new cp=>exact one cl _ rfl rfl h
     | kF i cp=>exact rest h
     | mH i cp=>exact rest h
theorem HD {n:Nat} {a9:Array Bool} (inv:HeadInv .any ops n a9) (aR:n≤ops.size) (jG:∀ i,i<n→a9.getD i true=true):
 a9=(List.range n).foldl (fun l i=>l.setIfInBounds i true) (Array.replicate ops.size false):=by
 have key:∀ m,m≤ops.size→ ((List.range m).foldl (fun l i=>l.setIfInBounds i true) (Array.replicate ops.size false)).size=ops.size∧
  ∀ j (d:Bool),j<ops.size→ ((List.range m).foldl (fun l i=>l.setIfInBounds i true) (Array.replicate ops.size false)).getD j d=decide (j<m):=by
  intro m
  induction m with
  | zero=>intro _; exact⟨by simp,fun j d aE=>by simp [aE]⟩
  | succ m bR=>
    intro hm
    obtain⟨aa,ad⟩:=bR (by omega)
    rw [List.range_succ,List.foldl_append]
    simp only [List.foldl_cons,List.foldl_nil]
    refine⟨by simpa using aa,fun j d aE=>?_⟩
    by_cases e:m=j
    ·subst e
     simp [aa,aE]
    rw [getD_set_ne d e,ad j d aE]
    by_cases aF:j<m
    ·simp [aF]; omega
    simp [aF]; omega
 obtain⟨aa,ad⟩:=key n aR
 apply Array.ext
 ·rw [inv.size,aa]
 intro i Ry acx
 have ak:i<ops.size:=by rw [← inv.size]; exact Ry
 have aF:=ad i true ak
 have ay:a9.getD i true=a9[i]:=by simp [Ry]
 have aO:((List.range n).foldl (fun l i=>l.setIfInBounds i true) (Array.replicate ops.size false)).getD i true=((List.range n).foldl (fun l i=>l.setIfInBounds i true) (Array.replicate ops.size false))[i]:=by
  simp [acx]
 rw [← aO,aF,← ay]
 by_cases aX:i<n
 ·rw [jG i aX]; simp [aX]
 rw [inv.tail i (by omega) ak]; simp [aX]
theorem x2 (bz:Nat→Nat) (all:List fD) (L:List aT):∀ (hs:List fD) (i:Nat),my bz all L i hs=my bz all [] i hs++L
 | [],_=>rfl
 | .new cp::hs,i=>by simp only [my]; rw [x2 bz all L hs (i+1)]; rfl
 | .val _::hs,i=>x2 bz all L hs (i+1)
 | .kF _ _::hs,i=>x2 bz all L hs (i+1)
 | .mH _ _::hs,i=>x2 bz all L hs (i+1)
theorem HN {bz:Nat→Nat} {all:List fD} {e:aT} :∀ {hs:List fD} {i:Nat},e∈my bz all [] i hs→ ∃ (j:Nat) (cp:dZ),hs[j]? =some (.new cp)∧e=⟨some (bz (i+j)),ja (i+j) cp all⟩
 | [],_,h=>by simp [my] at h
 | x::hs,i,h=>by
   have rest:e∈my bz all [] (i+1) hs→ ∃ (j:Nat) (cp:dZ),(x::hs)[j]? =some (.new cp)∧e=⟨some (bz (i+j)),ja (i+j) cp all⟩:=fun h=>by
    obtain⟨j,cp,aa,ad⟩:=HN (hs:=hs) (i:=i+1) h
    refine⟨j+1,cp,by simpa using aa,?_⟩
    rw [show i+(j+1)=i+1+j by omega]; exact ad
   cases x with
   | new cp=>
     rcases List.mem_cons.1 h with h | h
     ·exact⟨0,cp,by simp,by simpa using h⟩
     exact rest h
   | val _=>exact rest h
   | kF _ _=>exact rest h
   | mH _ _=>exact rest h
theorem Mw {bz:Nat→Nat} {all:List fD} :∀ (hs:List fD) (i:Nat),(∀ (j k:Nat) (u v:dZ),hs[j]? =some (.new u)→hs[k]? =some (.new v)→bz (i+j)=bz (i+k)→j=k)→ (aV (my bz all [] i hs)).Nodup
 | [],_,_=>by simp [my,aV]
 | x::hs,i,h=>by
   have aQ:(aV (my bz all [] (i+1) hs)).Nodup:=Mw hs (i+1) fun j k u v aa ad aF=>by
    have:=h (j+1) (k+1) u v (by simpa using aa) (by simpa using ad) (by rw [show i+(j+1)=i+1+j by omega,show i+(k+1)=i+1+k by omega]; exact aF)
    omega
   cases x with
   | val _=>exact aQ
   | kF _ _=>exact aQ
   | mH _ _=>exact aQ
   | new cp=>
     simp only [my,aV]
     refine List.nodup_cons.2 ⟨fun hm=>?_,aQ⟩
     obtain⟨e,he,aw⟩:=lB.1 hm
     obtain⟨j,u,aa,ad⟩:=HN he
     rw [ad] at aw
     simp only [Option.some.injEq] at aw
     have:=h 0 (j+1) cp u (by simp) (by simpa using aa) (by rw [show i+(j+1)=i+1+j by omega]; simpa using aw.symm)
     omega
def fG (bz:Nat→Nat) (all:List fD) (b:Nat) (dL:List Nat):List aT:=dL.map fun j=>⟨some (bz j),match all[j]? with | some (.new cp)=>ja j cp (all.take b) | _=>.dead⟩
theorem A8 (bz:Nat→Nat) (all:List fD) (b:Nat):∀ (dL:List Nat),aV (fG bz all b dL)=dL.map bz
 | []=>rfl
 | j::dL=>by
   have:=A8 bz all b dL
   simp only [fG,List.map_cons,aV] at this ⊢
   rw [this]
structure yZ (c:dp) (n:Nat) (eM:List (Option Nat)) (hs:List fD) (E:List (Nat×I)) (L:List aT) (a9:Array Bool) (bz:Nat→Nat) (dL:List Nat) (b:Nat) (a:Act) (W:World):Prop where
 st:bV c E (eA L (hs.take b)++fG bz hs b dL) a W
 done:∀ (j:Nat) s h τ,j<n→a9.getD j false=true→eM[j]? =some (some s)→hs[j]? =some h→h.sc (bz j)=some τ→ ∃ v,a.tmps[s]? =some v∧τ.holds (aV (eA L (hs.take b)++fG bz hs b dL)++c.ca) W v
 news:∀ (j:Nat),j∈dL↔ (j<n∧a9.getD j false=true∧ ∃ cp,hs[j]? =some (.new cp))
 stored:∀ (j:Nat) h,hs[j]? =some h→h.oj=true→ (a9.getD j false=true↔j<b)
 ble:b≤n
theorem Ws {hs:List fD} {b i:Nat} {h:fD} (hb:b≤i) (ak:hs[i]? =some h) (aR:∀ (j:Nat) x,b≤j→j<i→hs[j]? =some x→x.oj=false):
 ∃ r,hs.take i=hs.take b++r∧ ∀ x∈r,x.oj=false:=by
 refine⟨(hs.drop b).take (i - b),?_,fun x aq=>?_⟩
 ·rw [← List.take_add]; congr 1; omega
 obtain⟨j,aE⟩:=List.mem_iff_getElem?.1 aq
 rw [List.getElem?_take] at aE
 split at aE
 ·rw [List.getElem?_drop] at aE
  exact aR (b+j) x (by omega) (by omega) aE
 cases aE
theorem Io (L:List aT) (r s:List fD):eA L (r++s)=eA (eA L r) s:=by
 induction r generalizing L with
 | nil=>rfl
 | cons x r bR=>cases x <;> simp only [List.cons_append,eA] <;> exact bR _
theorem HV (j:Nat) (cp:dZ) (r s:List fD):ja j cp (r++s)=ja j (ja j cp r) s:=by
 induction r generalizing cp with
 | nil=>rfl
 | cons x r bR=>cases x <;> simp only [List.cons_append,ja] <;> exact bR _
theorem vR {L R:List aT} (h:L.Perm R):(aV L).Perm (aV R):=by
 induction h with
 | nil=>exact .nil
 | cons x _ bR=>cases aw:x.key <;> simp only [aV,aw] <;> first | exact bR | exact bR.cons _
 | swap x y l=>
   cases aq:x.key <;> cases a6:y.key <;> simp only [aV,aq,a6]
   all_goals first | exact .refl _ | exact .swap _ _ _
 | trans _ _ aa ad=>exact aa.trans ad
theorem bV.perm {E L ax a W} (h:bV c E L a W) (p:L.Perm ax):bV c E ax a W:=
 h.sub (fun e he=>p.mem_iff.2 he) ((vR p).nodup_iff.1 h.nodup)
theorem AH {j:Nat} {cp:dZ} :∀ {r:List fD},(∀ q x,fD.mH q x∈r→q≠j)→ja j cp r=cp
 | [],_=>rfl
 | .mH q x::r,h=>by
   have aa:=h q x (by simp)
   have e:Nat.beq q j=false:=by
    cases hb:Nat.beq q j with
    | false=>rfl
    | true=>exact absurd (eD.1 hb) aa
   simp only [ja,e,cond_false]
   exact AH fun q x hm=>h q x (by simp [hm])
 | .val _::r,h=>AH (r:=r) fun q x hm=>h q x (by simp [hm])
 | .new _::r,h=>AH (r:=r) fun q x hm=>h q x (by simp [hm])
 | .kF _ _::r,h=>AH (r:=r) fun q x hm=>h q x (by simp [hm])
theorem MJ (f:Nat→Nat):∀ (l:List Nat),(l.map f).Nodup→l.Nodup
 | [],_=>by simp
 | x::r,h=>by
   simp only [List.map_cons] at h
   obtain⟨aa,ad⟩:=List.nodup_cons.1 h
   exact List.nodup_cons.2 ⟨fun hm=>aa (List.mem_map.2 ⟨x,hm,rfl⟩),MJ f r ad⟩
theorem Xc {bz nG:Nat→Nat} {all:List fD} {b:Nat} {dL:List Nat} (h:∀ j∈dL,nG j=bz j):fG nG all b dL=fG bz all b dL:=by
 unfold fG
 exact List.map_congr_left fun j aE=>by rw [h j aE]
theorem VQ {n:Nat} {eM:List (Option Nat)} {hs:List fD} {s8:List (List Nat)} (h1:FD ops n eM s8 (hs.map fD.oj) c.n=true) (aG:B7 E (eM.filterMap id)=true) (hlen:hs.length=n)
 (cE:∀ bz,rM c ops bz eM hs E L 0 ops.toList hs s8) (b1:∀ bz,ai c ops Q (ops.toList.drop n) (uM bz E 0 eM hs) (my bz hs (eA L hs) 0 hs)):
 ∀ m (a9:Array Bool) (bz:Nat→Nat) (dL:List Nat) (b:Nat) (a:Act) (W:World),((List.range n).filter fun i=> !a9.getD i true).length≤m→HeadInv .any ops n a9→yZ c n eM hs E L a9 bz dL b a W→
   wpAnyIn c.F 9 c.P .any ops Q (m+(ops.size - n)) a9 a W:=by
 simp only [FD,Bool.and_eq_true,decide_eq_true_eq,Bool.or_eq_true] at h1
 obtain⟨⟨⟨⟨⟨⟨⟨⟨pb,aR⟩,cD⟩,gW⟩,abI⟩,Qv⟩,abJ⟩,wv⟩,qv⟩:=h1
 have th:∀ i,i<n→ ∃ o,ops[i]? =some o∧eM[i]? =some o.dst∧ ∀ e∈o.after,Region.binds .any e=true→e.on<i:=by
  intro i ak
  have aa:=List.all_eq_true.1 abI i (List.mem_range.2 ak)
  cases bm:ops[i]? with
  | none=>simp [bm] at aa
  | some o=>
    simp only [bm,Option.map_some,Option.getD_some,Bool.and_eq_true,beq_iff_eq] at aa
    refine⟨o,rfl,aa.1.symm,fun e he hb=>?_⟩
    have:=Array.all_eq_true_iff_forall_mem.1 aa.2 e he
    simp [hb] at this
    exact this
 have FQ:∀ (i s:Nat),eM[i]? =some (some s)→s<c.n:=fun i s h=>by
  have:s∈eM.filterMap id:=List.mem_filterMap.2 ⟨some s,List.mem_of_getElem? h,rfl⟩
  have:=List.all_eq_true.1 cD s this
  simpa using this
 have Rc:∀ (i j s:Nat),eM[i]? =some (some s)→eM[j]? =some (some s)→i=j:=by
  have key:∀ (l:List (Option Nat)),(l.filterMap id).Nodup→ ∀ (i j s:Nat),l[i]? =some (some s)→l[j]? =some (some s)→i=j:=by
   intro l
   induction l with
   | nil=>intro _ i j s h; simp at h
   | cons x r bR=>
     intro gW i j s ak aE
     have aQ:(r.filterMap id).Nodup:=by
      cases x with
      | none=>simpa using gW
      | some y=>simp only [List.filterMap_cons_some (f:=id) (a:=some y) (b:=y) rfl] at gW; exact(List.nodup_cons.1 gW).2
     have qu:x=some s→s ∉ r.filterMap id:=fun e=>by
      subst e
      simp only [List.filterMap_cons_some (f:=id) (a:=some s) (b:=s) rfl] at gW
      exact(List.nodup_cons.1 gW).1
     cases i with
     | zero=>
       simp only [List.getElem?_cons_zero,Option.some.injEq] at ak
       cases j with
       | zero=>rfl
       | succ j=>
         simp only [List.getElem?_cons_succ] at aE
         exact absurd (List.mem_filterMap.2 ⟨some s,List.mem_of_getElem? aE,rfl⟩:s∈r.filterMap id) (qu ak)
     | succ i=>
       simp only [List.getElem?_cons_succ] at ak
       cases j with
       | zero=>
         simp only [List.getElem?_cons_zero,Option.some.injEq] at aE
         exact absurd (List.mem_filterMap.2 ⟨some s,List.mem_of_getElem? ak,rfl⟩:s∈r.filterMap id) (qu aE)
       | succ j=>
         simp only [List.getElem?_cons_succ] at aE
         rw [bR aQ i j s ak aE]
  exact key eM gW
 intro m
 induction m with
 | zero=>
   intro a9 bz dL b a W hm inv mid
   have jG:∀ i,i<n→a9.getD i true=true:=by
    intro i ak
    cases h:a9.getD i true with
    | true=>rfl
    | false=>
      have:i∈ (List.range n).filter fun i=> !a9.getD i true:=List.mem_filter.2 ⟨List.mem_range.2 ak,by rw [h]; rfl⟩
      rw [List.length_eq_zero_iff.1 (Nat.le_zero.1 hm)] at this
      cases this
   have ao:=HD inv aR jG
   rw [← ao] at qv
   have m5:(ops.toList.drop n).length=ops.size - n:=by simp
   rw [Nat.zero_add,← m5]
   rw [← m5] at qv
   refine An (ops.toList.drop n) n a9 a W (fun j=>by simp) qv (b1 bz a W ?_)
   have n7:∀ j,j<n→a9.getD j false=true:=fun j ti=>by
    have aF:=jG j ti
    have aX:j<a9.size:=by rw [inv.size]; omega
    simpa [aX] using aF
   have ti:∀ (j:Nat) (h:fD),hs[j]? =some h→j<n:=fun j h aE=>by have:=(List.getElem?_eq_some_iff.1 aE).1; omega
   have Pf:∀ x∈hs.drop b,x.oj=false:=fun x aq=>by
    obtain⟨j,aE⟩:=List.mem_iff_getElem?.1 aq
    rw [List.getElem?_drop] at aE
    cases h6:x.oj with
    | false=>rfl
    | true=>
      have:=(mid.stored (b+j) x aE h6).1 (n7 _ (ti _ _ aE))
      omega
   have Rd:eA L hs=eA L (hs.take b):=by
    conv=>lhs; rw [← List.take_append_drop b hs]
    rw [Io,Ev Pf]
   have Ks:∀ (j:Nat) cp,ja j cp hs=ja j cp (hs.take b):=fun j cp=>by
    conv=>lhs; rw [← List.take_append_drop b hs]
    rw [HV,El Pf]
   have Ju:(dL.map bz).Nodup:=by
    have:=mid.st.nodup
    rw [fv,A8] at this
    exact(List.nodup_append.1 this).2.1
   have abK:∀ (j k:Nat),j∈dL→k∈dL→bz j=bz k→j=k:=by
    have key:∀ (l:List Nat),(l.map bz).Nodup→ ∀ j k:Nat,j∈l→k∈l→bz j=bz k→j=k:=by
     intro l
     induction l with
     | nil=>intro _ j k h; cases h
     | cons x r acy=>
       intro aR j k aE aw e
       simp only [List.map_cons] at aR
       obtain⟨aa,ad⟩:=List.nodup_cons.1 aR
       rcases List.mem_cons.1 aE with aF | aE
       ·rcases List.mem_cons.1 aw with aX | aw
        ·rw [aF,aX]
        exact absurd (List.mem_map.2 ⟨k,aw,by rw [← e,aF]⟩) aa
       rcases List.mem_cons.1 aw with aX | aw
       ·exact absurd (List.mem_map.2 ⟨j,aE,by rw [e,aX]⟩) aa
       exact acy ad j k aE aw e
    exact key dL Ju
   have Kt:∀ (j:Nat) cp,hs[j]? =some (.new cp)→j∈dL:=fun j cp aE=>(mid.news j).2 ⟨ti j _ aE,n7 j (ti j _ aE),cp,aE⟩
   have Jv:∀ e∈my bz hs [] 0 hs,e∈fG bz hs b dL:=fun e he=>by
    obtain⟨j,cp,aa,ad⟩:=HN he
    rw [Nat.zero_add] at ad
    refine List.mem_map.2 ⟨j,Kt j cp aa,?_⟩
    simp only [aa]
    rw [ad,Ks]
   have Rz:bV c E (my bz hs (eA L hs) 0 hs) a W:=by
    rw [x2,Rd]
    refine mid.st.sub (fun e he=>?_) ?_
    ·rcases List.mem_append.1 he with he | he
     ·exact List.mem_append.2 (.inr (Jv e he))
     exact List.mem_append.2 (.inl he)
    rw [fv]
    have fq:=mid.st.nodup
    rw [fv,A8] at fq
    obtain⟨aa,ad,aF⟩:=List.nodup_append.1 fq
    refine List.nodup_append.2 ⟨Mw hs 0 fun j k u v ay aO cK=>?_,aa,fun x aq y a6 e=>?_⟩
    ·simp only [Nat.zero_add] at cK
     exact abK j k (Kt j u ay) (Kt k v aO) cK
    subst e
    obtain⟨e,he,u1⟩:=lB.1 aq
    have:x∈aV (fG bz hs b dL):=lB.2 ⟨e,Jv e he,u1⟩
    rw [A8] at this
    exact aF x a6 x this rfl
   have lh:∀ k∈aV (my bz hs (eA L hs) 0 hs)++c.ca,k∈aV (eA L (hs.take b)++fG bz hs b dL)++c.ca:=fun k aw=>by
    rw [x2,fv,Rd] at aw
    rw [fv]
    simp only [List.mem_append] at aw ⊢
    rcases aw with(aw | aw) | aw
    ·obtain⟨e,he,u1⟩:=lB.1 aw
     exact .inl (.inr (lB.2 ⟨e,Jv e he,u1⟩))
    ·exact .inl (.inl aw)
    exact .inr aw
   refine { Rz with env:=fun t τ eU=>?_ }
   rcases Nh 0 eU with⟨j,aa,h,ad,aF⟩ | aa
   ·rw [Nat.zero_add] at aF
    obtain⟨v,aX,a0⟩:=mid.done j t h τ (ti j h ad) (n7 j (ti j h ad)) aa ad aF
    exact⟨v,aX,τ.mono (.drop lh) a0⟩
   exact Rz.env t τ aa
 | succ m bR=>
   intro a9 bz dL b a W hm inv mid
   by_cases jG:∀ i,i<n→a9.getD i true=true
   ·have bT:((List.range n).filter fun i=> !a9.getD i true).length≤m:=by
     have:((List.range n).filter fun i=> !a9.getD i true)= []:=List.filter_eq_nil_iff.2 fun i ak=>by simp [jG i (List.mem_range.1 ak)]
     rw [this]; simp
    have aa:=bR a9 bz dL b a W bT inv mid
    have more:∀ f (a9:Array Bool) a W,wpAnyIn c.F 9 c.P .any ops Q f a9 a W→wpAnyIn c.F 9 c.P .any ops Q (f+1) a9 a W:=by
     intro f
     induction f with
     | zero=>intro a9 a W h; exact⟨fun _=>h.2,fun i ak=>by rw [h.1] at ak; cases ak⟩
     | succ f Cu=>intro a9 a W h; exact⟨h.1,fun i ak=>wpOpIn_mono (fun gz q6 dc=>Cu _ gz q6 dc) (h.2 i ak)⟩
    rw [show m+1+(ops.size - n)=(m+(ops.size - n))+1 by omega]
    exact more _ _ _ _ aa
   rw [show m+1+(ops.size - n)=(m+(ops.size - n))+1 by omega]
   have hex:∃ i,i<n∧a9.getD i true=false:=by
    have aa: ¬ ∀ i,i<n→a9.getD i true=true:=jG
    false_or_by_contra
    rename_i ad
    exact aa fun i ak=>by
     cases h:a9.getD i true with
     | true=>rfl
     | false=>exact absurd ⟨i,ak,h⟩ ad
   have Bi:∀ t∈Region.ready .any ops a9,t<n:=by
    intro t qJ
    rcases Nat.lt_or_ge t n with h | h
    ·exact h
    obtain⟨i,ak,iT⟩:=hex
    rcases wv with aa | aa
    ·obtain⟨_,o,bm,_⟩:=mem_ready.1 qJ
     have:=(Array.getElem?_eq_some_iff.1 bm).1
     omega
    have Re:n<ops.size:=by
     obtain⟨_,o,bm,_⟩:=mem_ready.1 qJ
     have:=(Array.getElem?_eq_some_iff.1 bm).1
     omega
    exact absurd qJ (tail_waits aa.1 aa.2 Re inv _ i rfl ak iT t h)
   refine⟨fun bT=>?_,fun i ak=>?_⟩
   ·exfalso
    have X0:∀ k,∀ i,i≤k→i<n→a9.getD i true=false→ ∃ i,i<n∧a9.getD i true=false∧ ∀ j,j<i→a9.getD j true=true:=by
     intro k
     induction k with
     | zero=>intro i iS ak hu; exact⟨i,ak,hu,fun j aE=>by omega⟩
     | succ k Cv=>
       intro i iS ak hu
       by_cases hq:∀ j,j<i→a9.getD j true=true
       ·exact⟨i,ak,hu,hq⟩
       have:∃ j,j<i∧a9.getD j true=false:=by
        false_or_by_contra
        rename_i ad
        exact hq fun j aE=>by
         cases h:a9.getD j true with
         | true=>rfl
         | false=>exact absurd ⟨j,aE,h⟩ ad
       obtain⟨j,aE,acz⟩:=this
       exact Cv j (by omega) (by omega) acz
    obtain⟨i0,w2,acA⟩:=hex
    obtain⟨i,ak,hu,J0⟩:=X0 i0 i0 (Nat.le_refl _) w2 acA
    obtain⟨o,bm,_,Bj⟩:=th i ak
    have:i∈Region.ready .any ops a9:=mem_ready.2 ⟨hu,o,bm,fun e he hb=>by
     have aa:=J0 e.on (Bj e he hb)
     have ad:e.on<a9.size:=by rw [inv.size]; have:=Bj e he hb; omega
     simpa [ad] using aa⟩
    rw [bT] at this
    cases this
   have eE:=Bi i ak
   obtain⟨o,bm,m6,Bj⟩:=th i eE
   obtain⟨iT,o',tg,n7⟩:=mem_ready.1 ak
   have acB:o'=o:=Option.some.inj (tg.symm.trans bm)
   subst acB
   obtain⟨h,dD⟩:∃ h,hs[i]? =some h:=⟨hs[i]'(by omega),by simp⟩
   obtain⟨cv,fx,j8⟩:=HM (cE bz) i h dD
   have abL:cv=o':=by
    rw [Array.getElem?_toList] at fx
    exact Option.some.inj (fx.symm.trans bm)
   subst abL
   have qw:((List.range n).filter fun j=> !(a9.setIfInBounds i true).getD j true).length≤m:=by
    have:((List.range n).filter fun j=> !(a9.setIfInBounds i true).getD j true).length<((List.range n).filter fun j=> !a9.getD j true).length:=by
     refine Fe (fun j=> !a9.getD j true) (fun j=> !(a9.setIfInBounds i true).getD j true) i (by simp only [iT]; rfl) ?_ (fun j aE=>?_) n eE
     ·have:i<a9.size:=by rw [inv.size]; omega
      simp [this]
     by_cases e:i=j
     ·subst e; simp only [iT]; rfl
     rw [getD_set_ne true e] at aE; exact aE
    omega
   have s9:=inv.set ak eE
   have qx:i<a9.size:=by rw [inv.size]; omega
   have yH:(a9.setIfInBounds i true).getD i false=true:=by simp [qx]
   have kk:a9.getD i false=false:=getD_both iT
   have abM:i ∉ dL:=fun hm=>by have:=((mid.news i).1 hm).2.1; rw [kk] at this; cases this
   have FR:∀ j∈s8.getD i [],j<n∧a9.getD j false=true:=fun j aE=>by
    have aF:=List.all_eq_true.1 (List.all_eq_true.1 Qv i (List.mem_range.2 eE)) j aE
    simp only [Bool.and_eq_true,decide_eq_true_eq] at aF
    obtain⟨k3,ix,e,he,hb,lK⟩:=Region.waitsFor_spec aF.2
    have:k3=cv:=Option.some.inj (ix.symm.trans bm)
    subst this
    have aX:=n7 e he hb
    rw [lK] at aX
    exact⟨aF.1,aX⟩
   have kH:bV c (he bz eM hs E (s8.getD i [])) (eA L (hs.take b)++fG bz hs b dL) a W:=by
    refine { mid.st with env:=fun t σ eU=>?_ }
    rcases Oq eU with⟨j,aE,aa,x,ad,aF⟩ | aa
    ·exact mid.done j t x σ (FR j aE).1 (FR j aE).2 aa ad aF
    exact mid.st.env t σ aa
   have Ot:h.oj=true→b≤i∧ ∃ r,hs.take i=hs.take b++r∧ ∀ x∈r,x.oj=false:=fun Rf=>by
    have Gh:b≤i:=by
     rcases Nat.lt_or_ge i b with aa | aa
     ·have:=(mid.stored i h dD Rf).2 aa
      rw [kk] at this; cases this
     exact aa
    refine⟨Gh,Ws Gh dD fun j x y0 k0 aq=>?_⟩
    cases h6:x.oj with
    | false=>rfl
    | true=>
      have aF:=List.all_eq_true.1 abJ i (List.mem_range.2 eE)
      have ay:(hs.map fD.oj).getD i false=true:=by simp [dD,Rf]
      simp only [ay,Bool.not_true,Bool.false_or] at aF
      have aX:=List.all_eq_true.1 aF j (List.mem_range.2 k0)
      have aO:(hs.map fD.oj).getD j false=true:=by simp [aq,h6]
      simp only [aO,Bool.not_true,Bool.false_or] at aX
      obtain⟨k3,ix,e,he,hb,lK⟩:=Region.waitsFor_spec aX
      have:k3=cv:=Option.some.inj (ix.symm.trans bm)
      subst this
      have a0:=n7 e he hb
      rw [lK] at a0
      have:=(mid.stored j x aq h6).1 a0
      omega
   unfold wpOpIn
   simp only [bm]
   cases h with
   | val τ=>
     simp only at j8
     have acC:=j8 (eA L (hs.take b)++fG bz hs b dL) (fun j e aE hu=>by
      have aa:(eA L (hs.take b))[j]? =some e:=by
       rw [AM b 0 hu (fun q hq ⟨GL,cp',aq⟩=>by
        have acD:=(mid.stored q _ aq rfl).2 hq
        cases hw:Region.waitsFor .any ops (0+q) (0+i) with
        | false=>rfl
        | true=>
          obtain⟨Ku,FT,e',Gi,qK,Rg⟩:=Region.waitsFor_spec hw
          rw [Nat.zero_add] at FT Rg
          have:=inv.closed q Ku FT acD e' Gi qK
          rw [Rg,kk] at this
          cases this)]
       exact aE
      rw [List.getElem?_append_left (List.getElem?_eq_some_iff.1 aa).1]; exact aa)
     obtain⟨aa,ad⟩:=acC a W kH
     have FE:∀ v W',Fr [] W W'→τ.holds (aV (eA L (hs.take b)++fG bz hs b dL)++c.ca) W' v→yZ c n eM hs E L (a9.setIfInBounds i true) bz dL b (a.put cv.dst v) W':=by
      intro v W' f a2
      have j6:=mid.st.world f
      refine⟨?_,fun j cl x σ aE ao fl aq me=>?_,fun j=>?_,fun j x aq h6=>?_,mid.ble⟩
      ·cases hd:cv.dst with
       | none=>exact j6
       | some s=>
         rw [hd] at m6
         refine { (j6.put (d:=s) (FQ i s m6) a2) with env:=fun t σ eU=>?_ }
         have dm:s≠t:=fun e=>HL aG t σ eU (by rw [← e]; exact List.mem_filterMap.2 ⟨some s,List.mem_of_getElem? m6,rfl⟩)
         obtain⟨u,a0,bn⟩:=j6.env t σ eU
         exact⟨u,by simp only [Act.put]; rw [Array.getElem?_setIfInBounds_ne dm]; exact a0,bn⟩
      ·by_cases e:i=j
       ·subst e
        rw [m6] at fl
        rw [dD] at aq
        cases aq
        simp only [fD.sc,Option.some.injEq] at me
        subst me
        simp only [Option.some.injEq] at fl
        rw [fl]
        exact⟨v,by rw [fl] at m6; simp [Act.put,j6.size,FQ i cl m6],a2⟩
       rw [getD_set_ne false e] at ao
       obtain⟨u,a0,bn⟩:=mid.done j cl x σ aE ao fl aq me
       refine⟨u,?_,σ.mono (.dQ f) bn⟩
       cases hd:cv.dst with
       | none=>exact a0
       | some s=>
         rw [hd] at m6
         have dm:s≠cl:=fun aO=>e (Rc i j s m6 (by rw [aO]; exact fl))
         simp only [Act.put]; rw [Array.getElem?_setIfInBounds_ne dm]; exact a0
      ·rw [mid.news j]
       by_cases e:i=j
       ·subst e
        constructor
        ·rintro ⟨_,a0,_⟩; rw [kk] at a0; cases a0
        rintro ⟨_,_,cp,a0⟩; rw [dD] at a0; cases a0
       rw [getD_set_ne false e]
      have e:i≠j:=fun e=>by subst e; rw [dD] at aq; cases aq; cases h6
      rw [getD_set_ne false e]
      exact mid.stored j x aq h6
     split
     ·rename_i hw
      exact(aa hw).wpIn fun v W' ⟨f,a2⟩=>bR _ bz dL b _ _ qw s9 (FE v W' f a2)
     rename_i hw
     have Gj:Region.wanted cv (yielded ops a.tmps)=false:=by simpa using hw
     exact⟨fun _ _=>trivial,bR _ bz dL b _ _ qw s9 (FE undef W (.refl _ _) (ad Gj))⟩
   | new cp=>
     simp only at j8
     obtain⟨Cw,kt,e3,kl⟩:=j8
     have ZX:∀ q x,fD.mH q x∈hs.take b→q≠i:=fun q x hm e=>by
      subst e
      obtain⟨j,aE⟩:=List.mem_iff_getElem?.1 hm
      rw [List.getElem?_take] at aE
      split at aE
      ·rename_i Cx
       have acE:=(mid.stored j _ aE rfl).2 Cx
       have ti:j<n:=by have:=(List.getElem?_eq_some_iff.1 aE).1; omega
       obtain⟨k3,ix,RA⟩:=HM (cE bz) j _ aE
       simp only at RA
       have aF:=List.all_eq_true.1 (List.all_eq_true.1 Qv j (List.mem_range.2 ti)) q (by simpa using RA.1)
       simp only [Bool.and_eq_true,decide_eq_true_eq] at aF
       obtain⟨Ku,FT,e,he,hb,lK⟩:=Region.waitsFor_spec aF.2
       have:=inv.closed j Ku FT acE e he hb
       rw [lK,kk] at this
       cases this
      cases aE
     have FU:ja i cp (hs.take b)=cp:=AH ZX
     let nG:Nat→Nat:=fun j=>if j=i then W.heap.size else bz j
     have Kv:∀ j,j∈dL→nG j=bz j:=fun j aE=>if_neg (fun e=>abM (by rw [← e]; exact aE))
     have Kw:nG i=W.heap.size:=if_pos rfl
     have rZ:eA L (hs.take b)++fG nG hs b (i::dL)=eA L (hs.take b)++(⟨some W.heap.size,cp⟩::fG bz hs b dL):=by
      have:fG nG hs b (i::dL)=⟨some W.heap.size,cp⟩::fG nG hs b dL:=by simp only [fG,List.map_cons,dD,Kw,FU]
      rw [this,Xc Kv]
     have B8:yZ c n eM hs E L (a9.setIfInBounds i true) nG (i::dL) b (a.put cv.dst (.pointer (some ⟨W.heap.size,0,none⟩))) (W.alloc kt):=by
      have j6:bV c E (eA L (hs.take b)++fG nG hs b (i::dL)) a (W.alloc kt):=by
       rw [rZ]
       exact(mid.st.alloc (e3 _ _)).perm List.perm_middle.symm
      have hP:Ext (aV (eA L (hs.take b)++fG bz hs b dL)++c.ca) W (aV (eA L (hs.take b)++fG nG hs b (i::dL))++c.ca) (W.alloc kt):=by
       refine⟨by simp,fun k aw _=>Bh W kt k aw,fun k aw cD=>?_⟩
       rw [rZ] at aw
       simp only [fv,aV,List.mem_append,List.mem_cons] at aw ⊢
       rcases aw with(h | h | h) | h
       ·exact .inl (.inl h)
       ·omega
       ·exact .inl (.inr h)
       exact .inr h
      refine⟨?_,fun j cl x σ aE ao fl aq me=>?_,fun j=>?_,fun j x aq h6=>?_,mid.ble⟩
      ·cases hd:cv.dst with
       | none=>exact j6
       | some s=>
         rw [hd] at m6
         refine { (j6.put (d:=s) (τ:= .any) (FQ i s m6) trivial) with env:=fun t σ eU=>?_ }
         have dm:s≠t:=fun e=>HL aG t σ eU (by rw [← e]; exact List.mem_filterMap.2 ⟨some s,List.mem_of_getElem? m6,rfl⟩)
         obtain⟨u,a0,bn⟩:=j6.env t σ eU
         exact⟨u,by simp only [Act.put]; rw [Array.getElem?_setIfInBounds_ne dm]; exact a0,bn⟩
      ·by_cases e:i=j
       ·subst e
        rw [m6] at fl
        rw [dD] at aq
        cases aq
        simp only [fD.sc,Option.some.injEq] at me
        subst me
        simp only [Option.some.injEq] at fl
        rw [fl]
        exact⟨.pointer (some ⟨W.heap.size,0,none⟩),by rw [fl] at m6; simp [Act.put,j6.size,FQ i cl m6],by rw [Kw]; rfl⟩
       rw [getD_set_ne false e] at ao
       have acF:nG j=bz j:=if_neg (fun e'=>e e'.symm)
       rw [acF] at me
       obtain⟨u,a0,bn⟩:=mid.done j cl x σ aE ao fl aq me
       refine⟨u,?_,σ.mono hP bn⟩
       cases hd:cv.dst with
       | none=>exact a0
       | some s=>
         rw [hd] at m6
         have dm:s≠cl:=fun aO=>e (Rc i j s m6 (by rw [aO]; exact fl))
         simp only [Act.put]; rw [Array.getElem?_setIfInBounds_ne dm]; exact a0
      ·rw [List.mem_cons,mid.news j]
       by_cases e:i=j
       ·subst e
        exact⟨fun _=>⟨eE,yH,cp,dD⟩,fun _=>.inl rfl⟩
       rw [getD_set_ne false e]
       exact⟨fun h=>h.resolve_left (fun e'=>e e'.symm),.inr⟩
      have e:i≠j:=fun e=>by subst e; rw [dD] at aq; cases aq; cases h6
      rw [getD_set_ne false e]
      exact mid.stored j x aq h6
     rw [if_pos (by simp [Region.wanted,Cw])]
     refine Ur (kl a W) ?_
     exact bR _ nG (i::dL) b _ _ qw s9 B8
   | kF q cp=>
     simp only at j8
     obtain⟨Gh,r,pc,pd⟩:=Ot rfl
     have RB:eA L (hs.take i)=eA L (hs.take b):=by rw [pc,Io,Ev pd]
     rw [Nat.zero_add,RB] at j8
     obtain⟨p,nF,hq,u2⟩:=j8
     have jm:(eA L (hs.take b)++fG bz hs b dL)[q]? =some ⟨some p,nF⟩:=by
      rw [List.getElem?_append_left (List.getElem?_eq_some_iff.1 hq).1]; exact hq
     obtain⟨Cw,B9,u2⟩:=u2 (eA L (hs.take b)++fG bz hs b dL) (fun j e aE=>by
      rw [List.getElem?_append_left (List.getElem?_eq_some_iff.1 aE).1]; exact aE)
     obtain⟨cs,eh,T,aa,ad,aF⟩:=u2 a W kH
     have u0:=mid.st.store jm aa aF
     have yQ:hs.take (i+1)=hs.take i++[.kF q cp]:=by rw [List.take_add_one,dD]; rfl
     have w3:eA L (hs.take (i+1))=(eA L (hs.take b)).set q ⟨some p,cp⟩:=by
      rw [yQ,M1,RB]
      simp only [eA]
      exact VP hq
     have Kx:fG bz hs (i+1) dL=fG bz hs b dL:=by
      unfold fG
      refine List.map_congr_left fun j _=>?_
      congr 1
      split
      ·rw [yQ,HA,pc,HV,El pd]; rfl
      rfl
     have Cy:eA L (hs.take (i+1))++fG bz hs (i+1) dL=(eA L (hs.take b)++fG bz hs b dL).set q ⟨some p,cp⟩:=by
      rw [w3,Kx,List.set_append_left _ _ (List.getElem?_eq_some_iff.1 hq).1]
     have lL:aV (eA L (hs.take (i+1))++fG bz hs (i+1) dL)=aV (eA L (hs.take b)++fG bz hs b dL):=by rw [Cy]; exact yq (cp:=cp) jm
     have mf:p∈aV (eA L (hs.take b)++fG bz hs b dL):=lB.2 ⟨_,List.mem_of_getElem? jm,rfl⟩
     have hP:Ext (aV (eA L (hs.take b)++fG bz hs b dL)++c.ca) W (aV (eA L (hs.take b)++fG bz hs b dL)++c.ca) (W.setRow p eh):=
      ⟨by simp,fun k _ bp=>setRow_other W p k eh (fun e=>bp (e ▸ List.mem_append.2 (.inl mf))),fun _ h _=>h⟩
     have B8:yZ c n eM hs E L (a9.setIfInBounds i true) bz dL (i+1) (a.put cv.dst undef) (W.setRow p eh):=by
      rw [B9]
      refine⟨by rw [Cy]; exact u0,fun j cl x σ aE ao fl aq me=>?_,fun j=>?_,fun j x aq h6=>?_,eE⟩
      ·rw [lL]
       by_cases e:i=j
       ·subst e; rw [dD] at aq; cases aq; cases me
       rw [getD_set_ne false e] at ao
       obtain⟨u,a0,bn⟩:=mid.done j cl x σ aE ao fl aq me
       exact⟨u,a0,σ.mono hP bn⟩
      ·rw [mid.news j]
       by_cases e:i=j
       ·subst e
        constructor
        ·rintro ⟨_,a0,_⟩; rw [kk] at a0; cases a0
        rintro ⟨_,_,cp,a0⟩; rw [dD] at a0; cases a0
       rw [getD_set_ne false e]
      by_cases e:i=j
      ·subst e; exact⟨fun _=>by omega,fun _=>yH⟩
      rw [getD_set_ne false e,mid.stored j x aq h6]
      constructor
      ·intro _; omega
      intro aE
      rcases Nat.lt_or_ge j b with a0 | a0
      ·exact a0
      have:x∈r:=by
       have bn:(hs.take i)[j]? =some x:=by rw [List.getElem?_take,if_pos (by omega)]; exact aq
       rw [pc,List.getElem?_append_right (by rw [List.length_take]; omega)] at bn
       exact List.mem_of_getElem? bn
      have:=pd x this
      rw [h6] at this; cases this
     rw [if_pos (by simp [Region.wanted,Cw])]
     refine MI ad ?_
     exact bR _ bz dL (i+1) _ _ qw s9 B8
   | mH q cp=>
     simp only at j8
     obtain⟨Gh,r,pc,pd⟩:=Ot rfl
     obtain⟨Rh,nF,tj,u2⟩:=j8
     rw [Nat.zero_add] at u2
     have FU:∀ (j:Nat) x,ja j x (hs.take i)=ja j x (hs.take b):=fun j x=>by rw [pc,HV,El pd]
     have abN:q∈dL:=(mid.news q).2 ⟨(FR q (by simpa using Rh)).1,(FR q (by simpa using Rh)).2,nF,tj⟩
     obtain⟨k,aw⟩:=List.mem_iff_getElem?.1 abN
     have uN:(fG bz hs b dL)[k]? =some ⟨some (bz q),ja q nF (hs.take i)⟩:=by
      simp only [fG,List.getElem?_map,aw,Option.map_some,tj,FU]
     have jm:(eA L (hs.take b)++fG bz hs b dL)[(eA L (hs.take b)).length+k]? =some ⟨some (bz q),ja q nF (hs.take i)⟩:=by
      rw [List.getElem?_append_right (by omega),Nat.add_sub_cancel_left]; exact uN
     obtain⟨Cw,B9,u2⟩:=u2 (eA L (hs.take b)++fG bz hs b dL) _ jm
     obtain⟨cs,eh,T,aa,ad,aF⟩:=u2 a W kH
     have u0:=mid.st.store jm aa aF
     have yQ:hs.take (i+1)=hs.take i++[.mH q cp]:=by rw [List.take_add_one,dD]; rfl
     have w3:eA L (hs.take (i+1))=eA L (hs.take b):=by
      rw [yQ,M1]
      simp only [eA]
      rw [pc,Io,Ev pd]
     have Ju:dL.Nodup:=by
      have:=mid.st.nodup
      rw [fv,A8] at this
      exact MJ bz dL (List.nodup_append.1 this).2.1
     have Kx:fG bz hs (i+1) dL=(fG bz hs b dL).set k ⟨some (bz q),cp⟩:=by
      apply List.ext_getElem?
      intro j
      rw [List.getElem?_set]
      by_cases e:k=j
      ·subst e
       have Cz:k<(fG bz hs b dL).length:=(List.getElem?_eq_some_iff.1 uN).1
       rw [if_pos rfl,if_pos Cz]
       simp only [fG,List.getElem?_map,aw,Option.map_some,tj]
       rw [yQ,HA]
       simp [ja]
      rw [if_neg e]
      simp only [fG,List.getElem?_map]
      cases aE:dL[j]? with
      | none=>rfl
      | some x=>
        have Ky:x≠q:=fun aO=>by
         subst aO
         obtain⟨dA,dK⟩:=List.getElem?_eq_some_iff.1 aE
         obtain⟨eo,fb⟩:=List.getElem?_eq_some_iff.1 aw
         exact e ((List.getElem_inj Ju).1 (fb.trans dK.symm))
        simp only [Option.map_some]
        congr 2
        split
        ·rw [yQ,HA,FU]
         have:Nat.beq q x=false:=by
          cases hb:Nat.beq q x with
          | false=>rfl
          | true=>exact absurd (eD.1 hb).symm Ky
         simp [ja,this]
        rfl
     have Cy:eA L (hs.take (i+1))++fG bz hs (i+1) dL=(eA L (hs.take b)++fG bz hs b dL).set ((eA L (hs.take b)).length+k) ⟨some (bz q),cp⟩:=by
      rw [w3,Kx,List.set_append_right _ _ (by omega),Nat.add_sub_cancel_left]
     have lL:aV (eA L (hs.take (i+1))++fG bz hs (i+1) dL)=aV (eA L (hs.take b)++fG bz hs b dL):=by rw [Cy]; exact yq (cp:=cp) jm
     have mf:bz q∈aV (eA L (hs.take b)++fG bz hs b dL):=lB.2 ⟨_,List.mem_of_getElem? jm,rfl⟩
     have hP:Ext (aV (eA L (hs.take b)++fG bz hs b dL)++c.ca) W (aV (eA L (hs.take b)++fG bz hs b dL)++c.ca) (W.setRow (bz q) eh):=
      ⟨by simp,fun k _ bp=>setRow_other W (bz q) k eh (fun e=>bp (e ▸ List.mem_append.2 (.inl mf))),fun _ h _=>h⟩
     have B8:yZ c n eM hs E L (a9.setIfInBounds i true) bz dL (i+1) (a.put cv.dst undef) (W.setRow (bz q) eh):=by
      rw [B9]
      refine⟨by rw [Cy]; exact u0,fun j cl x σ aE ao fl aq me=>?_,fun j=>?_,fun j x aq h6=>?_,eE⟩
      ·rw [lL]
       by_cases e:i=j
       ·subst e; rw [dD] at aq; cases aq; cases me
       rw [getD_set_ne false e] at ao
       obtain⟨u,a0,bn⟩:=mid.done j cl x σ aE ao fl aq me
       exact⟨u,a0,σ.mono hP bn⟩
      ·rw [mid.news j]
       by_cases e:i=j
       ·subst e
        constructor
        ·rintro ⟨_,a0,_⟩; rw [kk] at a0; cases a0
        rintro ⟨_,_,cp,a0⟩; rw [dD] at a0; cases a0
       rw [getD_set_ne false e]
      by_cases e:i=j
      ·subst e; exact⟨fun _=>by omega,fun _=>yH⟩
      rw [getD_set_ne false e,mid.stored j x aq h6]
      constructor
      ·intro _; omega
      intro aE
      rcases Nat.lt_or_ge j b with a0 | a0
      ·exact a0
      have:x∈r:=by
       have bn:(hs.take i)[j]? =some x:=by rw [List.getElem?_take,if_pos (by omega)]; exact aq
       rw [pc,List.getElem?_append_right (by rw [List.length_take]; omega)] at bn
       exact List.mem_of_getElem? bn
      have:=pd x this
      rw [h6] at this; cases this
     rw [if_pos (by simp [Region.wanted,Cw])]
     refine MI ad ?_
     exact bR _ bz dL (i+1) _ _ qw s9 B8
theorem ag.draw {pe:Nat} {l:List Oper} (hm:c.P.follows .mixedOrders=true) (n:Nat) (eM:List (Option Nat)) (s8:List (List Nat)) (hs:List fD) (Ct:List Bool) (h1:FD l.toArray n eM s8 Ct c.n=true) (xi:hs.map fD.oj=Ct) (aG:B7 E (eM.filterMap id)=true)
 (hlen:Nat.beq hs.length n=true) (cE:∀ bz,rM c l.toArray bz eM hs E L 0 l hs s8)
 (b1:∀ bz:Nat→Nat,ai c l.toArray Q (l.drop n) (uM bz E 0 eM hs) (my bz hs (eA L hs) 0 hs)):ag c Q (.region pe l.toArray true) E L:=fun a W s=>by
 subst xi
 refine wpIn_region_any hm ?_
 have aR:n≤l.toArray.size:=by
  simp only [FD,Bool.and_eq_true,decide_eq_true_eq] at h1
  exact h1.1.1.1.1.1.1.1.2
 have Ca:HeadInv .any l.toArray n (Array.replicate l.toArray.size false):=
  {size:=by simp
   closed:=fun j k3 _ ao=>by rw [getD_replicate_false] at ao; cases ao
   tail:=fun t _ b1=>by simp at b1; simp [b1] }
 have abO:yZ c n eM hs E L (Array.replicate l.toArray.size false) (fun _=>0) [] 0 a W.drew:=
  {st:=by simpa [eA,fG] using s.world (Fr.drew W)
   done:=fun j s h τ _ ao=>by rw [getD_replicate_false] at ao; cases ao
   news:=fun j=>by
    constructor
    ·intro h; cases h
    rintro ⟨_,h,_⟩; rw [getD_replicate_false] at h; cases h
   stored:=fun j h _ _=>by
    rw [getD_replicate_false]
    constructor
    ·intro h; cases h
    intro h; omega
   ble:=Nat.zero_le _ }
 have h:=VQ (ops:=l.toArray) (Q:=Q) h1 aG (eD.1 hlen) (by simpa using cE) (by simpa using b1) n (Array.replicate l.toArray.size false) (fun _=>0) [] 0 a W.drew
  (Nat.le_trans (List.length_filter_le _ _) (by simp)) Ca abO
 rw [show n+(l.toArray.size - n)=l.toArray.size by omega] at h
 exact h
end
structure bF (P:Program) (t:TypeId) (α:Type) [aj α]:Prop where
 size:(P.info? t).map (·.size)=some (aj.size α)
 RC:∃ d,P.underlying t=some d∧ (match d with | .struct _ | .array _ _=>true | _=>false)=aj.agg α
structure cP (P:Program) (t:TypeId) {α:Type} [aj α] (x:α):Prop where
 zero:∃ i z,P.info? t=some i∧i.zero=some z∧ ∀ A W,(I.of x).holds A W z
theorem bF.info {P t α} [aj α] (h:bF P t α):∃ i,P.info? t=some i∧i.size=aj.size α:=by
 have:=h.size
 cases ak:P.info? t with
 | none=>simp [ak] at this
 | some i=>exact⟨i,rfl,by simpa [ak] using this⟩
theorem bF.isAgg {P t α} [aj α] (h:bF P t α) (W:World):(isAgg t).run P W= .ok (aj.agg α) W:=by
 obtain⟨d,hd,he⟩:=h.RC
 unfold Go.isAgg
 rw [Sem.run_bind,run_underlying hd W]
 simp only [Result.andThen_ok]
 cases d <;> simp_all
theorem bF.sizeOf {P t α} [aj α] (h:bF P t α) (W:World):(Go.sizeOf t).run P W= .ok (aj.size α) W:=by
 obtain⟨i,ak,hs⟩:=h.info
 simp [Go.sizeOf,typeInfo,ak,hs]
theorem jE (b off j:Nat):(⟨b,off,none⟩:Addr).add j=⟨b,off+j,none⟩:=by unfold Addr.add; split <;> simp_all
theorem vw {P:Program} {W:World} {b off:Nat} {cur:Array Value} {T t:TypeId} {hA:Nat×Nat} {α:Type} [aj α] {A:List Nat} {x:α} (ty:bF P t α)
 (hb:W.heap[b]? =some (.cells cur T hA)) (hs:off+aj.size α≤cur.size) (aQ:aj.rep A W ((cur.toList.drop off).take (aj.size α)) x):
 ∃ v,(loadVar t ⟨b,off,none⟩).run P W= .ok v W∧ (I.of x).holds A W v:=by
 have ao:=aj.len aQ
 have sW:∀ j v,((cur.toList.drop off).take (aj.size α))[j]? =some v→W.cell? ((⟨b,off,none⟩:Addr).add j)=some v:=by
  intro j v a2
  rw [jE,cell_of_row W b (off+j) cur T hA hb]
  rw [List.getElem?_take] at a2
  split at a2
  ·rw [List.getElem?_drop] at a2; simpa using a2
  cases a2
 cases bp:aj.agg α with
 | true=>
   have aa:=run_loadCells_list (P:=P) W ⟨b,off,none⟩ _ sW
   rw [ao] at aa
   refine⟨.agg ((cur.toList.drop off).take (aj.size α)).toArray,?_,?_,?_⟩
   ·simp [loadVar,Sem.run_bind,ty.isAgg,ty.sizeOf,bp,aa]
   ·simp [shaped,bp]
   simpa [Value.cells] using aQ
 | false=>
   have aa:aj.size α=1:=aj.flat bp
   rw [aa] at ao
   obtain⟨v,a2⟩:=List.length_eq_one_iff.1 ao
   have ad:=sW 0 v (by rw [aa,a2]; rfl)
   have aF:v.oneCell'=true:=aj.one aQ v (by rw [aa,a2]; simp)
   refine⟨v,?_,?_,?_⟩
   ·rw [jE,Nat.add_zero] at ad
    simp [loadVar,Sem.run_bind,ty.isAgg,bp,ad]
   ·simp [shaped,bp,aF]
   rw [oP aF]
   rw [aa,a2] at aQ
   simpa using aQ
def gq (cur:List Value) (off:Nat) (ds:List Value):List Value:=cur.take off++ds++cur.drop (off+ds.length)
theorem Wt {A W v} {α:Type} [aj α] {x:α} (h:(I.of x).holds A W v):v.cells.toList.length=aj.size α∧ ∀ u∈v.cells.toList,u.oneCell'=true:=⟨aj.len h.2,aj.one h.2⟩
theorem Ag {P:Program} {W:World} {b off:Nat} {cur:Array Value} {T t:TypeId} {α:Type} [aj α] {A:List Nat} {x:α} {v:Value} (ty:bF P t α)
 (hb:W.heap[b]? =some (.cells cur T (0,0))) (hs:off+aj.size α≤cur.size) (a2:(I.of x).holds A W v):
 (storeVar t ⟨b,off,none⟩ v).run P W= .ok () (W.setRow b (gq cur.toList off v.cells.toList).toArray):=by
 obtain⟨ao,aa⟩:=Wt a2
 have ad:=run_storeCells_at P b off T v.cells.toList 0 cur W hb (by rw [ao]; omega) aa
 have eX:v.cells.size=aj.size α:=by simpa using ao
 simp only [Nat.add_zero] at ad
 simp only [storeVar,Sem.run_bind,ty.sizeOf,Result.andThen_ok,eX]
 simp only [ne_eq,not_true_eq_false,↓reduceIte,Sem.run_pure,Sem.run_bind,Result.andThen_ok]
 simpa [gq] using ad
structure aN (β γ:Type) [aj β] [aj γ] where
 off:Nat
 get:β→γ
 set:β→γ→β
 gI:off+aj.size γ≤aj.size β
 iO:∀ {A W cs b},aj.rep A W cs b→aj.rep A W ((cs.drop off).take (aj.size γ)) (get b)
 lA:∀ {A W cs b ds g},aj.rep A W cs b→aj.rep A W ds g→aj.rep A W (cs.take off++ds++cs.drop (off+aj.size γ)) (set b g)
def aN.id (β:Type) [aj β]:aN β β where
 off:=0
 get b:=b
 set _ g:=g
 gI:=by simp
 iO h:=by
  have:=aj.len h
  rw [List.drop_zero,← this,List.take_length]; exact h
 lA h bQ:=by
  have aa:=aj.len h
  rw [List.take_zero,List.nil_append,Nat.zero_add,← aa,List.drop_length,List.append_nil]; exact bQ
theorem vz (cs:List Value) (cG s1 cv s2:Nat) (h:cv+s2≤s1):(((cs.drop cG).take s1).drop cv).take s2=(cs.drop (cG+cv)).take s2:=by
 apply List.ext_getElem?
 intro i
 simp only [List.getElem?_take,List.getElem?_drop]
 split
 ·rw [if_pos (by omega)]; congr 1; omega
 rfl
theorem Ni (cs ds:List Value) (cG s1 cv s2:Nat) (h:cv+s2≤s1) (al:cG+s1≤cs.length):
 cs.take cG++(((cs.drop cG).take s1).take cv++ds++((cs.drop cG).take s1).drop (cv+s2))++cs.drop (cG+s1)=cs.take (cG+cv)++ds++cs.drop (cG+cv+s2):=by
 have ay:cs.take (cG+cv)=cs.take cG++((cs.drop cG).take s1).take cv:=by
  rw [List.take_take,Nat.min_eq_left (by omega),List.take_add]
 have aO:cs.drop (cG+cv+s2)=((cs.drop cG).take s1).drop (cv+s2)++cs.drop (cG+s1):=by
  apply List.ext_getElem?
  intro i
  simp only [List.getElem?_append,List.getElem?_drop,List.getElem?_take,List.length_drop,List.length_take]
  split
  ·rw [if_pos (by omega)]; congr 1; omega
  congr 1; omega
 rw [ay,aO]
 simp only [List.append_assoc]
def aN.comp {α β γ:Type} [aj α] [aj β] [aj γ] (l:aN α β) (m:aN β γ):aN α γ where
 off:=l.off+m.off
 get b:=m.get (l.get b)
 set b g:=l.set b (m.set (l.get b) g)
 gI:=by have:=l.gI; have:=m.gI; omega
 iO h:=by
  have:=m.iO (l.iO h)
  rwa [vz _ _ _ _ _ m.gI] at this
 lA h bQ:=by
  have aa:=l.lA h (m.lA (l.iO h) bQ)
  have ad:=aj.len h
  have aF:=l.gI
  rwa [Ni _ _ _ _ _ _ m.gI (by omega)] at aa
def br {α:Type} [Inhabited α] {n:Nat} (v:Vector α n) (k:Nat):α:=v[k]?.getD default
def c5 {α:Type} {n:Nat} (v:Vector α n) (k:Nat) (x:α):Vector α n:=v.setIfInBounds k x
instance {α:Type} [Inhabited α] {n:Nat} :Inhabited (Vector α n):=⟨Vector.replicate n default⟩
instance aea {α:Type} [aj α] [Inhabited α] {n:Nat} :aj (Vector α n) where
 size:=n * aj.size α
 agg:=true
 rep A W cs v:=g4 A W cs v.toList
 len h:=by rw [h.1]; simp
 one h:=by
  intro u hu
  obtain⟨j,aE⟩:=List.mem_iff_getElem?.1 hu
  have cD:=(List.getElem?_eq_some_iff.1 aE).1
  have aa:=h.1
  by_cases hs:aj.size α=0
  ·rw [hs,Nat.mul_zero] at aa; omega
  have hp:0<aj.size α:=Nat.pos_of_ne_zero hs
  have ak:j / aj.size α<_:=(Nat.div_lt_iff_lt_mul hp).2 (by rw [aa] at cD; exact cD)
  refine aj.one (h.2 _ ak) u (List.mem_iff_getElem?.2 ⟨j % aj.size α,?_⟩)
  rw [List.getElem?_take,if_pos (Nat.mod_lt _ hp),List.getElem?_drop,Nat.mul_comm,Nat.div_add_mod]
  exact aE
 flat h:=by cases h
 mono e h:=h.mono e
theorem UN {α:Type} [Inhabited α] {n:Nat} (v:Vector α n) {k:Nat} (h:k<n):br v k=v.toList[k]'(by simpa using h):=by simp [br,h]
theorem HW {α:Type} [aj α] {A W} {cs ds:List Value} {xs:List α} {x:α} {k:Nat} (h:g4 A W cs xs) (aw:k<xs.length) (hd:aj.rep A W ds x):
 g4 A W (cs.take (k * aj.size α)++ds++cs.drop (k * aj.size α+aj.size α)) (xs.set k x):=by
 have ao:=h.1
 have aeq:=aj.len hd
 have hle:(k+1) * aj.size α≤xs.length * aj.size α:=Nat.mul_le_mul_right _ aw
 rw [Nat.succ_mul] at hle
 refine⟨by simp only [List.length_append,List.length_take,List.length_drop,List.length_set]; omega,fun i ak=>?_⟩
 rw [List.length_set] at ak
 by_cases e:k=i
 ·subst e
  have:((cs.take (k * aj.size α)++ds++cs.drop (k * aj.size α+aj.size α)).drop (k * aj.size α)).take (aj.size α)=ds:=by
   rw [List.append_assoc,List.drop_append_of_le_length (by simp only [List.length_take]; omega),List.drop_of_length_le (by simp only [List.length_take]; omega),List.nil_append,
    List.take_append_of_le_length (by omega),List.take_of_length_le (by omega)]
  rw [this]
  simpa using hd
 have aa:=h.2 i ak
 have:((cs.take (k * aj.size α)++ds++cs.drop (k * aj.size α+aj.size α)).drop (i * aj.size α)).take (aj.size α)=(cs.drop (i * aj.size α)).take (aj.size α):=by
  apply List.ext_getElem?
  intro j
  simp only [List.getElem?_take,List.getElem?_drop]
  split
  ·rename_i aE
   simp only [List.getElem?_append,List.length_append,List.length_take,List.getElem?_take,List.getElem?_drop]
   rcases Nat.lt_or_gt_of_ne e with ad | ad
   ·have:(k+1) * aj.size α≤i * aj.size α:=Nat.mul_le_mul_right _ ad
    rw [Nat.succ_mul] at this
    rw [if_neg (by omega)]; congr 1; omega
   have:(i+1) * aj.size α≤k * aj.size α:=Nat.mul_le_mul_right _ ad
   rw [Nat.succ_mul] at this
   rw [if_pos (by omega),if_pos (by omega),if_pos (by omega)]
  rfl
 rw [this]
 simpa [List.getElem_set_ne e] using aa
def aN.idx {α:Type} [aj α] [Inhabited α] (n k:Nat) (aw:k<n):aN (Vector α n) α where
 off:=k * aj.size α
 get v:=br v k
 set v x:=c5 v k x
 gI:=by
  show k * aj.size α+aj.size α≤n * aj.size α
  rw [← Nat.succ_mul]; exact Nat.mul_le_mul_right _ aw
 iO h:=by
  rename_i b
  rw [UN b aw]
  exact h.2 k (by simpa using aw)
 lA h hd:=by
  rename_i b ds g
  have:=HW h (k:=k) (by simpa using aw) hd
  show g4 _ _ _ (c5 b k g).toList
  rw [show(c5 b k g).toList=b.toList.set k g by simp [c5]]
  exact this
def idx (n:Nat) (i:Int):Option Nat:=if 0≤i∧i<n then some i.toNat else none
theorem bZ {n:Nat} {i:Int} {k:Nat} (h:idx n i=some k):k<n∧i=k:=by
 unfold idx at h
 split at h
 ·rename_i ak
  simp only [Option.some.injEq] at h
  omega
 cases h
section
variable {c:dp} {E:List (Nat×I)} {L:List aT} {ops:Array Oper} {Q:Exit→Act→World→Prop}
variable {d:Option Tmp} {ty:TypeId} {pos:String} {af:Array Edge} {g:Option (Nat×Bool)}
theorem cV {x:Operand} {τ:I} (h:bd c E L x τ):cf c E L ⟨d,.move x,ty,pos,af,g⟩ τ:= .pure fun a W s=>⟨_,rfl,h a W s⟩
theorem ew {x:Operand} {τ:I} (h:bd c E L x τ):cf c E L ⟨d,.assign x,ty,pos,af,g⟩ τ:= .pure fun a W s=>⟨_,rfl,h a W s⟩
theorem s0 {x y:Operand} {b e:Bool} {p:Prop} (aq:bd c E L x (.of b)) (a6:bd c E L y (.cond p (.of e))) (hp:b=false→p):
 cf c E L ⟨d,.pick x (.const (.bool true)) y,ty,pos,af,g⟩ (.of (b||e)):= .pure fun a W s=>by
 have aa:=of_bool.1 (aq a W s)
 cases b with
 | true=>exact⟨.bool true,by simp only [execOp,aa,asBool]; rfl,of_bool.2 rfl⟩
 | false=>
   have ad:=of_bool.1 ((a6 a W s).1 (hp rfl))
   exact⟨.bool e,by simp [execOp,asBool,aa,ad],of_bool.2 rfl⟩
theorem rF {x y:Operand} {b e:Bool} {p:Prop} (aq:bd c E L x (.of b)) (a6:bd c E L y (.cond p (.of e))) (hp:b=true→p):
 cf c E L ⟨d,.pick x y (.const (.bool false)),ty,pos,af,g⟩ (.of (b&&e)):= .pure fun a W s=>by
 have aa:=of_bool.1 (aq a W s)
 cases b with
 | false=>exact⟨.bool false,by simp only [execOp,aa,asBool]; rfl,of_bool.2 rfl⟩
 | true=>
   have ad:=of_bool.1 ((a6 a W s).1 (hp rfl))
   exact⟨.bool e,by simp [execOp,asBool,aa,ad],of_bool.2 rfl⟩
theorem hL {x:Operand} {b:Bool} {t:TypeId} (aq:bd c E L x (.of b)):cf c E L ⟨d,.unOp .not t x,ty,pos,af,g⟩ (.of (!b)):= .pure fun a W s=>
 ⟨.bool (!b),by simp [execOp,Op.unary,of_bool.1 (aq a W s)],of_bool.2 rfl⟩
theorem fa {x:Operand} {t:TypeId} {i p o:Nat} {β γ:Type} [aj β] [aj γ] {b:β} (l:aN β γ) {r:γ} (eQ:bF c.P t γ) (aq:bd c E L x (.eq (.pointer (some ⟨p,o,none⟩))))
 (ar:L[i]? =some ⟨some p,.var b⟩) (bm:o=l.off) (aQ:l.get b=r):cf c E L ⟨d,.load t x,ty,pos,af,g⟩ (.of r):= .pure fun a W s=>by
 subst bm
 subst aQ
 obtain⟨kt,e3,cs,T,rfl,gm⟩:=s.own _ (List.mem_of_getElem? ar)
 have aa:cs.toList.length=aj.size β:=aj.len gm
 obtain⟨v,ad,aF⟩:=vw (A:=aV L++c.ca) eQ e3 (by have:=l.gI; simp at aa; omega) (l.iO gm)
 refine⟨v,?_,aF⟩
 have aX:a.eval x=_:=aq a W s
 simp [execOp,Instr.loadAt,Instr.sureAddr,aX,ad]
theorem da {x:Operand} {t:TypeId} {γ:Type} [aj γ] {r:γ} (eQ:bF c.P t γ) (aq:bd c E L x (.ptr r)):cf c E L ⟨d,.load t x,ty,pos,af,g⟩ (.of r):= .pure fun a W s=>by
 obtain⟨b,off,cur,T,hA,aX,hb,cE,hs,aQ⟩:=aq a W s
 obtain⟨v,ad,aF⟩:=vw eQ cE hs aQ
 exact⟨v,by simp [execOp,Instr.loadAt,Instr.sureAddr,aX,ad],aF⟩
structure cB (P:Program) (s:TypeId) (f o:Nat):Prop where
 at_:∃ fs fd i,P.underlying s=some (.struct fs)∧fs[f]? =some fd∧fd.offset=o∧P.info? fd.type=some i∧i.size≠0
theorem MO {P:Program} {s:TypeId} {f o:Nat} (h:cB P s f o) (p off:Nat) (W:World):
 (Instr.fieldAt s (.pointer (some ⟨p,off,none⟩)) f).run P W= .ok (.pointer (some ⟨p,off+o,none⟩)) W:=by
 obtain⟨fs,fd,i,aa,ad,aF,aX,a0⟩:=h.at_
 simp [Instr.fieldAt,run_underlying aa,ad,Instr.sureAddr,fieldPlace,Go.sizeOf,typeInfo,aX,a0,jE,aF]
theorem aU {x:Operand} {s f o p off:Nat} (fd:cB c.P s f o) (aq:bd c E L x (.eq (.pointer (some ⟨p,off,none⟩)))):
 cf c E L ⟨d,.fieldAddr s x f,ty,pos,af,g⟩ (.eq (.pointer (some ⟨p,off+o,none⟩))):= .pure fun a W st=>by
 have aX:a.eval x=_:=aq a W st
 exact⟨_,by simp [execOp,aX,MO fd],rfl⟩
theorem BF {x:Operand} {s f o:Nat} {β γ:Type} [aj β] [aj γ] {b:β} (l:aN β γ) {r:γ} (fd:cB c.P s f o) (aq:bd c E L x (.ptr b)) (bm:l.off=o) (aQ:l.get b=r):
 cf c E L ⟨d,.fieldAddr s x f,ty,pos,af,g⟩ (.ptr r):= .pure fun a W st=>by
 subst bm
 subst aQ
 obtain⟨q,off,cur,T,hA,aX,hb,cE,hs,gm⟩:=aq a W st
 refine⟨.pointer (some ⟨q,off+l.off,none⟩),by simp [execOp,aX,MO fd],q,off+l.off,cur,T,hA,rfl,hb,cE,by have:=l.gI; omega,?_⟩
 have:=l.iO gm
 rwa [vz _ _ _ _ _ l.gI] at this
structure p3 (P:Program) (t:TypeId) (n s:Nat):Prop where
 at_:∃ e i,P.underlying t=some (.array n e)∧P.info? e=some i∧i.size=s
theorem Ub {P:Program} {t n s:Nat} (h:p3 P t n s) (p off:Nat) (k:Nat) (aw:k<n) (W:World):
 (Instr.indexAt t (.pointer (some ⟨p,off,none⟩)) (.int .i64 (k:Int))).run P W= .ok (.pointer (some ⟨p,off+k * s,none⟩)) W:=by
 obtain⟨e,i,aa,ad,aF⟩:=h.at_
 simp [Instr.indexAt,asIntOf,run_underlying aa,Instr.sureAddr,Go.sizeOf,typeInfo,ad,aF,aw,jE]
theorem eb {x y:Operand} {t n s p off:Nat} {i:Int} {k:Nat} (adT:p3 c.P t n s) (aq:bd c E L x (.eq (.pointer (some ⟨p,off,none⟩)))) (a6:bd c E L y (.of i)) (aw:k<n∧i=k):
 cf c E L ⟨d,.indexAddr t x y,ty,pos,af,g⟩ (.eq (.pointer (some ⟨p,off+k * s,none⟩))):= .pure fun a W st=>by
 have aX:a.eval x=_:=aq a W st
 have a0:=of_int.1 (a6 a W st)
 obtain⟨bn,rfl⟩:=aw
 exact⟨_,by simp [execOp,aX,a0,Ub adT p off k bn],rfl⟩
theorem ai.alloc {t:TypeId} {rest:List Oper} {bf:Nat} {α:Type} [aj α] {z:α} (g9:cP c.P t z) (aR:Nat.blt bf c.n=true)
 (k:∀ p,ai c ops Q rest ((bf,.eq (.pointer (some ⟨p,0,none⟩)))::E) (⟨some p,.var z⟩::L)):ai c ops Q (⟨some bf,.alloc t,ty,pos,af,none⟩::rest) E L:=fun a W s=>by
 obtain⟨i,eF,aa,ad,aF⟩:=g9.zero
 refine iD rfl (R:=fun v W'=>v= .pointer (some ⟨W.heap.size,0,none⟩)∧W'=W.alloc (.cells eF.cells t)) (.l1 ?_ ⟨rfl,rfl⟩) fun v W' ⟨a2,hw⟩=>?_
 ·simp [execOp,Instr.alloc,zeroValue,typeInfo,aa,ad,newVar,newRow]
 subst a2
 subst hw
 exact k _ _ _ ((s.alloc (cp:= .var z) ⟨eF.cells,t,rfl,(aF _ _).2⟩).put (by simpa using aR) rfl)
theorem sv {P:Program} {t:TypeId} {α:Type} [aj α] {z:α} (g9:cP P t z):Ly P ⟨d,.alloc t,ty,pos,af,none⟩ (.var z):=by
 obtain⟨i,eF,aa,ad,aF⟩:=g9.zero
 refine⟨rfl,.cells eF.cells t,fun A W=>⟨eF.cells,t,rfl,(aF A W).2⟩,fun a W=>?_⟩
 simp [execOp,Instr.alloc,zeroValue,typeInfo,aa,ad,newVar,newRow]
theorem rC {x y:Operand} {t:TypeId} {i p o:Nat} {β γ:Type} [aj β] [aj γ] {b b':β} {v:γ} (l:aN β γ) (eQ:bF c.P t γ) (aq:bd c E L x (.eq (.pointer (some ⟨p,o,none⟩))))
 (a6:bd c E L y (.of v)) (ar:L[i]? =some ⟨some p,.var b⟩) (bm:o=l.off) (hb:l.set b v=b'):Dc c E L ⟨none,.store t x y,ty,pos,af,none⟩ p (.var b'):=⟨rfl,rfl,fun a W s=>by
 subst bm
 subst hb
 obtain⟨kt,e3,cs,T,rfl,gm⟩:=s.own _ (List.mem_of_getElem? ar)
 have aa:cs.toList.length=aj.size β:=aj.len gm
 have eE:=l.gI
 have a2:=a6 a W s
 have ad:=Ag (A:=aV L++c.ca) eQ e3 (off:=l.off) (by simp at aa; omega) a2
 have aX:a.eval x=_:=aq a W s
 refine⟨cs,(gq cs.toList l.off (a.eval y).cells.toList).toArray,T,e3,?_,?_⟩
 ·simp [execOp,Instr.storeAt,Instr.sureAddr,aX,ad]
 refine⟨_,T,rfl,?_⟩
 have:=l.lA gm a2.2
 simpa [gq,aj.len a2.2] using this⟩
theorem ai.box {t:TypeId} {x:Operand} {rest:List Oper} {bf:Nat} {α:Type} [aj α] {z:α} (aq:bd c E L x (.of z)) (aR:Nat.blt bf c.n=true)
 (k:∀ p,ai c ops Q rest ((bf,.eq (.pointer (some ⟨p,0,none⟩)))::E) (⟨some p,.var z⟩::L)):ai c ops Q (⟨some bf,.box t x,ty,pos,af,none⟩::rest) E L:=fun a W s=>by
 refine iD rfl (R:=fun v W'=>v= .pointer (some ⟨W.heap.size,0,none⟩)∧W'=W.alloc (.cells (a.eval x).cells t)) (.l1 ?_ ⟨rfl,rfl⟩) fun v W' ⟨a2,hw⟩=>?_
 ·simp [execOp,Instr.box,newVar,newRow]
 subst a2
 subst hw
 exact k _ _ _ ((s.alloc (cp:= .var z) ⟨_,t,rfl,(aq a W s).2⟩).put (by simpa using aR) rfl)
theorem ai.store {x y:Operand} {t:TypeId} {rest:List Oper} {i p o:Nat} {β γ:Type} [aj β] [aj γ] {b b':β} {v:γ} (l:aN β γ) (eQ:bF c.P t γ) (aq:bd c E L x (.eq (.pointer (some ⟨p,o,none⟩))))
 (a6:bd c E L y (.of v)) (ar:L[i]? =some ⟨some p,.var b⟩) (bm:o=l.off) (hb:l.set b v=b')
 (k:ai c ops Q rest E (L.set i ⟨some p,.var b'⟩)):ai c ops Q (⟨none,.store t x y,ty,pos,af,none⟩::rest) E L:=fun a W s=>by
 subst bm
 subst hb
 obtain⟨kt,e3,cs,T,rfl,gm⟩:=s.own _ (List.mem_of_getElem? ar)
 have aa:cs.toList.length=aj.size β:=aj.len gm
 have eE:=l.gI
 have a2:=a6 a W s
 have ad:=Ag (A:=aV L++c.ca) eQ e3 (off:=l.off) (by simp at aa; omega) a2
 have aX:a.eval x=_:=aq a W s
 refine iD rfl (R:=fun v W'=>W'=W.setRow p (gq cs.toList l.off (a.eval y).cells.toList).toArray) (.yi ?_ rfl) fun v W' hw=>?_
 ·simp [execOp,Instr.storeAt,Instr.sureAddr,aX,ad]
 subst hw
 refine k _ _ (s.store ar e3 ?_)
 refine⟨_,T,rfl,?_⟩
 have:=l.lA gm a2.2
 simpa [gq,aj.len a2.2] using this
def iq (c:dp) (E:List (Nat×I)) (L:List aT):List Operand→List I→Prop
 | [],[]=>True
 | x::xs,τ::τs=>bd c E L x τ∧iq c E L xs τs
 | _,_=>False
theorem iq.holds:∀ {xs:List Operand} {τs:List I},iq c E L xs τs→ ∀ a W,bV c E L a W→g2 (aV L++c.ca) W τs (xs.map a.eval)
 | [],[],_,_,_,_=>.nil
 | x::xs,τ::τs,h,a,W,s=>.cons (h.1 a W s) (h.2.holds a W s)
 | [],_::_,h,_,_,_=>h.elim
 | _::_,[],h,_,_,_=>h.elim
structure bM (P:Program) (f:FuncId):Prop where
 at_:∃ fn,P.funcs[f]? =some fn∧fn.body.isNone=false∧ (fn.name== "runtime.NumGoroutine")=false
theorem bM.run {P:Program} {f:FuncId} (h:bM P f) (args:Array Value) (W:World):(callFunc f args).run P W= .ok (.enter f args) W:=by
 obtain⟨fn,aa,ad,aF⟩:=h.at_
 simp only [callFunc,Sem.run_bind,run_program,Result.andThen_ok,aa,aF,ad]
 rfl
theorem hZ {f:FuncId} {xs:List Operand} {ats:Array TypeId} {τs:List I} {ρ:I} (eR:bM c.P f) (h:bw c.P f τs ρ) (aq:iq c E L xs τs):
 cf c E L ⟨d,.call ⟨.value (.func f),xs.toArray,ats⟩,ty,pos,af,g⟩ ρ:=fun a W s=>by
 refine .vM (f:=f) (args:=(xs.map a.eval).toArray) (W':=W) ?_ (h _ W _ s.Fc (aq.holds a W s))
 simp [execOp,resolve,Deferred.ofValue,Act.eval,invoke,eR.run]
theorem rq {P:Program} {W:World} {t off:Nat} {cs:Array Value} {α:Type} [aj α] {A:List Nat} {x:α} (ty:bF P t α) (hs:off+aj.size α≤cs.size)
 (aQ:aj.rep A W ((cs.toList.drop off).take (aj.size α)) x):∃ v,(part t cs off).run P W= .ok v W∧ (I.of x).holds A W v:=by
 have ao:=aj.len aQ
 cases bp:aj.agg α with
 | true=>
   refine⟨.agg (cs.extract off (off+aj.size α)),?_,?_,?_⟩
   ·simp [part,ty.isAgg,ty.sizeOf,bp]
   ·simp [shaped,bp]
   simpa [Value.cells,List.extract,Array.toList_extract] using aQ
 | false=>
   have aa:aj.size α=1:=aj.flat bp
   have cD:off<cs.size:=by omega
   have ad:(cs.toList.drop off).take (aj.size α)= [cs[off]]:=by
    rw [aa]
    apply List.ext_getElem?
    intro j
    rw [List.getElem?_take,List.getElem?_drop]
    cases j with
    | zero=>simp [cD]
    | succ j=>simp
   rw [ad] at aQ
   have aF:cs[off].oneCell'=true:=aj.one aQ _ (by simp)
   refine⟨cs[off],?_,?_,?_⟩
   ·simp [part,ty.isAgg,bp,cD]
   ·simp [shaped,bp,aF]
   rw [oP aF]; simpa using aQ
structure Lz (P:Program) (s f t o:Nat):Prop where
 at_:∃ fs fd,P.underlying s=some (.struct fs)∧fs[f]? =some fd∧fd.offset=o∧fd.type=t
theorem Ic {x:Operand} {s f t o:Nat} {β γ:Type} [aj β] [aj γ] {b:β} (l:aN β γ) {r:γ} (adU:Lz c.P s f t o) (eQ:bF c.P t γ) (bp:aj.agg β=true) (aq:bd c E L x (.of b)) (bm:l.off=o) (aQ:l.get b=r):
 cf c E L ⟨d,.field s x f,ty,pos,af,g⟩ (.of r):= .pure fun a W st=>by
 subst bm
 subst aQ
 obtain⟨aa,ad⟩:=aq a W st
 simp only [shaped,bp,if_true] at aa
 obtain⟨cs,qL⟩:=aa
 obtain⟨fs,fd,aF,aX,a0,bn⟩:=adU.at_
 rw [qL] at ad
 simp only [Value.cells] at ad
 have ao:cs.toList.length=aj.size β:=aj.len ad
 obtain⟨v,cZ,e5⟩:=rq (A:=aV L++c.ca) (P:=c.P) (W:=W) (cs:=cs) (off:=l.off) eQ (by have:=l.gI; simp at ao; omega) (l.iO ad)
 refine⟨v,?_,e5⟩
 simp [execOp,Instr.field,run_underlying aF,aX,qL,asAgg,a0,bn,cZ]
theorem Oj {x y:Operand} {t e n:Nat} {i:Int} {k:Nat} {α:Type} [aj α] [Inhabited α] {v:Vector α n} (hu:c.P.underlying t=some (.array n e)) (eQ:bF c.P e α) (aq:bd c E L x (.of v)) (a6:bd c E L y (.of i)) (aw:k<n∧i=k):
 cf c E L ⟨d,.index t x y,ty,pos,af,g⟩ (.of (br v k)):= .pure fun a W st=>by
 obtain⟨aa,ad⟩:=aq a W st
 obtain⟨cs,qL⟩:∃ cs,a.eval x= .agg cs:=by simpa [shaped,aj.agg] using aa
 have a0:=of_int.1 (a6 a W st)
 obtain⟨bn,rfl⟩:=aw
 rw [qL] at ad
 simp only [Value.cells] at ad
 have ao:cs.toList.length=n * aj.size α:=aj.len ad
 have eE:=(aN.idx (α:=α) n k bn).gI
 obtain⟨u,cZ,e5⟩:=rq (A:=aV L++c.ca) (P:=c.P) (W:=W) (cs:=cs) (off:=k * aj.size α) eQ
  (by
   have:k * aj.size α+aj.size α≤n * aj.size α:=eE
   simp at ao; omega) ((aN.idx (α:=α) n k bn).iO ad)
 refine⟨u,?_,e5⟩
 simp [execOp,Instr.index,asIntOf,run_underlying hu,qL,a0,bn,eQ.sizeOf,cZ]
theorem lC {x:Operand} {i:Nat} {τs:List I} {τ:I} (aq:bd c E L x (.ep τs)) (ak:τs[i]? =some τ):cf c E L ⟨d,.extract x i,ty,pos,af,g⟩ τ:= .pure fun a W st=>by
 obtain⟨vs,aa,ad⟩:=aq a W st
 have get:∀ {τs:List I} {vs:List Value},g2 (aV L++c.ca) W τs vs→ ∀ (i:Nat) (τ:I),τs[i]? =some τ→ ∃ v,vs[i]? =some v∧τ.holds (aV L++c.ca) W v:=by
  intro τs vs h
  induction h with
  | nil=>intro i τ h; simp at h
  | cons aa _ bR=>
    intro i τ h
    cases i with
    | zero=>simp only [List.getElem?_cons_zero,Option.some.injEq] at h; subst h; exact⟨_,rfl,aa⟩
    | succ i=>simp only [List.getElem?_cons_succ] at h ⊢; exact bR i τ h
 obtain⟨v,aF,aX⟩:=get ad i τ ak
 refine⟨v,?_,aX⟩
 have a0:vs[i]? =some v:=by simpa using aF
 simp [execOp,Instr.extract,aa,a0]
end
def bs (x:Int):Int:=IntKind.i64.wrap x
theorem hC {x:Int} (h: -9223372036854775808≤x) (dc:x≤9223372036854775807):bs x=x:=by
 unfold bs
 rw [IntKind.wrap_i64]
 omega
def wP (a b:Int):Option Int:=if b=0 then none else some (bs (a.tdiv b))
def o2 (a b:Int):Option Int:=if b=0 then none else some (a.tmod b)
theorem Nf {a b r:Int} (h:wP a b=some r):b≠0∧bs (a.tdiv b)=r:=by unfold wP at h; split at h <;> simp_all
theorem AL {a b r:Int} (h:o2 a b=some r):b≠0∧a.tmod b=r:=by unfold o2 at h; split at h <;> simp_all
theorem wrap_u8 (n:Int):IntKind.u8.wrap n=n % 256:=by simp [IntKind.wrap,IntKind.signed,IntKind.bits]
theorem wrap_u64 (n:Int):IntKind.u64.wrap n=n % 18446744073709551616:=by simp [IntKind.wrap,IntKind.signed,IntKind.bits]
theorem Xd (P:Program) (W:World) (k LA:IntKind) (a b:Int) (h:0≤b):(Op.shift .shl k a LA b).run P W= .ok (.int k (k.wrap (a * 2 ^ min b.toNat k.bits))) W:=by
 unfold Op.shift
 rw [if_neg (by omega)]
 rfl
theorem Xe (P:Program) (W:World) (k LA:IntKind) (a b:Int) (h:0≤b):(Op.shift .shr k a LA b).run P W= .ok (.int k (a.fdiv (2 ^ min b.toNat k.bits))) W:=by
 unfold Op.shift
 rw [if_neg (by omega)]
 rfl
section
variable {c:dp} {E:List (Nat×I)} {L:List aT}
variable {d:Option Tmp} {ty:TypeId} {pos:String} {af:Array Edge} {g:Option (Nat×Bool)} {x y:Operand} {t t2:TypeId}
theorem dd {a b:Int} (aq:bd c E L x (.of a)) (a6:bd c E L y (.of b)):cf c E L ⟨d,.binOp .add t x y t2,ty,pos,af,g⟩ (.of (bs (a+b))):= .pure fun A W s=>
 ⟨.int .i64 (bs (a+b)),by simp [execOp,eqGuard,binOp,Op.intArith,of_int.1 (aq A W s),of_int.1 (a6 A W s),bs],of_int.2 rfl⟩
theorem kg {a b:Int} (aq:bd c E L x (.of a)) (a6:bd c E L y (.of b)):cf c E L ⟨d,.binOp .sub t x y t2,ty,pos,af,g⟩ (.of (bs (a - b))):= .pure fun A W s=>
 ⟨.int .i64 (bs (a - b)),by simp [execOp,eqGuard,binOp,Op.intArith,of_int.1 (aq A W s),of_int.1 (a6 A W s),bs],of_int.2 rfl⟩
theorem YV {a b:Int} (aq:bd c E L x (.of a)) (a6:bd c E L y (.of b)):cf c E L ⟨d,.binOp .mul t x y t2,ty,pos,af,g⟩ (.of (bs (a * b))):= .pure fun A W s=>
 ⟨.int .i64 (bs (a * b)),by simp [execOp,eqGuard,binOp,Op.intArith,of_int.1 (aq A W s),of_int.1 (a6 A W s),bs],of_int.2 rfl⟩
theorem PD {a b r:Int} (aq:bd c E L x (.of a)) (a6:bd c E L y (.of b)) (h:b≠0∧bs (a.tdiv b)=r):cf c E L ⟨d,.binOp .quo t x y t2,ty,pos,af,g⟩ (.of r):= .pure fun A W s=>
 ⟨.int .i64 r,by obtain⟨aa,rfl⟩:=h; simp [execOp,eqGuard,binOp,Op.intDiv,of_int.1 (aq A W s),of_int.1 (a6 A W s),bs,aa],of_int.2 rfl⟩
theorem Bs {a b r:Int} (aq:bd c E L x (.of a)) (a6:bd c E L y (.of b)) (h:b≠0∧a.tmod b=r):cf c E L ⟨d,.binOp .rem t x y t2,ty,pos,af,g⟩ (.of r):= .pure fun A W s=>
 ⟨.int .i64 r,by obtain⟨aa,rfl⟩:=h; simp [execOp,eqGuard,binOp,Op.intDiv,of_int.1 (aq A W s),of_int.1 (a6 A W s),aa],of_int.2 rfl⟩
theorem ea {a b:Int} (aq:bd c E L x (.of a)) (a6:bd c E L y (.of b)):cf c E L ⟨d,.binOp .lss t x y t2,ty,pos,af,g⟩ (.of (decide (a<b))):= .pure fun A W s=>
 ⟨.bool (decide (a<b)),by simp only [execOp,eqGuard,binOp,of_int.1 (aq A W s),of_int.1 (a6 A W s)]; rfl,of_bool.2 rfl⟩
theorem sO {a b:Int} (aq:bd c E L x (.of a)) (a6:bd c E L y (.of b)):cf c E L ⟨d,.binOp .leq t x y t2,ty,pos,af,g⟩ (.of (decide (a≤b))):= .pure fun A W s=>
 ⟨.bool (decide (a≤b)),by simp only [execOp,eqGuard,binOp,of_int.1 (aq A W s),of_int.1 (a6 A W s)]; rfl,of_bool.2 rfl⟩
theorem pI {a b:Int} (aq:bd c E L x (.of a)) (a6:bd c E L y (.of b)):cf c E L ⟨d,.binOp .gtr t x y t2,ty,pos,af,g⟩ (.of (decide (a>b))):= .pure fun A W s=>
 ⟨.bool (decide (a>b)),by simp only [execOp,eqGuard,binOp,of_int.1 (aq A W s),of_int.1 (a6 A W s)]; rfl,of_bool.2 rfl⟩
theorem kf {a b:Int} (aq:bd c E L x (.of a)) (a6:bd c E L y (.of b)):cf c E L ⟨d,.binOp .geq t x y t2,ty,pos,af,g⟩ (.of (decide (a≥b))):= .pure fun A W s=>
 ⟨.bool (decide (a≥b)),by simp only [execOp,eqGuard,binOp,of_int.1 (aq A W s),of_int.1 (a6 A W s)]; rfl,of_bool.2 rfl⟩
theorem gf {a b:Int} (aq:bd c E L x (.of a)) (a6:bd c E L y (.of b)):cf c E L ⟨d,.binOp .eql t x y t2,ty,pos,af,g⟩ (.of (a==b)):= .pure fun A W s=>
 ⟨.bool (a==b),by simp only [execOp,eqGuard,binOp,of_int.1 (aq A W s),of_int.1 (a6 A W s)]; rfl,of_bool.2 rfl⟩
theorem sP {a b:Int} (aq:bd c E L x (.of a)) (a6:bd c E L y (.of b)):cf c E L ⟨d,.binOp .neq t x y t2,ty,pos,af,g⟩ (.of (a !=b)):= .pure fun A W s=>
 ⟨.bool (a !=b),by simp only [execOp,eqGuard,binOp,of_int.1 (aq A W s),of_int.1 (a6 A W s)]; rfl,of_bool.2 rfl⟩
theorem Jd {a b:Bool} (hu:c.P.underlying t=some .bool) (aq:bd c E L x (.of a)) (a6:bd c E L y (.of b)):cf c E L ⟨d,.binOp .neq t x y t2,ty,pos,af,g⟩ (.of (a !=b)):= .pure fun A W s=>
 ⟨.bool (a !=b),by
   simp only [execOp,eqGuard,binOp,of_bool.1 (aq A W s),of_bool.1 (a6 A W s),Op.equal,Op.maxDepth]
   simp [run_equalIn_bool' W 9999 t a b hu,bne],of_bool.2 rfl⟩
theorem yw {a b:Int} {ats:Array TypeId} (aq:bd c E L x (.of a)) (a6:bd c E L y (.of b)):cf c E L ⟨d,.call ⟨.builtin .min,#[x,y],ats⟩,ty,pos,af,g⟩ (.of (min a b)):= .pure fun A W s=>
 ⟨.int .i64 (min a b),by
   simp [execOp,resolve,invoke,builtin,Builtin.min_,Builtin.min2,of_int.1 (aq A W s),of_int.1 (a6 A W s)]
   split <;> omega,of_int.2 rfl⟩
theorem Fi {a b:Int} {ats:Array TypeId} (aq:bd c E L x (.of a)) (a6:bd c E L y (.of b)):cf c E L ⟨d,.call ⟨.builtin .max,#[x,y],ats⟩,ty,pos,af,g⟩ (.of (max a b)):= .pure fun A W s=>
 ⟨.int .i64 (max a b),by
   simp [execOp,resolve,invoke,builtin,Builtin.max_,Builtin.max2,of_int.1 (aq A W s),of_int.1 (a6 A W s)]
   split <;> omega,of_int.2 rfl⟩
theorem ZY (a:BitVec 8):(a.toNat:Int)<256:=by have:=a.isLt; omega
theorem PE {a:BitVec 8} {src dst:TypeId} {e:TypeDesc} (hs:c.P.underlying src=some e) (hd:c.P.underlying dst=some (.int .i64)) (aq:bd c E L x (.of a)):cf c E L ⟨d,.convert src dst x,ty,pos,af,g⟩ (.of (a.toNat:Int)):= .pure fun A W s=>
 ⟨.int .i64 a.toNat,by
   have h:IntKind.i64.wrap (a.toNat:Int)=(a.toNat:Int):=hC (by omega) (by have:=ZY a; omega)
   simp only [execOp,convert,Sem.run_bind,run_underlying hs,run_underlying hd,FC.1 (aq A W s),Conv.intToInt,Result.andThen_ok,h]; rfl,of_int.2 rfl⟩
theorem v7 (a:BitVec 64):(a.toNat:Int)<18446744073709551616:=by have:=a.isLt; omega
theorem ofInt_u64 (a:BitVec 64):BitVec.ofInt 64 (a.toNat:Int)=a:=by simp
theorem Xf (a b:BitVec 64):IntKind.u64.wrap ((a.toNat:Int)+(b.toNat:Int))=((a+b).toNat:Int):=by rw [wrap_u64,BitVec.toNat_add]; omega
theorem W9 {a b:BitVec 64} (aq:bd c E L x (.of a)) (a6:bd c E L y (.of b)):cf c E L ⟨d,.binOp .add t x y t2,ty,pos,af,g⟩ (.of (a+b)):= .pure fun A W s=>
 ⟨.int .u64 (a+b).toNat,by simp [execOp,eqGuard,binOp,Op.intArith,gj.1 (aq A W s),gj.1 (a6 A W s),Xf],gj.2 rfl⟩
theorem Xg (a b:BitVec 64):IntKind.u64.wrap ((a.toNat:Int) - (b.toNat:Int))=((a - b).toNat:Int):=by rw [wrap_u64,BitVec.toNat_sub]; have:=v7 a; have:=v7 b; omega
theorem ui {a b:BitVec 64} (aq:bd c E L x (.of a)) (a6:bd c E L y (.of b)):cf c E L ⟨d,.binOp .sub t x y t2,ty,pos,af,g⟩ (.of (a - b)):= .pure fun A W s=>
 ⟨.int .u64 (a - b).toNat,by simp [execOp,eqGuard,binOp,Op.intArith,gj.1 (aq A W s),gj.1 (a6 A W s),Xg],gj.2 rfl⟩
theorem rr {a b:BitVec 64} (aq:bd c E L x (.of a)) (a6:bd c E L y (.of b)):cf c E L ⟨d,.binOp .and t x y t2,ty,pos,af,g⟩ (.of (a&&&b)):= .pure fun A W s=>
 ⟨.int .u64 (a&&&b).toNat,by
   simp only [execOp,eqGuard,binOp,gj.1 (aq A W s),gj.1 (a6 A W s)]
   have h:IntKind.u64.wrap ((a&&&b).toNat:Int)=((a&&&b).toNat:Int):=by rw [wrap_u64]; have:=v7 (a&&&b); omega
   rw [← h]
   conv=>rhs; rw [← ofInt_u64 a,← ofInt_u64 b]
   rfl,gj.2 rfl⟩
theorem rB {a b:BitVec 64} (aq:bd c E L x (.of a)) (a6:bd c E L y (.of b)):cf c E L ⟨d,.binOp .or t x y t2,ty,pos,af,g⟩ (.of (a|||b)):= .pure fun A W s=>
 ⟨.int .u64 (a|||b).toNat,by
   simp only [execOp,eqGuard,binOp,gj.1 (aq A W s),gj.1 (a6 A W s)]
   have h:IntKind.u64.wrap ((a|||b).toNat:Int)=((a|||b).toNat:Int):=by rw [wrap_u64]; have:=v7 (a|||b); omega
   rw [← h]
   conv=>rhs; rw [← ofInt_u64 a,← ofInt_u64 b]
   rfl,gj.2 rfl⟩
theorem Of {a b:BitVec 64} (aq:bd c E L x (.of a)) (a6:bd c E L y (.of b)):cf c E L ⟨d,.binOp .xor t x y t2,ty,pos,af,g⟩ (.of (a ^^^ b)):= .pure fun A W s=>
 ⟨.int .u64 (a ^^^ b).toNat,by
   simp only [execOp,eqGuard,binOp,gj.1 (aq A W s),gj.1 (a6 A W s)]
   have h:IntKind.u64.wrap ((a ^^^ b).toNat:Int)=((a ^^^ b).toNat:Int):=by rw [wrap_u64]; have:=v7 (a ^^^ b); omega
   rw [← h]
   conv=>rhs; rw [← ofInt_u64 a,← ofInt_u64 b]
   rfl,gj.2 rfl⟩
theorem MW {a b:BitVec 64} (aq:bd c E L x (.of a)) (a6:bd c E L y (.of b)):cf c E L ⟨d,.binOp .andNot t x y t2,ty,pos,af,g⟩ (.of (a&&& ~~~b)):= .pure fun A W s=>
 ⟨.int .u64 (a&&& ~~~b).toNat,by
   simp only [execOp,eqGuard,binOp,gj.1 (aq A W s),gj.1 (a6 A W s)]
   have h:IntKind.u64.wrap ((a&&& ~~~b).toNat:Int)=((a&&& ~~~b).toNat:Int):=by rw [wrap_u64]; have:=v7 (a&&& ~~~b); omega
   rw [← h]
   conv=>rhs; rw [← ofInt_u64 a,← ofInt_u64 b]
   rfl,gj.2 rfl⟩
theorem Oh {a:BitVec 64} (aq:bd c E L x (.of a)):cf c E L ⟨d,.unOp .xor t x,ty,pos,af,g⟩ (.of (~~~a)):= .pure fun A W s=>
 ⟨.int .u64 (~~~a).toNat,by
   have h:IntKind.u64.wrap ((BitVec.ofInt 64 18446744073709551615 ^^^ BitVec.ofInt 64 (a.toNat:Int)).toNat:Int)=((~~~a).toNat:Int):=by
    rw [ofInt_u64 a,show BitVec.ofInt 64 18446744073709551615=BitVec.allOnes 64 from rfl,BitVec.allOnes_xor,wrap_u64]; have:=v7 (~~~a); omega
   rw [← h]
   simp only [execOp,Op.unary,gj.1 (aq A W s)]
   rfl,gj.2 rfl⟩
theorem Xh (a:BitVec 64) (n:Nat):IntKind.u64.wrap ((a.toNat:Int) * 2 ^ min n 64)=((a <<< n).toNat:Int):=by
 rw [wrap_u64,BitVec.toNat_shiftLeft,Nat.shiftLeft_eq]
 rcases Nat.lt_or_ge n 64 with h | h
 ·rw [Nat.min_eq_left (by omega)]; simp
 rw [Nat.min_eq_right h]
 have e:(a.toNat * 2 ^ n) % 2 ^ 64=0:=by
  rw [show n=64+(n - 64) by omega,Nat.pow_add]
  exact Nat.mod_eq_zero_of_dvd ⟨a.toNat * 2 ^ (n - 64),by rw [← Nat.mul_assoc,Nat.mul_comm a.toNat,Nat.mul_assoc]⟩
 rw [e]
 have aO:(2:Int) ^ 64=18446744073709551616:=by decide
 rw [aO]; omega
theorem Xi (a:BitVec 64) (n:Nat):(a.toNat:Int).fdiv (2 ^ min n 64)=((a >>> n).toNat:Int):=by
 rw [BitVec.toNat_ushiftRight,Nat.shiftRight_eq_div_pow]
 have e:∀ m:Nat,(a.toNat:Int).fdiv (2 ^ m)=((a.toNat / 2 ^ m:Nat):Int):=by
  intro m
  rw [show((2:Int) ^ m)=((2 ^ m:Nat):Int) by simp]
  rw [Int.fdiv_eq_ediv_of_nonneg _ (Int.natCast_nonneg _)]
  exact(Int.natCast_ediv _ _).symm
 rw [e]
 rcases Nat.lt_or_ge n 64 with h | h
 ·rw [Nat.min_eq_left (by omega)]
 rw [Nat.min_eq_right h]
 have aa:a.toNat / 2 ^ 64=0:=Nat.div_eq_of_lt a.isLt
 have ad:a.toNat / 2 ^ n=0:=Nat.div_eq_of_lt (Nat.lt_of_lt_of_le a.isLt (Nat.pow_le_pow_right (by omega) h))
 rw [aa,ad]
theorem n3 {a:BitVec 64} {b:BitVec 64} (aq:bd c E L x (.of a)) (a6:bd c E L y (.of b)):cf c E L ⟨d,.binOp .shl t x y t2,ty,pos,af,g⟩ (.of (a <<< b.toNat)):= .pure fun A W s=>
 ⟨.int .u64 (a <<< b.toNat).toNat,by
   simp only [execOp,eqGuard,binOp,gj.1 (aq A W s),gj.1 (a6 A W s)]
   have h:=Xd c.P W .u64 .u64 a.toNat b.toNat (by omega)
   simp only [Int.toNat_natCast,IntKind.bits,Xh] at h
   exact congrArg (fun r:Result Value=>r.andThen fun v w=>.ok (Next.value v) w) h,gj.2 rfl⟩
theorem ru {a:BitVec 64} {b:BitVec 64} (aq:bd c E L x (.of a)) (a6:bd c E L y (.of b)):cf c E L ⟨d,.binOp .shr t x y t2,ty,pos,af,g⟩ (.of (a >>> b.toNat)):= .pure fun A W s=>
 ⟨.int .u64 (a >>> b.toNat).toNat,by
   simp only [execOp,eqGuard,binOp,gj.1 (aq A W s),gj.1 (a6 A W s)]
   have h:=Xe c.P W .u64 .u64 a.toNat b.toNat (by omega)
   simp only [Int.toNat_natCast,IntKind.bits,Xi] at h
   exact congrArg (fun r:Result Value=>r.andThen fun v w=>.ok (Next.value v) w) h,gj.2 rfl⟩
theorem Oi {a b:BitVec 64} (aq:bd c E L x (.of a)) (a6:bd c E L y (.of b)):cf c E L ⟨d,.binOp .lss t x y t2,ty,pos,af,g⟩ (.of (decide (a<b))):= .pure fun A W s=>
 ⟨.bool (decide (a<b)),by
   simp only [execOp,eqGuard,binOp,gj.1 (aq A W s),gj.1 (a6 A W s)]
   have h:decide ((a.toNat:Int)<(b.toNat:Int))=decide (a<b):=by simp [BitVec.lt_def,BitVec.le_def]
   rw [← h]; rfl,of_bool.2 rfl⟩
theorem Ie {a b:BitVec 64} (aq:bd c E L x (.of a)) (a6:bd c E L y (.of b)):cf c E L ⟨d,.binOp .geq t x y t2,ty,pos,af,g⟩ (.of (decide (a≥b))):= .pure fun A W s=>
 ⟨.bool (decide (a≥b)),by
   simp only [execOp,eqGuard,binOp,gj.1 (aq A W s),gj.1 (a6 A W s)]
   have h:decide ((a.toNat:Int)≥ (b.toNat:Int))=decide (a≥b):=by simp [BitVec.lt_def,BitVec.le_def]
   rw [← h]; rfl,of_bool.2 rfl⟩
theorem yf {a b:BitVec 64} (aq:bd c E L x (.of a)) (a6:bd c E L y (.of b)):cf c E L ⟨d,.binOp .eql t x y t2,ty,pos,af,g⟩ (.of (a==b)):= .pure fun A W s=>
 ⟨.bool (a==b),by
   simp only [execOp,eqGuard,binOp,gj.1 (aq A W s),gj.1 (a6 A W s)]
   have h:((a.toNat:Int)==(b.toNat:Int))=(a==b):=by
    rw [Bool.eq_iff_iff]; simp [bne]; exact⟨fun h=>BitVec.eq_of_toNat_eq (by omega),fun h=>by rw [h]⟩
   rw [← h]; rfl,of_bool.2 rfl⟩
theorem Ok {a b:BitVec 64} (aq:bd c E L x (.of a)) (a6:bd c E L y (.of b)):cf c E L ⟨d,.binOp .neq t x y t2,ty,pos,af,g⟩ (.of (a !=b)):= .pure fun A W s=>
 ⟨.bool (a !=b),by
   simp only [execOp,eqGuard,binOp,gj.1 (aq A W s),gj.1 (a6 A W s)]
   have h:((a.toNat:Int) !=(b.toNat:Int))=(a !=b):=by
    rw [Bool.eq_iff_iff]; simp [bne]; exact⟨fun h=>fun e=>h (by rw [e]),fun h=>by intro e; exact h (BitVec.eq_of_toNat_eq (by omega))⟩
   rw [← h]; rfl,of_bool.2 rfl⟩
theorem iX {a:Int} {src dst:TypeId} {e:TypeDesc} (hs:c.P.underlying src=some e) (hd:c.P.underlying dst=some (.int .u64)) (aq:bd c E L x (.of a)):cf c E L ⟨d,.convert src dst x,ty,pos,af,g⟩ (.of (BitVec.ofInt 64 a)):= .pure fun A W s=>
 ⟨.int .u64 (BitVec.ofInt 64 a).toNat,by
   have h:IntKind.u64.wrap a=((BitVec.ofInt 64 a).toNat:Int):=by rw [wrap_u64,BitVec.toNat_ofInt]; omega
   simp [execOp,convert,run_underlying hs,run_underlying hd,of_int.1 (aq A W s),Conv.intToInt,h],gj.2 rfl⟩
theorem W1 {a:BitVec 64} {src dst:TypeId} {e:TypeDesc} (hs:c.P.underlying src=some e) (hd:c.P.underlying dst=some (.int .u8)) (aq:bd c E L x (.of a)):cf c E L ⟨d,.convert src dst x,ty,pos,af,g⟩ (.of (a.setWidth 8)):= .pure fun A W s=>
 ⟨.int .u8 (a.setWidth 8).toNat,by
   have h:IntKind.u8.wrap (a.toNat:Int)=((a.setWidth 8).toNat:Int):=by rw [wrap_u8,BitVec.toNat_setWidth]; have:=a.isLt; omega
   simp only [execOp,convert,Sem.run_bind,run_underlying hs,run_underlying hd,gj.1 (aq A W s),Conv.intToInt,Result.andThen_ok,h]; rfl,FC.2 rfl⟩
theorem XM {a:BitVec 64} {src dst:TypeId} {e:TypeDesc} (hs:c.P.underlying src=some e) (hd:c.P.underlying dst=some (.int .i64)) (aq:bd c E L x (.of a)):cf c E L ⟨d,.convert src dst x,ty,pos,af,g⟩ (.of (bs a.toNat)):= .pure fun A W s=>
 ⟨.int .i64 (bs a.toNat),by
   simp only [execOp,convert,Sem.run_bind,run_underlying hs,run_underlying hd,gj.1 (aq A W s),Conv.intToInt,Result.andThen_ok]; rfl,of_int.2 rfl⟩
end
def v8 (tmps:Array Value):ResultVar→Sem Value
 | .tmp t=>pure (tmps.getD t undef)
 | .cell a t=>do loadVar t (← asAddr (tmps.getD a undef))
theorem vE (fn:Func) (tmps:Array Value):results fn tmps=(do
 let vs ← fn.results.mapM (v8 tmps)
 pure (if h:vs.size=1 then vs[0] else .tuple vs)):=by
 unfold results
 congr 1
section
variable {c:dp} {E:List (Nat×I)} {L:List aT} {ops:Array Oper} {Q:Exit→Act→World→Prop}
def tD (c:dp) (E:List (Nat×I)) (L:List aT) (r:ResultVar) (τ:I):Prop:=
 ∀ a W,bV c E L a W→ ∃ v,(v8 a.tmps r).run c.P W= .ok v W∧τ.holds c.ca W v
theorem l5 {t:Nat} {τ:I} (h:look E t=some τ):tD c E L (.tmp t) τ:=fun a W s=>by
 obtain⟨v,aa,ad⟩:=s.env t τ h
 exact⟨v,by simp [v8,aa],M0 ad⟩
theorem abP {t:Nat} {ty:TypeId} {i p:Nat} {α:Type} [aj α] {x:α} (eQ:bF c.P ty α) (h:look E t=some (.eq (.pointer (some ⟨p,0,none⟩)))) (ar:L[i]? =some ⟨some p,.var x⟩):tD c E L (.cell t ty) (.of x):=fun a W s=>by
 obtain⟨v,aa,ad⟩:=s.env t _ h
 subst ad
 obtain⟨kt,e3,cs,T,rfl,gm⟩:=s.own _ (List.mem_of_getElem? ar)
 have ao:cs.toList.length=aj.size α:=aj.len gm
 have eX:cs.size=aj.size α:=by simpa using ao
 obtain⟨v,aF,aX⟩:=vw (A:=aV L++c.ca) (off:=0) eQ e3 (by omega) (by rw [List.drop_zero,← ao,List.take_length]; exact gm)
 exact⟨v,by simp [v8,aa,asAddr,aF],M0 aX⟩
def wR (c:dp) (ρ:I):Ending→World→Prop:=fun e W'=> ∃ v,e= .returned v∧Fr c.X c.jr W'∧ρ.holds c.ca W' v
theorem ae.hM {fn:Func} {r:ResultVar} {τ:I} (aQ:fn.results= #[r]) (h:tD c E L r τ) (ie:c.ds= []:=by rfl):ae c (bodyPost c.P fn (wR c τ)) .ret E L:=fun a W s=>by
 obtain⟨v,aa,ad⟩:=h a W s
 exact⟨s.vL ie,v,by simp [vE,aQ,aa],v,rfl,s.dQ,ad⟩
theorem ae.rP {fn:Func} {r hl:ResultVar} {τ oB:I} (aQ:fn.results= #[r,hl]) (h:tD c E L r τ) (ad:tD c E L hl oB) (ie:c.ds= []:=by rfl):ae c (bodyPost c.P fn (wR c (.ep [τ,oB]))) .ret E L:=fun a W s=>by
 obtain⟨v,aF,aX⟩:=h a W s
 obtain⟨v2,a0,bn⟩:=ad a W s
 exact⟨s.vL ie,.tuple #[v,v2],by simp [vE,aQ,aF,a0],_,rfl,s.dQ,_,rfl,.cons aX (.cons bn .nil)⟩
theorem ae.BS {fn:Func} {r hl oF:ResultVar} {τ oB CA:I} (aQ:fn.results= #[r,hl,oF]) (h:tD c E L r τ) (ad:tD c E L hl oB) (aF:tD c E L oF CA) (ie:c.ds= []:=by rfl):ae c (bodyPost c.P fn (wR c (.ep [τ,oB,CA]))) .ret E L:=fun a W s=>by
 obtain⟨v,aX,a0⟩:=h a W s
 obtain⟨v2,bn,cZ⟩:=ad a W s
 obtain⟨zf,e5,fX⟩:=aF a W s
 exact⟨s.vL ie,.tuple #[v,v2,zf],by simp [vE,aQ,aX,bn,e5],_,rfl,s.dQ,_,rfl,.cons a0 (.cons cZ (.cons fX .nil))⟩
theorem bw.of {P:Program} {f:FuncId} {fn:Func} {code:Code} {n:Nat} {τs:List I} {ρ:I} (a7:P.funcs[f]? =some fn) (hb:fn.body=some code) (aR:fn.ntmps=n) (hlen:Nat.ble τs.length n=true)
 (h:∀ W A,ag ⟨P,n,W,[],A,none,[]⟩ (bodyPost P fn (wR ⟨P,n,W,[],A,none,[]⟩ ρ)) code (params 0 τs) []):bw P f τs ρ:=bw.enter a7 hb aR hlen h
end
structure lM (P:Program) (t:TypeId) (α:Type) [aj α] [DecidableEq α] (k:Nat):Prop where
 run:∀ d,k≤d→ ∀ A W u v (x y:α),(I.of x).holds A W u→ (I.of y).holds A W v→ (Op.equalIn d t u v).run P W= .ok (decide (x=y)) W
theorem Ou {P t K} (h:P.underlying t=some (.int K)):lM P t Int 1 where
 run d hd A W u v x y aq a6:=by
  obtain⟨d,rfl⟩:∃ e,d=e+1:=⟨d - 1,by omega⟩
  rw [of_int.1 aq,of_int.1 a6,run_equalIn_int W d t .i64 K x y h]
  congr 1
theorem Xj {P t K} (h:P.underlying t=some (.int K)):lM P t (BitVec 64) 1 where
 run d hd A W u v x y aq a6:=by
  obtain⟨d,rfl⟩:∃ e,d=e+1:=⟨d - 1,by omega⟩
  rw [gj.1 aq,gj.1 a6,run_equalIn_int W d t .u64 K _ _ h]
  congr 1
  rw [Bool.eq_iff_iff]; simp only [beq_iff_eq,decide_eq_true_eq]
  exact⟨fun h=>BitVec.eq_of_toNat_eq (by omega),fun h=>by rw [h]⟩
theorem Wu {P t} (h:P.underlying t=some .bool):lM P t Bool 1 where
 run d hd A W u v x y aq a6:=by
  obtain⟨d,rfl⟩:∃ e,d=e+1:=⟨d - 1,by omega⟩
  rw [of_bool.1 aq,of_bool.1 a6,run_equalIn_bool' W d t x y h]
  congr 1
theorem Hv {P:Program} {W:World} (f:Nat→Sem Bool) (p:Nat→Bool):∀ (l:List Nat),(∀ i∈l,(f i).run P W= .ok (p i) W)→
 (forIn (m:=Sem) l ((none,()):Option Bool×Unit) (fun i _=>do
  let __do_lift ← f i
  if (!__do_lift)=true then pure (ForInStep.done (some false,())) else
   pure (ForInStep.yield (none,())))).run P W= .ok (if l.all p then(none,()) else(some false,())) W
 | [],_=>by simp
 | i::r,h=>by
   have aa:=h i (by simp)
   have ad:=Hv (P:=P) (W:=W) f p r (fun j aE=>h j (by simp [aE]))
   cases hp:p i with
   | false=>simp [List.forIn_cons,aa,hp]
   | true=>
     rw [List.forIn_cons]
     simp only [Sem.run_bind,aa,hp,Result.andThen_ok,Bool.not_true,Bool.false_eq_true,if_false,Sem.run_pure]
     rw [ad]
     simp [hp]
theorem Ip {P t e n k} {α:Type} [aj α] [Inhabited α] [DecidableEq α] (h:P.underlying t=some (.array n e)) (e6:bF P e α) (he:lM P e α k):lM P t (Vector α n) (k+1) where
 run d hd A W u v x y aq a6:=by
  obtain⟨d,rfl⟩:∃ e,d=e+1:=⟨d - 1,by omega⟩
  obtain⟨aa,ad⟩:=aq
  obtain⟨aF,aX⟩:=a6
  obtain⟨xs,rfl⟩:∃ cs,u= .agg cs:=by simpa [shaped,aj.agg] using aa
  obtain⟨ys,rfl⟩:∃ cs,v= .agg cs:=by simpa [shaped,aj.agg] using aF
  simp only [Value.cells] at ad aX
  have tk:xs.toList.length=n * aj.size α:=aj.len ad
  have CB:ys.toList.length=n * aj.size α:=aj.len aX
  have sX:∀ i∈List.range' 0 n,((do
   let a ← part e xs (i * aj.size α)
   let b ← part e ys (i * aj.size α)
   Op.equalIn d e a b):Sem Bool).run P W= .ok (decide (br x i=br y i)) W:=by
   intro i ak
   have g7:i<n:=by simpa using ak
   have eE:i * aj.size α+aj.size α≤n * aj.size α:=(aN.idx (α:=α) n i g7).gI
   obtain⟨a,bp,tl⟩:=rq (A:=A) (P:=P) (W:=W) (cs:=xs) (off:=i * aj.size α) e6 (by simp at tk; omega) ((aN.idx (α:=α) n i g7).iO ad)
   obtain⟨b,hb,CC⟩:=rq (A:=A) (P:=P) (W:=W) (cs:=ys) (off:=i * aj.size α) e6 (by simp at CB; omega) ((aN.idx (α:=α) n i g7).iO aX)
   simp only [Sem.run_bind,bp,hb,Result.andThen_ok]
   exact he.run d (by omega) A W a b _ _ tl CC
  have a7:=Hv (P:=P) (W:=W) _ _ _ sX
  have jG:(List.range' 0 n).all (fun i=>decide (br x i=br y i))=decide (x=y):=by
   rw [Bool.eq_iff_iff,List.all_eq_true,decide_eq_true_eq]
   constructor
   ·intro h
    apply Vector.ext
    intro i ak
    have:=h i (by simpa using ak)
    simpa [br,ak] using this
   rintro rfl i _
   simp
  rw [jG] at a7
  simp only [Op.equalIn,Sem.run_bind,run_underlying h,Result.andThen_ok,e6.sizeOf,Std.Legacy.Range.forIn_eq_forIn_range']
  simp only [Std.Legacy.Range.size,Nat.sub_zero,Nat.add_one_sub_one,Nat.div_one] at a7 ⊢
  simp only [bind_assoc] at a7
  rw [a7]
  by_cases CD:x=y
  ·simp [CD]
  simp [CD]
section
variable {c:dp} {E:List (Nat×I)} {L:List aT} {ops:Array Oper} {Q:Exit→Act→World→Prop}
variable {d:Option Tmp} {ty:TypeId} {pos:String} {af:Array Edge} {g:Option (Nat×Bool)} {x y:Operand} {t t2:TypeId}
theorem yz {α:Type} [aj α] [DecidableEq α] {k:Nat} {a b:α} (xj:lM c.P t α k) (aw:Nat.ble k 10000=true) (bQ:c.P.eqGuardType c.P.depth t=false) (bp:aj.agg α=true) (aq:bd c E L x (.of a)) (a6:bd c E L y (.of b)):
 cf c E L ⟨d,.binOp .eql t x y t2,ty,pos,af,g⟩ (.of (decide (a=b))):= .pure fun A W s=>by
 have aa:=aq A W s
 have ad:=a6 A W s
 obtain⟨xs,h6⟩:∃ cs,A.eval x= .agg cs:=by simpa [shaped,bp] using aa.1
 obtain⟨ys,u3⟩:∃ cs,A.eval y= .agg cs:=by simpa [shaped,bp] using ad.1
 have aF:=xj.run 10000 (Nat.le_of_ble_eq_true aw) _ W _ _ a b aa ad
 rw [h6,u3] at aF
 refine⟨.bool (decide (a=b)),?_,of_bool.2 rfl⟩
 simp only [execOp,h6,u3,Sem.run_bind,run_eqGuard_agg W .eql t x y xs ys bQ,Result.andThen_ok,run_eql_struct,aF,Sem.run_pure]
theorem yx {α:Type} [aj α] [DecidableEq α] {k:Nat} {a b:α} (xj:lM c.P t α k) (aw:Nat.ble k 10000=true) (bQ:c.P.eqGuardType c.P.depth t=false) (bp:aj.agg α=true) (aq:bd c E L x (.of a)) (a6:bd c E L y (.of b)):
 cf c E L ⟨d,.binOp .neq t x y t2,ty,pos,af,g⟩ (.of (!decide (a=b))):= .pure fun A W s=>by
 have aa:=aq A W s
 have ad:=a6 A W s
 obtain⟨xs,h6⟩:∃ cs,A.eval x= .agg cs:=by simpa [shaped,bp] using aa.1
 obtain⟨ys,u3⟩:∃ cs,A.eval y= .agg cs:=by simpa [shaped,bp] using ad.1
 have aF:=xj.run 10000 (Nat.le_of_ble_eq_true aw) _ W _ _ a b aa ad
 rw [h6,u3] at aF
 refine⟨.bool (!decide (a=b)),?_,of_bool.2 rfl⟩
 simp only [execOp,h6,u3,Sem.run_bind,run_eqGuard_agg W .neq t x y xs ys bQ,Result.andThen_ok,run_neq_struct,aF,Sem.run_pure]
end
theorem Iq {P:Program} {W:World} {d:Nat} {xs ys:Array Value} :(Op.eqFields d xs ys []).run P W= .ok true W:=rfl
theorem sx {P:Program} {A:List Nat} {W:World} {d:Nat} {xs ys:Array Value} {β γ:Type} [aj β] [aj γ] [DecidableEq γ] (l:aN β γ) {LB LC:β} {fd:Field} {fs:List Field} {k:Nat} {r:Bool} (e6:bF P fd.type γ) (bm:fd.offset=l.off) (aR:(fd.name== "_")=false)
 (xj:lM P fd.type γ k) (hd:k≤d) (aq:aj.rep A W xs.toList LB) (a6:aj.rep A W ys.toList LC) (aQ:(Op.eqFields d xs ys fs).run P W= .ok r W):
 (Op.eqFields d xs ys (fd::fs)).run P W= .ok (decide (l.get LB=l.get LC)&&r) W:=by
 have tk:xs.toList.length=aj.size β:=aj.len aq
 have CB:ys.toList.length=aj.size β:=aj.len a6
 have eE:=l.gI
 obtain⟨a,bp,tl⟩:=rq (A:=A) (P:=P) (W:=W) (cs:=xs) (off:=l.off) e6 (by simp at tk; omega) (l.iO aq)
 obtain⟨b,hb,CC⟩:=rq (A:=A) (P:=P) (W:=W) (cs:=ys) (off:=l.off) e6 (by simp at CB; omega) (l.iO a6)
 have tm:fd.name≠ "_" :=fun e=>by rw [e] at aR; simp at aR
 simp only [Op.eqFields,if_pos tm,Sem.run_bind,bm,bp,hb,Result.andThen_ok,xj.run d hd A W a b _ _ tl CC]
 by_cases h:l.get LB=l.get LC
 ·simp [h,aQ]
 simp [h]
theorem HE {P:Program} {t:TypeId} {β:Type} [aj β] [DecidableEq β] {k:Nat} {fs:Array Field} (bp:aj.agg β=true) (hu:P.underlying t=some (.struct fs)) (hp:P.stoodInHeld t=false)
 (h:∀ d,k≤d→ ∀ A W (xs ys:Array Value) (x y:β),aj.rep A W xs.toList x→aj.rep A W ys.toList y→ (Op.eqFields d xs ys fs.toList).run P W= .ok (decide (x=y)) W):lM P t β (k+1) where
 run d hd A W u v x y aq a6:=by
  obtain⟨d,rfl⟩:∃ e,d=e+1:=⟨d - 1,by omega⟩
  obtain⟨xs,rfl⟩:∃ cs,u= .agg cs:=by simpa [shaped,bp] using aq.1
  obtain⟨ys,rfl⟩:∃ cs,v= .agg cs:=by simpa [shaped,bp] using a6.1
  have a7:P.fieldsOf t=fs:=by simp [Program.fieldsOf,hu]
  rw [run_equalIn_struct W d t xs ys (by rw [a7]; exact hu) hp,a7]
  exact h d (by omega) A W xs ys x y (by simpa [Value.cells] using aq.2) (by simpa [Value.cells] using a6.2)
theorem Mx {P:Program} {W:World} (fs:Array Field) (h:fs.all (fun f=>(P.info? f.type).isSome)=true):
 (fs.mapM (m:=Sem) fun f=>do pure (f.offset,← Go.sizeOf f.type)).run P W= .ok (fs.map fun f=>(f.offset,P.cellsOf f.type)) W:=by
 obtain⟨l⟩:=fs
 have key:∀ (l:List Field),l.all (fun f=>(P.info? f.type).isSome)=true→ (l.mapM (m:=Sem) fun f=>do pure (f.offset,← Go.sizeOf f.type)).run P W= .ok (l.map fun f=>(f.offset,P.cellsOf f.type)) W:=by
  intro l
  induction l with
  | nil=>intro _; rfl
  | cons f r bR=>
    intro h
    simp only [List.all_cons,Bool.and_eq_true] at h
    obtain⟨i,ak⟩:=Option.isSome_iff_exists.1 h.1
    rw [List.mapM_cons]
    simp only [Sem.run_bind,Go.sizeOf,typeInfo,run_program,Result.andThen_ok,ak,Sem.run_pure]
    have:=bR h.2
    simp only [Sem.run_bind,Go.sizeOf,typeInfo] at this
    rw [this]
    simp [Program.cellsOf,ak]
 have dc:l.all (fun f=>(P.info? f.type).isSome)=true:=by simpa using h
 rw [List.mapM_toArray]
 simp only [Sem.run_map,key l dc,Result.andThen_ok]
 simp
theorem UO (ds:List Value) (off:Nat):∀ (j:Nat) (cs:Array Value),off+j+ds.length≤cs.size→
 (ds.zipIdx j).foldl (fun cs (c,j)=>cs.setIfInBounds (off+j) c) cs=(cs.toList.take (off+j)++ds++cs.toList.drop (off+j+ds.length)).toArray:=by
 induction ds with
 | nil=>intro j cs _; simp
 | cons v r bR=>
   intro j cs h
   simp only [List.length_cons] at h
   rw [List.zipIdx_cons,List.foldl_cons,bR (j+1) _ (by simp; omega)]
   simp only [Array.toList_setIfInBounds]
   have:=list_seg_step cs.toList (off+j) v r (by simp; omega)
   rw [show off+(j+1)=off+j+1 by omega]
   simp only [List.length_cons]
   rw [this]
theorem EE {place:Nat→Option (Nat×Nat)} {cs:Array Value} {i off sz:Nat} {v:Value} {rest:List (Nat×Value)} (hp:place i=some (off,sz)) (a2:v.cells.size=sz) (hle:off+sz≤cs.size):
 Instr.fill place cs ((i,v)::rest)=Instr.fill place (gq cs.toList off v.cells.toList).toArray rest:=by
 simp only [Instr.fill,hp]
 rw [if_neg (by simp [a2]; omega)]
 have:=UO v.cells.toList off 0 cs (by simp [a2]; omega)
 simp only [Nat.add_zero] at this
 congr 1
 rw [← Array.foldl_toList]
 have df:(v.cells.zipIdx).toList=v.cells.toList.zipIdx:=by simp
 rw [df,this]
 simp [gq]
section
variable {c:dp} {E:List (Nat×I)} {L:List aT} {ops:Array Oper} {Q:Exit→Act→World→Prop}
variable {d:Option Tmp} {ty:TypeId} {pos:String} {af:Array Edge} {g:Option (Nat×Bool)} {x y:Operand} {t t2:TypeId}
inductive rN (c:dp) (E:List (Nat×I)) (L:List aT) (place:Nat→Option (Nat×Nat)) {β:Type} [aj β]:β→List (Nat×Operand)→β→Prop
 | nil {b} :rN c E L place b [] b
 | cons {b eo b':β} {γ:Type} [aj γ] {v:γ} {i:Nat} {x:Operand} {r:List (Nat×Operand)} (l:aN β γ):place i=some (l.off,aj.size γ)→bd c E L x (.of v)→l.set b v=eo→rN c E L place eo r b'→rN c E L place b ((i,x)::r) b'
theorem rN.run {place:Nat→Option (Nat×Nat)} {β:Type} [aj β] {b b':β} {bz:List (Nat×Operand)} (h:rN c E L place b bz b'):∀ a W,bV c E L a W→ ∀ cs:Array Value,aj.rep (aV L++c.ca) W cs.toList b→
 ∃ eh,Instr.fill place cs (bz.map fun(i,x)=>(i,a.eval x))=some eh∧aj.rep (aV L++c.ca) W eh.toList b':=by
 induction h with
 | nil=>intro a W s cs aQ; exact⟨cs,rfl,aQ⟩
 | @cons b eo b' γ _ v i x r l aa ad aF _ bR=>
   intro a W s cs aQ
   subst aF
   have a2:=ad a W s
   have eX:(a.eval x).cells.size=aj.size γ:=by have:=aj.len a2.2; simpa using this
   have ao:cs.toList.length=aj.size β:=aj.len aQ
   have eE:=l.gI
   rw [List.map_cons,EE aa eX (by simp at ao; omega)]
   refine bR a W s _ ?_
   have:=l.lA aQ a2.2
   simpa [gq,aj.len a2.2] using this
structure h8 (P:Program) (t:TypeId) (pl:Array (Nat×Nat)):Prop where
 at_:∃ fs,P.underlying t=some (.struct fs)∧fs.all (fun f=>(P.info? f.type).isSome)=true∧ (fs.map fun f=>(f.offset,P.cellsOf f.type))=pl
theorem c9 {β:Type} [aj β] {z b:β} {bz:List (Nat×Operand)} {pl:Array (Nat×Nat)} (bp:aj.agg β=true) (Dd:h8 c.P t pl) (g9:cP c.P t z)
 (a7:rN c E L (pl[·]?) z bz b):cf c E L ⟨d,.build t bz.toArray,ty,pos,af,g⟩ (.of b):= .pure fun a W s=>by
 obtain⟨fs,hu,hs,rfl⟩:=Dd.at_
 obtain⟨i,eF,aa,ad,aF⟩:=g9.zero
 obtain⟨eh,aX,a0⟩:=a7.run a W s eF.cells (aF _ _).2
 refine⟨.agg eh,?_,by simp [shaped,bp],by simpa [Value.cells] using a0⟩
 have hm:(bz.toArray.map fun(x:Nat×Operand)=>(x.1,a.eval x.2)).toList=bz.map fun(i,x)=>(i,a.eval x):=by simp
 simp only [execOp,Instr.build,Sem.run_bind,zeroValue,typeInfo,run_program,Result.andThen_ok,aa,ad,Sem.run_pure,run_underlying hu,Mx fs hs]
 rw [hm,aX]
 rfl
theorem NC {β:Type} [aj β] {z b:β} {bz:List (Nat×Operand)} {n e sz:Nat} (bp:aj.agg β=true) (hu:c.P.underlying t=some (.array n e)) (hs:(c.P.info? e).map (·.size)=some sz) (g9:cP c.P t z)
 (a7:rN c E L (fun i=>some (i * sz,sz)) z bz b):cf c E L ⟨d,.build t bz.toArray,ty,pos,af,g⟩ (.of b):= .pure fun a W s=>by
 obtain⟨i,eF,aa,ad,aF⟩:=g9.zero
 obtain⟨gB,er,eX⟩:∃ gB,c.P.info? e=some gB∧gB.size=sz:=by
  cases ak:c.P.info? e with
  | none=>simp [ak] at hs
  | some gB=>exact⟨gB,rfl,by simpa [ak] using hs⟩
 obtain⟨eh,aX,a0⟩:=a7.run a W s eF.cells (aF _ _).2
 refine⟨.agg eh,?_,by simp [shaped,bp],by simpa [Value.cells] using a0⟩
 have hm:(bz.toArray.map fun(x:Nat×Operand)=>(x.1,a.eval x.2)).toList=bz.map fun(i,x)=>(i,a.eval x):=by simp
 simp only [execOp,Instr.build,Sem.run_bind,zeroValue,typeInfo,run_program,Result.andThen_ok,aa,ad,Sem.run_pure,run_underlying hu,Go.sizeOf,er,eX]
 rw [hm,aX]
 rfl
end
def oG {α:Type} [aj α] (A:List Nat) (W:World) (v:Value) (xs:List α):Prop:=
 (v= .slice none 0 0∧xs= [])∨
 ∃ b off cap cur T hA,v= .slice (some ⟨b,off,none⟩) xs.length cap∧b ∉ A∧W.heap[b]? =some (.cells cur T hA)∧xs.length≤cap∧xs.length≤maxLen∧off+xs.length * aj.size α≤cur.size∧
   g4 A W ((cur.toList.drop off).take (xs.length * aj.size α)) xs
theorem oG.mono {α:Type} [aj α] {A W dh W' v} {xs:List α} (e:Ext A W dh W') (h:oG A W v xs):oG dh W' v xs:=by
 rcases h with h | ⟨b,off,cap,cur,T,hA,aa,ad,aF,aX,a0,bn,cZ⟩
 ·exact .inl h
 have cD:b<W.heap.size:=(Array.getElem?_eq_some_iff.1 aF).1
 exact .inr ⟨b,off,cap,cur,T,hA,aa,fun hm=>ad (e.new b hm cD),by rw [e.block b cD ad]; exact aF,aX,a0,bn,cZ.mono e⟩
instance aeb {α:Type} [aj α]:aj (List α) where
 size:=1
 agg:=false
 rep A W cs xs:= ∃ v,cs= [v]∧oG A W v xs
 len h:=by obtain⟨v,rfl,_⟩:=h; rfl
 one h:=by
  obtain⟨v,rfl,h⟩:=h
  intro u hu
  rw [List.mem_singleton.1 hu]
  rcases h with⟨rfl,_⟩ | ⟨b,off,cap,cur,T,hA,rfl,_⟩ <;> rfl
 flat _:=rfl
 mono e h:=let⟨v,aa,ad⟩:=h; ⟨v,aa,ad.mono e⟩
theorem oG.one {α:Type} [aj α] {A W v} {xs:List α} (h:oG A W v xs):v.oneCell'=true:=by
 rcases h with⟨rfl,_⟩ | ⟨b,off,cap,cur,T,hA,rfl,_⟩ <;> rfl
theorem nu {α:Type} [aj α] {A W v} {xs:List α} :(I.of xs).holds A W v↔oG A W v xs:=by
 constructor
 ·rintro ⟨aa,u,ad,aF⟩
  have:v=u:=oO aa ad
  rw [this]; exact aF
 intro h
 exact⟨h.one,v,by rw [oP h.one],h⟩
def az {α:Type} [Inhabited α] (xs:List α) (k:Nat):α:=xs[k]?.getD default
theorem e0 {α:Type} [Inhabited α] (xs:List α) {k:Nat} (h:k<xs.length):az xs k=xs[k]:=by simp [az,h]
def sL {α:Type} (xs:List α) (lo ak:Int):Option (List α):=if 0≤lo∧lo≤ak∧ak≤xs.length then some ((xs.drop lo.toNat).take (ak.toNat - lo.toNat)) else none
theorem UP {α:Type} {xs r:List α} {lo ak:Int} (h:sL xs lo ak=some r):∃ a b:Nat,lo=a∧ak=b∧a≤b∧b≤xs.length∧r=(xs.drop a).take (b - a):=by
 unfold sL at h
 split at h
 ·rename_i al
  simp only [Option.some.injEq] at h
  exact⟨lo.toNat,ak.toNat,by omega,by omega,by omega,by omega,h.symm⟩
 cases h
def fV {α:Type} (bytes:Nat) (xs ys:List α):Option (List α):=if (xs.length+ys.length) * bytes≤140737488355328∧xs.length+ys.length≤maxLen then some (xs++ys) else none
theorem Nj {α:Type} {bytes:Nat} {xs ys r:List α} (h:fV bytes xs ys=some r):(xs.length+ys.length) * bytes≤140737488355328∧xs.length+ys.length≤maxLen∧r=xs++ys:=by
 unfold fV at h
 split at h
 ·rename_i al; simp only [Option.some.injEq] at h; exact⟨al.1,al.2,h.symm⟩
 cases h
section
variable {c:dp} {E:List (Nat×I)} {L:List aT} {ops:Array Oper} {Q:Exit→Act→World→Prop}
variable {d:Option Tmp} {ty:TypeId} {pos:String} {af:Array Edge} {g:Option (Nat×Bool)} {x y:Operand} {t t2:TypeId}
theorem look_nil {α:Type} [aj α]:bd c E L (.const (.slice none 0 0)) (.of ([]:List α)):=fun _ _ _=>nu.2 (.inl ⟨rfl,rfl⟩)
theorem oG.len {α:Type} [aj α] {A W v} {xs:List α} (h:oG A W v xs):∃ a cap,v= .slice a xs.length cap:=by
 rcases h with⟨rfl,rfl⟩ | ⟨b,off,cap,cur,T,hA,rfl,_⟩
 ·exact⟨none,0,rfl⟩
 exact⟨_,_,rfl⟩
theorem eK {α:Type} [aj α] {xs:List α} {e:TypeId} (hu:c.P.underlying t=some (.slice e)) (aq:bd c E L x (.of xs)):cf c E L ⟨d,.call ⟨.builtin .len,#[x],#[t]⟩,ty,pos,af,g⟩ (.of (xs.length:Int)):= .pure fun a W s=>by
 obtain⟨b,cap,aa⟩:=(nu.1 (aq a W s)).len
 exact⟨.int .i64 xs.length,by simp [execOp,resolve,invoke,builtin,Builtin.len_,aa,run_underlying hu,goInt],of_int.2 rfl⟩
theorem ql {α:Type} [aj α] [Inhabited α] {xs:List α} {e:TypeId} {i:Int} {k:Nat} (hu:c.P.underlying t=some (.slice e)) (e6:bF c.P e α) (aq:bd c E L x (.of xs)) (a6:bd c E L y (.of i)) (aw:k<xs.length∧i=k):
 cf c E L ⟨d,.indexAddr t x y,ty,pos,af,g⟩ (.ptr (az xs k)):= .pure fun a W s=>by
 obtain⟨bn,rfl⟩:=aw
 have a0:=of_int.1 (a6 a W s)
 rcases nu.1 (aq a W s) with⟨_,rfl⟩ | ⟨b,off,cap,cur,T,hA,aa,ad,aF,aX,cZ,e5,fX⟩
 ·simp at bn
 obtain⟨gB,er,eX⟩:=e6.info
 have hle:(k+1) * aj.size α≤xs.length * aj.size α:=Nat.mul_le_mul_right _ bn
 rw [Nat.succ_mul] at hle
 refine⟨.pointer (some ⟨b,off+k * aj.size α,none⟩),?_,b,off+k * aj.size α,cur,T,hA,rfl,ad,aF,by omega,?_⟩
 ·simp [execOp,Instr.indexAt,asIntOf,run_underlying hu,aa,a0,bn,Go.sizeOf,typeInfo,er,eX,jE]
 have:=fX.2 k bn
 rw [vz _ _ _ _ _ hle] at this
 rw [e0 xs bn]
 exact this
theorem px {P:Program} {W:World} {v:Value} {k:IntKind} {n m:Nat} {code:BoundsCode} (h:n≤m) (a2:v= .int k n):(Instr.sliceBound v m code).run P W= .ok n W:=by
 subst a2
 have bT:(n:Int)≤ (m:Int):=by omega
 simp [Instr.sliceBound,asIntOf,h]
theorem Xk {α:Type} [aj α] {A W} {xs:List α} {b off cap:Nat} {cur:Array Value} {T:TypeId} {hA:Nat×Nat} {lo ak:Nat} (ad:b ∉ A) (aF:W.heap[b]? =some (.cells cur T hA)) (aX:xs.length≤cap) (cZ:xs.length≤maxLen)
 (e5:off+xs.length * aj.size α≤cur.size) (fX:g4 A W ((cur.toList.drop off).take (xs.length * aj.size α)) xs) (h:lo≤ak) (dc:ak≤xs.length):
 oG A W (.slice (some (if cap=lo then⟨b,off,none⟩ else⟨b,off+lo * aj.size α,none⟩)) (ak - lo) (cap - lo)) ((xs.drop lo).take (ak - lo)):=by
 have ao:((xs.drop lo).take (ak - lo)).length=ak - lo:=by simp; omega
 have hm:ak * aj.size α≤xs.length * aj.size α:=Nat.mul_le_mul_right _ dc
 have nd:lo * aj.size α≤ak * aj.size α:=Nat.mul_le_mul_right _ h
 have hd:(ak - lo) * aj.size α=ak * aj.size α - lo * aj.size α:=Nat.sub_mul _ _ _
 by_cases e:cap=lo
 ·subst e
  have bT:ak=cap:=by omega
  subst bT
  refine .inr ⟨b,off,ak - ak,cur,T,hA,by simp,ad,aF,by simp,by simp,by simp; omega,?_⟩
  simp only [Nat.sub_self,List.take_zero,List.length_nil,Nat.zero_mul]
  exact⟨by simp,fun i ak=>by simp at ak⟩
 rw [if_neg e]
 refine .inr ⟨b,off+lo * aj.size α,cap - lo,cur,T,hA,by rw [ao],ad,aF,by omega,by omega,by rw [ao]; omega,?_⟩
 rw [ao]
 refine⟨by simp only [ao,List.length_take,List.length_drop]; simp; omega,fun i g7=>?_⟩
 rw [ao] at g7
 have kI:=fX.2 (lo+i) (by omega)
 have hle:(lo+i+1) * aj.size α≤xs.length * aj.size α:=Nat.mul_le_mul_right _ (by omega)
 have FV:(i+1) * aj.size α≤ (ak - lo) * aj.size α:=Nat.mul_le_mul_right _ (by omega)
 rw [Nat.succ_mul] at hle FV
 rw [vz _ _ _ _ _ hle] at kI
 rw [vz _ _ _ _ _ FV]
 have:((xs.drop lo).take (ak - lo))[i]'(by rw [ao]; exact g7)=xs[lo+i]:=by simp
 rw [this]
 rw [show off+lo * aj.size α+i * aj.size α=off+(lo+i) * aj.size α by rw [Nat.add_mul]; omega]
 exact kI
inductive vc (c:dp) (E:List (Nat×I)) (L:List aT):Option Operand→Int→Int→Prop
 | none {n} :vc c E L .none n n
 | some {x i n} :bd c E L x (.of (i:Int))→vc c E L (.some x) i n
theorem H9 {α:Type} [aj α] {xs r:List α} {e:TypeId} {lo ak:Option Operand} {i j:Int} (hu:c.P.underlying t=some (.slice e)) (e6:bF c.P e α) (aq:bd c E L x (.of xs)) (fW:vc c E L lo i 0) (dD:vc c E L ak j xs.length)
 (h:sL xs i j=some r):cf c E L ⟨d,.slice t x lo ak none,ty,pos,af,g⟩ (.of r):= .pure fun a W s=>by
 obtain⟨m,n,rfl,rfl,rW,aR,rfl⟩:=UP h
 obtain⟨gB,er,eX⟩:=e6.info
 rcases nu.1 (aq a W s) with⟨aa,rfl⟩ | ⟨b,off,cap,cur,T,hA,aa,ad,aF,aX,cZ,e5,fX⟩
 ·have r1:n=0:=by simpa using aR
  have g8:m=0:=by omega
  subst r1
  subst g8
  refine⟨.slice none 0 0,?_,nu.2 (.inl ⟨rfl,by simp⟩)⟩
  have ar:(match lo.map a.eval with | some v=>Instr.sliceBound v 0 .sliceB | none=>pure 0:Sem Nat).run c.P W= .ok 0 W:=by
   cases fW with
   | none=>rfl
   | some ao=>exact px (Nat.le_refl _) (of_int.1 (ao a W s))
  have j8:(match ak.map a.eval,(none:Option Value) with | some v,some _=>Instr.sliceBound v 0 .slice3B | some v,none=>Instr.sliceBound v 0 .sliceAcap | none,none=>pure 0 | none,some _=>stuck "Slice: max without high" :Sem Nat).run c.P W= .ok 0 W:=by
   cases dD with
   | none=>rfl
   | some ao=>exact px (Nat.le_refl _) (of_int.1 (ao a W s))
  cases fW <;> cases dD
  all_goals
   simp only [execOp,Instr.sliceAt,Instr.slice,Instr.sliceBounds,aa,Sem.run_bind,run_underlying hu,Result.andThen_ok,Option.map_none,Option.map_some,Option.isSome_none,Bool.false_eq_true,if_false,if_true,Sem.run_pure] at ar j8 ⊢
   try simp only [ar,j8,Result.andThen_ok,Go.sizeOf,typeInfo,Sem.run_bind,run_program,er,Sem.run_pure]
   try simp [er]
 refine⟨.slice (some (if cap=m then⟨b,off,none⟩ else⟨b,off+m * aj.size α,none⟩)) (n - m) (cap - m),?_,nu.2 (Xk ad aF aX cZ e5 fX rW aR)⟩
 have ar:∀ v,v=Value.int .i64 m→ (Instr.sliceBound v n .sliceB).run c.P W= .ok m W:=fun v a2=>px rW a2
 have j8:∀ v,v=Value.int .i64 n→ (Instr.sliceBound v cap .sliceAcap).run c.P W= .ok n W:=fun v a2=>px (by omega) a2
 have Ri:(if cap=m then(some ⟨b,off,none⟩:Option Addr) else(some (Addr.add ⟨b,off,none⟩ (m * aj.size α))))=some (if cap=m then⟨b,off,none⟩ else⟨b,off+m * aj.size α,none⟩):=by
  split <;> simp [jE]
 generalize eE:(n:Int)=Sd at dD
 generalize CE:(m:Int)=Se at fW
 generalize CF:(xs.length:Int)=Sf at dD
 generalize RD:(0:Int)=Sg at fW
 cases fW with
 | none=>
   have g8:m=0:=by omega
   cases dD with
   | none=>
     have nh:n=xs.length:=by omega
     subst nh
     subst g8
     simp [execOp,Instr.sliceAt,Instr.slice,Instr.sliceBounds,aa,run_underlying hu,Go.sizeOf,typeInfo,er,eX,jE]
   | some ao=>
     have a0:=of_int.1 (ao a W s)
     rw [← eE] at a0
     have bn:=j8 _ a0
     subst g8
     simp [execOp,Instr.sliceAt,Instr.slice,Instr.sliceBounds,aa,run_underlying hu,Go.sizeOf,typeInfo,er,eX,jE,bn]
 | some ao=>
   have a0:=of_int.1 (ao a W s)
   rw [← CE] at a0
   have bn:=ar _ a0
   cases dD with
   | none=>
     have nh:n=xs.length:=by omega
     subst nh
     simp only [execOp,Instr.sliceAt,Instr.slice,Instr.sliceBounds,aa,Sem.run_bind,run_underlying hu,Result.andThen_ok,Option.map_none,Option.map_some,Option.isSome_none,Bool.false_eq_true,if_false,if_true,Sem.run_pure,bn,Go.sizeOf,typeInfo,run_program,er,eX]
     rw [← Ri]
   | some ln=>
     have RE:=of_int.1 (ln a W s)
     rw [← eE] at RE
     have acG:=j8 _ RE
     simp only [execOp,Instr.sliceAt,Instr.slice,Instr.sliceBounds,aa,Sem.run_bind,run_underlying hu,Result.andThen_ok,Option.map_none,Option.map_some,Option.isSome_none,Bool.false_eq_true,if_false,if_true,Sem.run_pure,bn,acG,Go.sizeOf,typeInfo,run_program,er,eX]
     rw [← Ri]
end
def aS:Option Nat→Nat→Nat→Value
 | some p,n,cap=>.slice (some ⟨p,0,none⟩) n cap
 | none,_,_=>.slice none 0 0
theorem UQ {L:List aT} {i:Nat} {cp:dZ} :∀ k∈aV (L.set i ⟨none,cp⟩),∃ j e,j≠i∧L[j]? =some e∧e.key=some k:=by
 intro k aw
 obtain⟨e,he,u1⟩:=lB.1 aw
 obtain⟨j,aE⟩:=List.mem_iff_getElem?.1 he
 rw [List.getElem?_set] at aE
 split at aE
 ·split at aE
  ·simp only [Option.some.injEq] at aE; subst aE; cases u1
  cases aE
 rename_i dm
 exact⟨j,e,fun h=>dm h.symm,aE,u1⟩
theorem xS {L:List aT} {i:Nat} {cp:dZ} :aV (L.set i ⟨none,cp⟩) |>.Sublist (aV L):=by
 induction L generalizing i with
 | nil=>simp [aV]
 | cons x r bR=>
   cases i with
   | zero=>
     cases aw:x.key with
     | none=>simp [aV,aw]
     | some p=>simp [aV,aw]
   | succ i=>
     cases aw:x.key with
     | none=>simpa [aV,aw] using bR
     | some p=>simpa [aV,aw] using bR
theorem bV.kill {c E L a W} (h:bV c E L a W) (i:Nat):bV c E (L.set i ⟨none,.dead⟩) a W:=by
 have lh:=xS (L:=L) (i:=i) (cp:= .dead)
 have aw:∀ k∈aV (L.set i ⟨none,.dead⟩),k∈aV L:=fun k aw=>lh.subset aw
 have hP:Ext (aV L++c.ca) W (aV (L.set i ⟨none,.dead⟩)++c.ca) W:= .drop fun k hm=>by
  rcases List.mem_append.1 hm with hm | hm
  ·exact List.mem_append.2 (.inl (aw k hm))
  exact List.mem_append.2 (.inr hm)
 exact
 {defers:=h.defers
  size:=h.size
  env:=fun t τ ao=>let⟨v,aa,ad⟩:=h.env t τ ao; ⟨v,aa,τ.mono hP ad⟩
  dQ:=h.dQ
  own:=fun e he=>by
   obtain⟨j,aE⟩:=List.mem_iff_getElem?.1 he
   rw [List.getElem?_set] at aE
   split at aE
   ·split at aE
    ·simp only [Option.some.injEq] at aE; subst aE; trivial
    cases aE
   have aa:=h.own e (List.mem_of_getElem? aE)
   unfold aT.ok at *
   split at aa
   ·obtain⟨o',bm,cE⟩:=aa
    exact⟨o',bm,dZ.mono _ hP cE⟩
   exact aa
  nodup:=h.nodup.sublist lh
  lt:=fun k hm=>h.lt k (aw k hm)
  gl:=fun k hm=>h.gl k (aw k hm)
  fg:=fun k hm=>⟨(h.fg k hm).1,fun ad=>(h.fg k hm).2 (aw k ad)⟩ }
theorem bV.AX {c E L a W} (h:bV c E L a W) {i p:Nat} {cp:dZ} (ak:L[i]? =some ⟨some p,cp⟩):p ∉ aV (L.set i ⟨none,.dead⟩)++c.ca:=by
 intro hm
 rcases List.mem_append.1 hm with hm | hm
 ·obtain⟨j,e,dm,aE,u1⟩:=UQ p hm
  exact dm (IQ h.nodup aE ak u1 rfl)
 exact(h.fg p hm).2 (lB.2 ⟨_,List.mem_of_getElem? ak,rfl⟩)
theorem HB {α:Type} [aj α] {A W} {cs:Array Value} {xs:List α} {cap:Nat} (h:cs.size=cap * aj.size α) (aR:xs.length≤cap) (aQ:g4 A W (cs.toList.take (xs.length * aj.size α)) xs):
 0+xs.length * aj.size α≤cs.size∧g4 A W ((cs.toList.drop 0).take (xs.length * aj.size α)) xs:=by
 refine⟨?_,by simpa using aQ⟩
 rw [h,Nat.zero_add]; exact Nat.mul_le_mul_right _ aR
section
variable {c:dp} {E:List (Nat×I)} {L:List aT} {ops:Array Oper} {Q:Exit→Act→World→Prop}
variable {d:Option Tmp} {ty:TypeId} {pos:String} {af:Array Edge} {g:Option (Nat×Bool)} {x y:Operand} {t t2:TypeId}
theorem bV.freeze {a:Act} {W:World} {α:Type} [aj α] {i s cap T:Nat} {key:Option Nat} {xs:List α} (h:bV c E L a W) (ao:look E s=some (.eq (aS key xs.length cap))) (ar:L[i]? =some ⟨key,.row T xs cap⟩):
 bV c ((s,.of xs)::E) (L.set i ⟨none,.dead⟩) a W:=by
 have aw:=h.kill i
 refine { aw with env:=fun t τ eU=>?_ }
 simp only [look] at eU
 by_cases e:Nat.beq s t=true
 ·rw [e] at eU
  simp only [cond_true,Option.some.injEq] at eU
  subst eU
  have:=eD.1 e
  subst this
  obtain⟨v,aa,ad⟩:=h.env s _ ao
  refine⟨v,aa,nu.2 ?_⟩
  have kn:v=aS key xs.length cap:=ad
  subst kn
  have bm:=h.own _ (List.mem_of_getElem? ar)
  cases key with
  | none=>exact .inl ⟨rfl,bm.1⟩
  | some p=>
    obtain⟨o,e3,cs,rfl,eX,aR,o4,aQ⟩:=bm
    obtain⟨aF,aX⟩:=HB eX aR aQ
    refine .inr ⟨p,0,cap,cs,T,(0,0),rfl,h.AX ar,e3,aR,by omega,aF,?_⟩
    have lh:=xS (L:=L) (i:=i) (cp:= .dead)
    exact aX.mono (.drop fun k hm=>by
     rcases List.mem_append.1 hm with hm | hm
     ·exact List.mem_append.2 (.inl (lh.subset hm))
     exact List.mem_append.2 (.inr hm))
 simp only [Bool.not_eq_true] at e
 rw [e] at eU
 exact aw.env t τ eU
theorem ai.freeze {l:List Oper} {α:Type} [aj α] {key:Option Nat} {xs:List α} {cap T:Nat} (i s:Nat) (ao:look E s=some (.eq (aS key xs.length cap))) (ar:L[i]? =some ⟨key,.row T xs cap⟩)
 (k:ai c ops Q l ((s,.of xs)::E) (L.set i ⟨none,.dead⟩)):ai c ops Q l E L:=fun a W st=>k a W (st.freeze ao ar)
theorem ag.freeze {code:Code} {α:Type} [aj α] {key:Option Nat} {xs:List α} {cap T:Nat} (i s:Nat) (ao:look E s=some (.eq (aS key xs.length cap))) (ar:L[i]? =some ⟨key,.row T xs cap⟩)
 (k:ag c Q code ((s,.of xs)::E) (L.set i ⟨none,.dead⟩)):ag c Q code E L:=fun a W st=>k a W (st.freeze ao ar)
theorem bV.X1 {a:Act} {W:World} {α:Type} [aj α] (T:TypeId) (h:bV c E L a W):bV c E (⟨none,.row T ([]:List α) 0⟩::L) a W:=
 {h with
  own:=fun e he=>by
   rcases List.mem_cons.1 he with rfl | he
   ·exact⟨rfl,rfl⟩
   exact h.own e he }
theorem ai.own {l:List Oper} {α:Type} [aj α] (T:TypeId) (k:ai c ops Q l E (⟨none,.row T ([]:List α) 0⟩::L)):ai c ops Q l E L:=fun a W st=>k a W (st.X1 T)
theorem qb:bd c E L (.const (.slice none 0 0)) (.eq (aS none 0 0)):=fun _ _ _=>rfl
theorem oU {key:Option Nat} {n cap:Nat} {e i T:Nat} {α:Type} [aj α] {xs:List α} (hu:c.P.underlying t=some (.slice e)) (aq:bd c E L x (.eq (aS key n cap))) (aR:n=xs.length) (ar:L[i]? =some ⟨key,.row T xs cap⟩):cf c E L ⟨d,.call ⟨.builtin .len,#[x],#[t]⟩,ty,pos,af,g⟩ (.of (n:Int)):= .pure fun a W s=>by
 subst aR
 have aa:a.eval x=_:=aq a W s
 have bm:=s.own _ (List.mem_of_getElem? ar)
 cases key with
 | none=>
   have:xs= []:=bm.1
   subst this
   exact⟨.int .i64 0,by simp [execOp,resolve,invoke,builtin,Builtin.len_,aa,aS,run_underlying hu,goInt],of_int.2 rfl⟩
 | some p=>exact⟨.int .i64 xs.length,by simp [execOp,resolve,invoke,builtin,Builtin.len_,aa,aS,run_underlying hu,goInt],of_int.2 rfl⟩
theorem g4.one {α:Type} [aj α] {A W} {cs:List Value} {xs:List α} (h:g4 A W cs xs):∀ u∈cs,u.oneCell'=true:=by
 intro u hu
 obtain⟨j,aE⟩:=List.mem_iff_getElem?.1 hu
 have cD:=(List.getElem?_eq_some_iff.1 aE).1
 have aa:=h.1
 by_cases hs:aj.size α=0
 ·rw [hs,Nat.mul_zero] at aa; omega
 have hp:0<aj.size α:=Nat.pos_of_ne_zero hs
 have ak:j / aj.size α<_:=(Nat.div_lt_iff_lt_mul hp).2 (by rw [aa] at cD; exact cD)
 refine aj.one (h.2 _ ak) u (List.mem_iff_getElem?.2 ⟨j % aj.size α,?_⟩)
 rw [List.getElem?_take,if_pos (Nat.mod_lt _ hp),List.getElem?_drop,Nat.mul_comm,Nat.div_add_mod]
 exact aE
theorem tZ {α:Type} [aj α] {A W} {cs ds:List Value} {xs ys:List α} (h:g4 A W cs xs) (dc:g4 A W ds ys):g4 A W (cs++ds) (xs++ys):=by
 refine⟨by rw [List.length_append,h.1,dc.1,List.length_append,Nat.add_mul],fun i ak=>?_⟩
 rw [List.length_append] at ak
 by_cases cD:i<xs.length
 ·have aa:=h.2 i cD
  have hle:(i+1) * aj.size α≤xs.length * aj.size α:=Nat.mul_le_mul_right _ cD
  rw [Nat.succ_mul] at hle
  have lp:=h.1
  rw [List.drop_append_of_le_length (by omega),List.take_append_of_le_length (by simp; omega)]
  rw [List.getElem_append_left cD]
  exact aa
 have aa:=dc.2 (i - xs.length) (by omega)
 have e:i * aj.size α=cs.length+(i - xs.length) * aj.size α:=by
  rw [h.1,← Nat.add_mul]; congr 1; omega
 rw [e,List.drop_append,List.drop_of_length_le (by omega),List.nil_append,show cs.length+(i - xs.length) * aj.size α - cs.length=(i - xs.length) * aj.size α by omega]
 rw [List.getElem_append_right (by omega)]
 exact aa
theorem oG.cells {α:Type} [aj α] {A W v} {ys:List α} (h:oG A W v ys):
 (v= .slice none 0 0∧ys= [])∨ ∃ (b off cap:Nat) (news:List Value),v= .slice (some ⟨b,off,none⟩) ys.length cap∧news.length=ys.length * aj.size α∧ (∀ (j:Nat) (u:Value),news[j]? =some u→W.cell? ((⟨b,off,none⟩:Addr).add j)=some u)∧
  (∀ u∈news,u.oneCell'=true)∧g4 A W news ys:=by
 rcases h with h | ⟨b,off,cap,cur,T,hA,aa,ad,aF,aX,a0,bn,cZ⟩
 ·exact .inl h
 refine .inr ⟨b,off,cap,_,aa,cZ.1,fun j u hu=>?_,fun u hu=>?_,cZ⟩
 ·rw [List.getElem?_take] at hu
  split at hu
  ·rw [jE,cell_of_row W b (off+j) cur T hA aF]
   rw [List.getElem?_drop] at hu
   simpa using hu
  cases hu
 exact cZ.one u hu
theorem bV.grow {a:Act} {W:World} (h:bV c E L a W) {i:Nat} {kJ:aT} (ak:L[i]? =some kJ) {o:Obj} {cp:dZ} (al:cp.holds (aV L++c.ca) W o):
 bV c E (L.set i ⟨some W.heap.size,cp⟩) a (W.alloc o):=by
 have aa:=h.alloc al
 refine aa.sub (fun e he=>?_) ?_
 ·obtain⟨j,aE⟩:=List.mem_iff_getElem?.1 he
  rw [List.getElem?_set] at aE
  split at aE
  ·split at aE
   ·simp only [Option.some.injEq] at aE; subst aE; simp
   cases aE
  exact List.mem_cons_of_mem _ (List.mem_of_getElem? aE)
 have wQ:W.heap.size ∉ aV L:=fun hm=>Nat.lt_irrefl _ (h.lt _ hm)
 have key:∀ (L:List aT) (i:Nat) (q:Nat),q ∉ aV L→ (aV L).Nodup→ (aV (L.set i ⟨some q,cp⟩)).Nodup∧ ∀ k∈aV (L.set i ⟨some q,cp⟩),k=q∨k∈aV L:=by
  intro L
  induction L with
  | nil=>intro i q _ aR; exact⟨by simpa using aR,by simp [aV]⟩
  | cons x r bR=>
    intro i q hq aR
    cases aq:x.key with
    | none=>
      have jm:q ∉ aV r:=by simpa [aV,aq] using hq
      have tm:(aV r).Nodup:=by simpa [aV,aq] using aR
      cases i with
      | zero=>exact⟨by simp only [List.set_cons_zero,aV]; exact List.nodup_cons.2 ⟨jm,tm⟩,fun k aw=>by
       simp only [List.set_cons_zero,aV,List.mem_cons] at aw; rcases aw with rfl | aw
       ·exact .inl rfl
       exact .inr (by simpa [aV,aq] using aw)⟩
      | succ i=>
        obtain⟨aa,ad⟩:=bR i q jm tm
        exact⟨by simpa [aV,aq] using aa,fun k aw=>by have:=ad k (by simpa [aV,aq] using aw); simpa [aV,aq] using this⟩
    | some p=>
      simp only [aV,aq,List.mem_cons,not_or] at hq
      simp only [aV,aq] at aR
      obtain⟨hp,tm⟩:=List.nodup_cons.1 aR
      cases i with
      | zero=>exact⟨by simp only [List.set_cons_zero,aV]; exact List.nodup_cons.2 ⟨hq.2,tm⟩,fun k aw=>by
       simp only [List.set_cons_zero,aV,List.mem_cons] at aw; rcases aw with rfl | aw
       ·exact .inl rfl
       exact .inr (by simp [aV,aq,aw])⟩
      | succ i=>
        obtain⟨aa,ad⟩:=bR i q hq.2 tm
        refine⟨?_,fun k aw=>?_⟩
        ·simp only [List.set_cons_succ,aV,aq]
         refine List.nodup_cons.2 ⟨fun hm=>?_,aa⟩
         rcases ad p hm with e | tn
         ·exact hq.1 e.symm
         exact hp tn
        simp only [List.set_cons_succ,aV,aq,List.mem_cons] at aw
        rcases aw with rfl | aw
        ·exact .inr (by simp [aV,aq])
        rcases ad k aw with e | tn
        ·exact .inl e
        exact .inr (by simp [aV,aq,tn])
 exact(key L i _ wQ h.nodup).1
theorem Ir {α:Type} [aj α] {A W} {cs ds:List Value} {xs:List α} {T cap:Nat} (h:g4 A W cs xs) (df:ds.length=(cap - xs.length) * aj.size α) (aR:xs.length≤cap) (hm:cap≤maxLen) {arr:Array Value} (bp:arr.toList=cs++ds):
 (dZ.row T xs cap).holds A W (.cells arr T (0,0)):=by
 refine⟨arr,rfl,?_,aR,hm,?_⟩
 ·have:arr.size=(cs++ds).length:=by rw [← bp]; simp
  rw [this,List.length_append,h.1,df,← Nat.add_mul]; congr 1; omega
 rw [bp,← h.1,List.take_left]; exact h
theorem ai.app {α:Type} [aj α] {rest:List Oper} {bf i e bytes cap:Nat} {key:Option Nat} {xs ys r:List α} {z:α} (hu:c.P.underlying t=some (.slice e)) (e6:bF c.P e α) (g9:cP c.P e z)
 (w4:(c.P.info? e).map (·.bytes)=some bytes) (hs:bd c E L x (.eq (aS key xs.length cap))) (ar:L[i]? =some ⟨key,.row e xs cap⟩) (a6:bd c E L y (.of ys)) (h:fV bytes xs ys=some r) (aR:Nat.blt bf c.n=true)
 (k:∀ qy cap',ai c ops Q rest ((bf,.eq (aS qy r.length cap'))::E) (L.set i ⟨qy,.row e r cap'⟩)):
 ai c ops Q (⟨some bf,.call ⟨.builtin .append,#[x,y],#[t,t]⟩,ty,pos,af,none⟩::rest) E L:=fun a W s=>by
 obtain⟨te,mL,rfl⟩:=Nj h
 obtain⟨gB,eF,er,df,r2⟩:=g9.zero
 have nz:gB.size=aj.size α:=by
  obtain⟨i2,aa,ad⟩:=e6.info
  rw [er] at aa; cases aa; exact ad
 have IS:gB.bytes=bytes:=by simpa [er] using w4
 have w5:eF.cells.size=aj.size α:=by have:=aj.len (r2 [] W).2; simpa using this
 subst IS
 have aa:a.eval x=_:=hs a W s
 have bm:=s.own _ (List.mem_of_getElem? ar)
 have k4:bf<c.n:=by simpa using aR
 have sb:=(nu.1 (a6 a W s)).cells
 have nd:maxLen=9223372036854775807:=rfl
 have main:∃ qy cap' W',(Builtin.append_ #[t,t] ty #[a.eval x,a.eval y]).run c.P W= .ok (aS qy (xs++ys).length cap') W'∧bV c E (L.set i ⟨qy,.row e (xs++ys) cap'⟩) a W':=by
  cases key with
  | none=>
    obtain⟨Gk,w6⟩:xs= []∧cap=0:=bm
    subst Gk
    subst w6
    have yH:L.set i ⟨none,.row e ([]:List α) 0⟩=L:=by
     obtain⟨cD,he⟩:=List.getElem?_eq_some_iff.1 ar
     rw [← he]; exact List.set_getElem_self cD
    rcases sb with⟨a2,rfl⟩ | ⟨b,off,cp,news,a2,r3,FF,y1,gm⟩
    ·refine⟨none,0,W,?_,by simpa [yH] using s⟩
     simp [aa,a2,aS,Builtin.append_,run_underlying hu,Go.sizeOf,typeInfo,er,Builtin.lenOf,Builtin.firstCells]
    by_cases hm:ys.length=0
    ·have:ys= []:=List.eq_nil_of_length_eq_zero hm
     subst this
     refine⟨none,0,W,?_,by simpa [yH] using s⟩
     simp [aa,a2,aS,Builtin.append_,run_underlying hu,Go.sizeOf,typeInfo,er,Builtin.lenOf,Builtin.firstCells,loadCells,loadCellsFrom]
    simp only [List.length_nil,Nat.zero_add] at te mL
    have aQ:=run_append_nil (P:=c.P) W t ty e gB eF hu er df ⟨b,off,none⟩ ys.length cp news (by rw [nz]; exact r3) FF (by omega) (by omega) (by omega)
    refine⟨some W.heap.size,grownCap W ys.length 0 e,_,by rw [aa,a2]; simpa [aS] using aQ,?_⟩
    have qM:=grownCap_ge W ys.length 0 e
    have hle:=grownCap_le_maxLen W ys.length 0 e mL
    have:=(s.world (Fr.drew W)).grow ar (o:= .cells (news.toArray++Builtin.zeroCells eF.cells (grownCap W ys.length 0 e - ys.length)) e) (cp:= .row e ([]++ys) (grownCap W ys.length 0 e))
     (Ir (T:=e) (gm.mono (Ext.dQ (Fr.drew W))) (ds:=(Builtin.zeroCells eF.cells (grownCap W ys.length 0 e - ys.length)).toList) (by rw [Array.length_toList,size_zeroCells,w5]) qM hle (by simp))
    simpa using this
  | some p=>
    obtain⟨kt,e3,cs,rfl,eX,acH,o4,Gl⟩:=bm
    have y2:a.eval x= .slice (some ⟨p,0,none⟩) xs.length cap:=aa
    rcases sb with⟨a2,rfl⟩ | ⟨b,off,cp,news,a2,r3,FF,y1,gm⟩
    ·refine⟨some p,cap,W,?_,?_⟩
     ·simp [y2,a2,aS,Builtin.append_,run_underlying hu,Go.sizeOf,typeInfo,er,Builtin.lenOf,Builtin.firstCells,storeCells,acH]
     have:L.set i ⟨some p,.row e (xs++[]) cap⟩=L:=by
      obtain⟨cD,he⟩:=List.getElem?_eq_some_iff.1 ar
      rw [List.append_nil,← he]; exact List.set_getElem_self cD
     rw [this]; exact s
    by_cases yE:xs.length+ys.length≤cap
    ·have FW:xs.length * gB.size+news.length≤cs.size:=by rw [nz,r3,eX,← Nat.add_mul]; exact Nat.mul_le_mul_right _ yE
     have aQ:=run_append_room (P:=c.P) W t ty e gB hu er p xs.length cap cs e3 ⟨b,off,none⟩ ys.length cp news (by rw [nz]; exact r3) FF y1 yE FW
     refine⟨some p,cap,_,by rw [y2,a2]; simpa [aS] using aQ,?_⟩
     refine s.store ar e3 ⟨_,rfl,?_,by simpa using yE,o4,?_⟩
     ·simp only [List.size_toArray,List.length_append,List.length_take,List.length_drop,Array.length_toList]; omega
     have ao:(cs.toList.take (xs.length * gB.size)).length=xs.length * aj.size α:=by rw [nz]; exact Gl.1
     have yR:=tZ Gl gm
     rw [nz]
     have hlen:(xs++ys).length * aj.size α=(cs.toList.take (xs.length * aj.size α)++news).length:=by rw [yR.1]
     have Sh:((cs.toList.take (xs.length * aj.size α)++news++cs.toList.drop (xs.length * aj.size α+news.length)).toArray).toList.take ((xs++ys).length * aj.size α)=cs.toList.take (xs.length * aj.size α)++news:=by
      rw [hlen]; exact List.take_left
     rw [List.append_assoc] at Sh
     rw [Sh]
     exact yR
    have holds:∀ (j:Nat) u,(cs.toList.take (xs.length * aj.size α))[j]? =some u→W.cell? ((⟨p,0,none⟩:Addr).add j)=some u:=by
     intro j u mM
     rw [List.getElem?_take] at mM
     split at mM
     ·rw [jE,Nat.zero_add,cell_of_row W p j cs e (0,0) e3]; simpa using mM
     cases mM
    have aQ:=run_append_grow (P:=c.P) W t ty e gB eF hu er df ⟨p,0,none⟩ xs.length cap _ (by rw [nz]; exact Gl.1) holds ⟨b,off,none⟩ ys.length cp news (by rw [nz]; exact r3) FF (by omega) (by omega) (growslice_fits (by omega) te)
    have qM:=grownCap_ge W (xs.length+ys.length) cap e
    have hle:=grownCap_le_maxLen W (xs.length+ys.length) cap e mL
    refine⟨some W.heap.size,grownCap W (xs.length+ys.length) cap e,_,by rw [y2,a2]; simpa [aS] using aQ,?_⟩
    have yR:=(tZ Gl gm).mono (Ext.dQ (Fr.drew W))
    have:=(s.world (Fr.drew W)).grow ar (o:= .cells ((cs.toList.take (xs.length * aj.size α)).toArray++news.toArray++Builtin.zeroCells eF.cells (grownCap W (xs.length+ys.length) cap e - (xs.length+ys.length))) e)
     (cp:= .row e (xs++ys) (grownCap W (xs.length+ys.length) cap e))
     (Ir (T:=e) yR (ds:=(Builtin.zeroCells eF.cells (grownCap W (xs.length+ys.length) cap e - (xs.length+ys.length))).toList) (by rw [Array.length_toList,size_zeroCells,w5,List.length_append]) (by rw [List.length_append]; exact qM) hle (by simp))
    simpa using this
 obtain⟨qy,cap',W',kl,kH⟩:=main
 refine iD rfl (R:=fun v hW=>v=aS qy (xs++ys).length cap'∧hW=W') (.l1 ?_ ⟨rfl,rfl⟩) fun v hW ⟨a2,hw⟩=>?_
 ·simp only [execOp,resolve,invoke,builtin,Sem.run_bind,Sem.run_pure,Result.andThen_ok]
  have ay:(#[x,y]:Array Operand).map a.eval= #[a.eval x,a.eval y]:=by simp
  rw [ay,kl]
  rfl
 subst a2
 subst hw
 exact k qy cap' _ _ (kH.put k4 rfl)
inductive ob (c:dp) (E:List (Nat×I)) (L:List aT) {α:Type} [aj α]:List α→List (Nat×Operand)→List α→Prop
 | nil {b} :ob c E L b [] b
 | cons {b b':List α} {v:α} {i:Nat} {x:Operand} {r:List (Nat×Operand)} :i<b.length→bd c E L x (.of v)→ob c E L (b.set i v) r b'→ob c E L b ((i,x)::r) b'
theorem ob.run {α:Type} [aj α] {b b':List α} {bz:List (Nat×Operand)} (h:ob c E L b bz b'):∀ a W,bV c E L a W→ ∀ cs:Array Value,g4 (aV L++c.ca) W cs.toList b→
 ∃ eh,Instr.fill (fun i=>some (i * aj.size α,aj.size α)) cs (bz.map fun(i,x)=>(i,a.eval x))=some eh∧g4 (aV L++c.ca) W eh.toList b'∧b'.length=b.length:=by
 induction h with
 | nil=>intro a W s cs aQ; exact⟨cs,rfl,aQ,rfl⟩
 | @cons b b' v i x r ak ad _ bR=>
   intro a W s cs aQ
   have a2:=ad a W s
   have eX:(a.eval x).cells.size=aj.size α:=by have:=aj.len a2.2; simpa using this
   have ao:=aQ.1
   have hle:(i+1) * aj.size α≤b.length * aj.size α:=Nat.mul_le_mul_right _ ak
   rw [Nat.succ_mul] at hle
   rw [List.map_cons,EE rfl eX (by simp at ao; omega)]
   obtain⟨eh,aF,aX,a0⟩:=bR a W s (gq cs.toList (i * aj.size α) (a.eval x).cells.toList).toArray (by
    have:=HW aQ ak a2.2
    simpa [gq,aj.len a2.2] using this)
   exact⟨eh,aF,aX,by rw [a0,List.length_set]⟩
theorem AN {α:Type} [aj α] {A W} {z:α} {eF:Value} (h:(I.of z).holds A W eF) (n:Nat) (hs:aj.size α≠0):g4 A W ((Array.range (n * aj.size α)).map (eF.cells[· % eF.cells.size]!)).toList (List.replicate n z):=by
 have ao:eF.cells.size=aj.size α:=by have:=aj.len h.2; simpa using this
 have hp:0<aj.size α:=Nat.pos_of_ne_zero hs
 refine⟨by simp,fun i ak=>?_⟩
 have g7:i<n:=by simpa using ak
 have hle:(i+1) * aj.size α≤n * aj.size α:=Nat.mul_le_mul_right _ g7
 rw [Nat.succ_mul] at hle
 have:((((Array.range (n * aj.size α)).map (eF.cells[· % eF.cells.size]!)).toList.drop (i * aj.size α)).take (aj.size α))=eF.cells.toList:=by
  apply List.ext_getElem?
  intro j
  rw [List.getElem?_take]
  split
  ·rename_i aE
   rw [List.getElem?_drop]
   have cD:i * aj.size α+j<n * aj.size α:=by omega
   have Cb:(i * aj.size α+j) % aj.size α=j:=by rw [Nat.mul_comm,Nat.mul_add_mod]; exact Nat.mod_eq_of_lt aE
   simp only [Array.getElem?_toList,Array.getElem?_map,Array.getElem?_range,cD,if_true,Option.map_some,ao,Cb]
   rw [getElem!_pos eF.cells j (by omega)]
   simp [ao,aE]
  rename_i aE
  symm
  simp only [Array.getElem?_toList]
  exact Array.getElem?_eq_none (by omega)
 rw [this]
 simpa using h.2
theorem jv {α:Type} [aj α] {e n:Nat} {z:α} {r:List α} {bz:List (Nat×Operand)} (hu:c.P.underlying t=some (.slice e)) (e6:bF c.P e α) (g9:cP c.P e z) (hs:Nat.beq (aj.size α) 0=false) (aR:Nat.ble (n * aj.size α) 16777216=true)
 (a7:ob c E L (List.replicate n z) bz r):cf c E L ⟨d,.buildSlice t n bz.toArray,ty,pos,af,g⟩ (.of r):=fun a W s=>by
 obtain⟨gB,eF,er,df,r2⟩:=g9.zero
 have nz:gB.size=aj.size α:=by
  obtain⟨i2,aa,ad⟩:=e6.info
  rw [er] at aa; cases aa; exact ad
 have fl:aj.size α≠0:=fun h=>by rw [h] at hs; cases hs
 have qN:=AN (r2 (aV L++c.ca) W) n fl
 obtain⟨eh,aF,aX,a0⟩:=a7.run a W s _ qN
 have hlen:r.length=n:=by rw [a0]; simp
 have hm:(bz.toArray.map fun(x:Nat×Operand)=>(x.1,a.eval x.2)).toList=bz.map fun(i,x)=>(i,a.eval x):=by simp
 have abQ:=Nat.le_of_ble_eq_true aR
 refine .l1 (v:= .slice (some ⟨W.heap.size,0,none⟩) n n) (W':=W.alloc (.cells eh e)) ?_ ⟨Fr.alloc W _,nu.2 ?_⟩
 ·simp only [execOp,Instr.buildSlice,Sem.run_bind,run_underlying hu,Result.andThen_ok,Go.sizeOf,typeInfo,run_program,er,Sem.run_pure,nz]
  rw [if_neg (by omega)]
  try simp only [Sem.run_pure,Result.andThen_ok,Sem.run_bind]
  by_cases bT:n * aj.size α=0
  ·have r1:n=0:=by
    rcases Nat.mul_eq_zero.1 bT with h | h
    ·exact h
    exact absurd h fl
   subst r1
   simp only [Nat.zero_mul,if_true,Sem.run_pure,Result.andThen_ok]
   try simp only [Nat.zero_mul] at aF
   have kJ:((Array.range 0).map (fun x=>(#[]:Array Value)[x % (#[]:Array Value).size]!))=((Array.range 0).map (eF.cells[· % eF.cells.size]!)):=by simp
   simp only [pure_bind]
   rw [kJ,hm,aF]
   simp [newRow]
  simp only [bT,if_false,Sem.run_bind,zeroValue,typeInfo,run_program,Result.andThen_ok,er,df,Sem.run_pure]
  rw [hm,aF]
  simp [newRow]
 have hP:Ext (aV L++c.ca) W (aV L++c.ca) (W.alloc (.cells eh e)):=Ext.dQ (Fr.alloc W _)
 refine .inr ⟨W.heap.size,0,n,eh,e,(0,0),by rw [hlen],fun uO=>Nat.lt_irrefl _ (s.Fc _ uO),IP W _,by omega,?_,?_,?_⟩
 ·have:r.length * 1≤n * aj.size α:=by rw [hlen]; exact Nat.mul_le_mul_left _ (by omega)
  have:maxLen=9223372036854775807:=rfl
  omega
 ·have:=aX.1; simp at this; omega
 have bn:=aX.1
 rw [List.drop_zero,← bn,List.take_length]
 exact aX.mono hP
end
theorem ES {cs:List Value} {o s:Nat} {u:Value} (h:u∈cs.drop o):u∈ (cs.drop o).take s∨u∈cs.drop (o+s):=by
 rw [← List.take_append_drop s (cs.drop o)] at h
 rcases List.mem_append.1 h with h | h
 ·exact .inl h
 rw [List.drop_drop] at h; exact .inr h
theorem Ov {cs:List Value} {n o:Nat} {u:Value} {p:Prop} (ao:cs.length=n) (bm:o=n) (h:u∈cs.drop o):p:=by
 rw [List.drop_of_length_le (by omega)] at h; cases h
theorem X2 {cs ds:List Value} {o s n:Nat} (ao:cs.length=n) (hd:ds.length=s) (h:o+s≤n):(cs.take o++ds++cs.drop (o+s)).length=n:=by
 simp only [List.length_append,List.length_take,List.length_drop]; omega
theorem Ow {cs ds:List Value} {o s n:Nat} (ao:cs.length=n) (hd:ds.length=s) (h:o+s≤n):((cs.take o++ds++cs.drop (o+s)).drop o).take s=ds:=by
 have aa:(cs.take o).length=o:=by simp; omega
 rw [List.append_assoc,List.drop_append,aa,List.drop_of_length_le (by omega),List.nil_append,Nat.sub_self,List.drop_zero,List.take_append_of_le_length (by omega),List.take_of_length_le (by omega)]
theorem HX {cs ds:List Value} {o s n cv s2:Nat} (ao:cs.length=n) (hd:ds.length=s) (h:o+s≤n) (dm:cv+s2≤o∨o+s≤cv):((cs.take o++ds++cs.drop (o+s)).drop cv).take s2=(cs.drop cv).take s2:=by
 apply List.ext_getElem?
 intro i
 simp only [List.getElem?_take,List.getElem?_drop]
 split
 ·rename_i ak
  simp only [List.getElem?_append,List.length_append,List.length_take,List.getElem?_take,List.getElem?_drop]
  have aa:min o cs.length=o:=by omega
  rw [aa,hd]
  rcases dm with ad | ad
  ·rw [if_pos (by omega),if_pos (by omega),if_pos (by omega)]
  rw [if_neg (by omega)]; congr 1; omega
 rfl
structure u4 (P:Type) where
 size:Nat
 rep:List Nat→World→List Value→Nat→P→Prop
 one:∀ {A W cs o x n},rep A W cs o x→cs.length=n→o+size=n→ ∀ u∈cs.drop o,u.oneCell'=true
 mono:∀ {A W dh W' cs o x},Ext A W dh W'→rep A W cs o x→rep dh W' cs o x
 uJ:∀ {A W cs o x n ds p s},rep A W cs o x→cs.length=n→ds.length=s→p+s≤n→p+s≤o→rep A W (cs.take p++ds++cs.drop (p+s)) o x
@[reducible] def iy (B:Type) [aj B]:u4 B where
  size:=aj.size B
  rep A W cs o x:=aj.rep A W ((cs.drop o).take (aj.size B)) x
  one h ao bm u hu:=by
   rcases ES (s:=aj.size B) hu with aa | bT
   ·exact aj.one h u aa
   exact Ov ao bm bT
  mono e h:=aj.mono e h
  uJ h ao hd aR hp:=by rw [HX ao hd aR (.inr hp)]; exact h
@[reducible] def dJ (B:Type) [aj B] {P:Type} (S:u4 P):u4 (B×P) where
  size:=aj.size B+S.size
  rep A W cs o x:=aj.rep A W ((cs.drop o).take (aj.size B)) x.1∧S.rep A W cs (o+aj.size B) x.2
  one h ao bm u hu:=by
   rcases ES (s:=aj.size B) hu with aa | bT
   ·exact aj.one h.1 u aa
   exact S.one h.2 ao (by omega) u bT
  mono e h:=⟨aj.mono e h.1,S.mono e h.2⟩
  uJ h ao hd aR hp:=⟨by rw [HX ao hd aR (.inr hp)]; exact h.1,S.uJ h.2 ao hd aR (by omega)⟩
@[reducible] def aj.str {T P:Type} (S:u4 P) (to:T→P) (N:Nat) (k4:S.size=N:=by rfl):aj T where
  size:=N
  agg:=true
  rep A W cs x:=cs.length=N∧S.rep A W cs 0 (to x)
  len h:=h.1
  one h:=fun u hu=>S.one h.2 h.1 (by omega) u (by simpa using hu)
  flat h:=by cases h
  mono e h:=⟨h.1,S.mono e h.2⟩
structure CG {P:Type} (S:u4 P) (G:Type) [aj G] where
 off:Nat
 get:P→G
 set:P→G→P
 gI:off+aj.size G≤S.size
 iO:∀ {A W cs o b},S.rep A W cs o b→aj.rep A W ((cs.drop (o+off)).take (aj.size G)) (get b)
 lA:∀ {A W cs n o b ds g},cs.length=n→o+S.size≤n→S.rep A W cs o b→aj.rep A W ds g→S.rep A W (cs.take (o+off)++ds++cs.drop (o+off+aj.size G)) o (set b g)
def iU {B:Type} [aj B]:CG (iy B) B where
 off:=0
 get b:=b
 set _ g:=g
 gI:=by show 0+aj.size B≤aj.size B; omega
 iO h:=h
 lA ao bm _ bQ:=by
  have h:=Ow ao (aj.len bQ) bm
  show aj.rep _ _ ((List.drop _ _).take _) _
  rw [Nat.add_zero,h]; exact bQ
def dS {B:Type} [aj B] {P:Type} {S:u4 P} :CG (dJ B S) B where
 off:=0
 get b:=b.1
 set b g:=(g,b.2)
 gI:=by show 0+aj.size B≤aj.size B+S.size; omega
 iO h:=h.1
 lA {A W cs n o b ds g} ao bm h bQ:=by
  have bm:o+(aj.size B+S.size)≤n:=bm
  refine⟨?_,S.uJ h.2 ao (aj.len bQ) (by omega) (by omega)⟩
  rw [Nat.add_zero,Ow ao (aj.len bQ) (by omega)]; exact bQ
def bO {B:Type} [aj B] {P:Type} {S:u4 P} {G:Type} [aj G] (l:CG S G):CG (dJ B S) G where
 off:=aj.size B+l.off
 get b:=l.get b.2
 set b g:=(b.1,l.set b.2 g)
 gI:=by have:=l.gI; show aj.size B+l.off+aj.size G≤aj.size B+S.size; omega
 iO h:=by rw [← Nat.add_assoc]; exact l.iO h.2
 lA {A W cs n o b ds g} ao bm h bQ:=by
  have bm:o+(aj.size B+S.size)≤n:=bm
  have ak:=l.gI
  have ad:=l.lA ao (by omega) h.2 bQ
  rw [Nat.add_assoc o] at ad
  exact⟨by rw [HX ao (aj.len bQ) (by omega) (.inl (by omega))]; exact h.1,ad⟩
def aN.str {T P G:Type} [aj G] {S:u4 P} {to:T→P} {N:Nat} (l:CG S G) (off:Nat) (get:T→G) (set:T→G→T) (k4:S.size=N:=by rfl) (bm:l.off=off:=by rfl) (aa:∀ b,l.get (to b)=get b:=by intro b; rfl) (ad:∀ b g,l.set (to b) g=to (set b g):=by intro b g; rfl): @aN T G (aj.str S to N k4) _:=
 @aN.mk T G (aj.str S to N k4) _ off get set (by have:=l.gI; show off+aj.size G≤N; omega)
  (fun {A W cs b} h=>by have:=l.iO h.2; rw [Nat.zero_add,bm,aa] at this; exact this)
  (fun {A W cs b ds g} h bQ=>by
   have aF:=l.lA h.1 (by omega) h.2 bQ
   rw [Nat.zero_add,bm,ad] at aF
   have aX:=l.gI
   exact⟨X2 h.1 (aj.len bQ) (by omega),aF⟩)
class bk (α:Type) [aj α] [Inhabited α] where
 cells:List Value
 ok:∀ A W,aj.rep A W cells (default:α)
instance:bk Bool:=⟨[.bool false],fun _ _=>rfl⟩
instance:bk Int:=⟨[.int .i64 0],fun _ _=>rfl⟩
instance:bk (BitVec 64):=⟨[.int .u64 0],fun _ _=>rfl⟩
instance:bk (BitVec 32):=⟨[.int .u32 0],fun _ _=>rfl⟩
instance:bk (BitVec 16):=⟨[.int .u16 0],fun _ _=>rfl⟩
instance:bk (BitVec 8):=⟨[.int .u8 0],fun _ _=>rfl⟩
instance:bk ByteArray:=⟨[.string ByteArray.empty],fun _ _=>rfl⟩
instance {α:Type} [aj α]:bk (List α):=⟨[.slice none 0 0],fun _ _=>⟨_,rfl,.inl ⟨rfl,rfl⟩⟩⟩
theorem NI {α:Type} [aj α] {A W} {LD:List Value} {z:α} (h:aj.rep A W LD z):∀ n,g4 A W (List.replicate n LD).flatten (List.replicate n z)
 | 0=>⟨by simp,fun i ak=>by simp at ak⟩
 | n+1=>by
   have aa:=NI h n
   have ad:g4 A W LD [z]:=⟨by simp [aj.len h],fun i ak=>by
    have:i=0:=by simpa using ak
    subst this
    rw [Nat.zero_mul,List.drop_zero,← aj.len h,List.take_length]; exact h⟩
   have:=tZ ad aa
   simpa [List.replicate_succ] using this
instance {α:Type} [aj α] [Inhabited α] [bk α] {n:Nat} :bk (Vector α n):=⟨(List.replicate n (bk.cells α)).flatten,fun A W=>by
 have:=NI (bk.ok (α:=α) A W) n
 show g4 A W _ (Vector.replicate n default).toList
 simpa using this⟩
def J1 (α:Type) [aj α] [Inhabited α] [bk α]:Value:=if aj.agg α=true then .agg (bk.cells α).toArray else(bk.cells α).headD undef
theorem cP.of {P:Program} {t:TypeId} {α:Type} [aj α] [Inhabited α] [bk α] (h:(P.info? t).bind (·.zero)=some (J1 α)):cP P t (default:α) where
 zero:=by
  cases ak:P.info? t with
  | none=>simp [ak] at h
  | some i=>
    refine⟨i,J1 α,rfl,by simpa [ak] using h,fun A W=>?_⟩
    have ok:=bk.ok (α:=α) A W
    unfold J1
    cases bp:aj.agg α with
    | true=>simp only [if_true]; exact⟨by simp [shaped,bp],by simpa [Value.cells] using ok⟩
    | false=>
      have aa:=aj.len ok
      rw [aj.flat bp] at aa
      obtain⟨v,a2⟩:=List.length_eq_one_iff.1 aa
      have aF:v.oneCell'=true:=aj.one ok v (by rw [a2]; simp)
      simp only [Bool.false_eq_true,if_false,a2,List.headD_cons]
      exact⟨by simp [shaped,bp,aF],by rw [oP aF]; rw [a2] at ok; exact ok⟩
theorem bF.of {P:Program} {t:TypeId} {α:Type} [aj α] {d:TypeDesc} (bp:(match d with | .struct _ | .array _ _=>true | _=>false)=aj.agg α) (hu:P.underlying t=some d) (hs:(P.info? t).map (·.size)=some (aj.size α)):bF P t α:=⟨hs,d,hu,bp⟩
theorem cB.of {P:Program} {s f o:Nat} {fs:Array Field} {fd:Field} {γ:Type} [aj γ] (hu:P.underlying s=some (.struct fs)) (a7:fs[f]? =some fd) (bm:fd.offset=o) (eQ:bF P fd.type γ) (hs:Nat.beq (aj.size γ) 0=false):cB P s f o:=by
 obtain⟨i,aa,ad⟩:=eQ.info
 exact⟨fs,fd,i,hu,a7,bm,aa,fun h=>by rw [← ad,h] at hs; cases hs⟩
theorem p3.of {P:Program} {t n e s:Nat} {γ:Type} [aj γ] (hu:P.underlying t=some (.array n e)) (eQ:bF P e γ) (hs:aj.size γ=s):p3 P t n s:=by
 obtain⟨i,aa,ad⟩:=eQ.info
 exact⟨e,i,hu,aa,by rw [ad,hs]⟩
theorem bind_some {α β:Type} {m:Option α} {f:α→Option β} {r:β} (h:m.bind f=some r):∃ y,m=some y∧f y=some r:=Option.bind_eq_some_iff.1 h
theorem gQ {α:Type} {b:Bool} {p q:Option α} {r:α} (hb:b=true) (h:cond b p q=some r):p=some r:=by rw [hb] at h; exact h
theorem gR {α:Type} {b:Bool} {p q:Option α} {r:α} (hb:b=false) (h:cond b p q=some r):q=some r:=by rw [hb] at h; exact h
theorem aH {α:Type} {a b:α} (h:some a=some b):a=b:=Option.some.inj h
def c0 {α:Type} [Inhabited α] (b want:Bool) (m:Option α):Option α:=if b=want then m else some default
theorem gN {α:Type} [Inhabited α] {b want:Bool} {m:Option α} {y:α} (h:c0 b want m=some y) (hb:b=want):m=some y:=by unfold c0 at h; rw [if_pos hb] at h; exact h
def ec:Nat:=2 ^ 80
theorem bV.o1 {c E L a W} (h:bV c E L a W) (n:Nat):bV c E (L.drop n) a W:=
 h.sub (fun e he=>List.mem_of_mem_drop he) (by
   have:(aV (L.drop n)).Sublist (aV L):=by
    induction L generalizing n with
    | nil=>simp
    | cons x r bR=>
      cases n with
      | zero=>simp
      | succ n=>
        have aQ:∀ n,(aV (r.drop n)).Sublist (aV r):=by
         intro n
         have key:∀ (r:List aT) n,(aV (r.drop n)).Sublist (aV r):=by
          intro r
          induction r with
          | nil=>intro n; simp
          | cons y r RF=>
            intro n
            cases n with
            | zero=>simp
            | succ n=>
              simp only [List.drop_succ_cons]
              cases aw:y.key with
              | none=>simpa [aV,aw] using RF n
              | some p=>simp only [aV,aw]; exact(RF n).cons _
         exact key r n
        simp only [List.drop_succ_cons]
        cases aw:x.key with
        | none=>simpa [aV,aw] using aQ n
        | some p=>simp only [aV,aw]; exact(aQ n).cons _
   exact h.nodup.sublist this)
section
variable {c:dp} {E:List (Nat×I)} {L:List aT} {ops:Array Oper} {Q:Exit→Act→World→Prop}
theorem ag.c0 {γ:Type} {x:Operand} {b:Bool} {y z:Code} (E':γ→List (Nat×I)) (ax:γ→List aT) (ao:bd c E L x (.of b)) (vd:∀ g,ae c Q .normal (E' g) (ax g))
 (b1:(∀ g,ae c Q .normal (E' g) (ax g))→b=true→ag c Q y E L) (a7:(∀ g,ae c Q .normal (E' g) (ax g))→b=false→ag c Q z E L):ag c Q (.cond x y z) E L:=
 ag.cond ao (b1 vd) (a7 vd)
theorem ae.meet {x:Exit} {E':List (Nat×I)} {ax:List aT} (n:Nat) (ar:L.drop n=ax) (h:hk E E') (k:ae c Q x E' ax):ae c Q x E L:=fun a W s=>k a W (by rw [← ar]; exact(s.o1 n).less h.look)
def y3 {σ ε γ δ:Type} (c:dp) (E:σ→γ→List (Nat×I)) (L:σ→γ→List aT) (xs:ε→Exit) (gY:ε→δ→List (Nat×I)) (Lx:ε→δ→List aT):σ ⊕ ε→Exit→Act→World→Prop
 | .inl s,x,a,W=>x= .normal∧ ∃ g,bV c (E s g) (L s g) a W
 | .inr e,x,a,W=>x≠ .normal∧x=xs e∧ ∃ g,bV c (gY e g) (Lx e g) a W
theorem ae.X3 {σ ε γ δ:Type} {E':σ→γ→List (Nat×I)} {ax:σ→γ→List aT} {xs:ε→Exit} {gY:ε→δ→List (Nat×I)} {Lx:ε→δ→List aT} {s:σ} (g:γ) (n:Nat)
 (ar:L.drop n=ax s g) (h:hk E (E' s g)):ae c (y3 c E' ax xs gY Lx (.inl s)) .normal E L:=fun a W st=>⟨rfl,g,by rw [← ar]; exact(st.o1 n).less h.look⟩
theorem ae.X4 {σ ε γ δ:Type} {E':σ→γ→List (Nat×I)} {ax:σ→γ→List aT} {xs:ε→Exit} {gY:ε→δ→List (Nat×I)} {Lx:ε→δ→List aT} {e:ε} {x:Exit} (g:δ) (n:Nat)
 (aq:x=xs e) (aR:x≠ .normal) (ar:L.drop n=Lx e g) (h:hk E (gY e g)):ae c (y3 c E' ax xs gY Lx (.inr e)) x E L:=fun a W st=>⟨aR,aq,g,by rw [← ar]; exact(st.o1 n).less h.look⟩
theorem ag.qm {σ ε γ δ:Type} {body:Code} {N:Nat} {b:σ→Option (σ ⊕ ε)} {cw:σ} {e:ε} (ao:ey N b cw=some e)
 (E':σ→γ→List (Nat×I)) (ax:σ→γ→List aT) (xs:ε→Exit) (gY:ε→δ→List (Nat×I)) (Lx:ε→δ→List aT) (g0:γ) (ar:L=ax cw g0) (aG:hk E (E' cw g0))
 (wx:∀ s r,b s=some r→ ∀ g,ag c (y3 c E' ax xs gY Lx r) body (E' s g) (ax s g))
 (qh:∀ g,ae c Q (xs e) (gY e g) (Lx e g)):ag c Q (.loop body) E L:=fun a W st=>by
 subst ar
 exact VO b (fun s a W=> ∃ g,bV c (E' s g) (ax s g) a W) (fun e x a W=>x=xs e∧ ∃ g,bV c (gY e g) (Lx e g) a W)
  (fun s r hs a W ⟨g,ml⟩=>wpIn_mono (wx s r hs g a W ml) (fun x a W h=>by
   cases r with
   | inl cl=>exact h
   | inr e'=>exact⟨h.1,h.2⟩)) Q e (fun x a W ⟨aq,g,hs⟩=>by subst aq; exact qh g a W hs) ao ⟨g0,st.less aG.look⟩
end
theorem cf.as {c E L o} {α:Type} [aj α] {a b:α} (h:cf c E L o (.of a)) (e:a=b):cf c E L o (.of b):=by subst e; exact h
def I.qA {α β:Type} [aj α] [aj β] (P:Program) (F:α→Option β):I where
 holds A W v:= ∃ f fst cap,v= .func (.func f) fst cap∧bM P f∧ ∀ dh W',Ext A W dh W'→ (∀ k∈dh,k<W'.heap.size)→ ∀ x r pn,F x=some r→ (I.of x).holds dh W' pn→
  Calls P f (fst++ #[pn]++cap) W' fun e CH=> ∃ v,e= .returned v∧Fr [] W' CH∧ (I.of r).holds dh CH v
 mono e h:=let⟨f,fst,cap,aa,ad,aF⟩:=h; ⟨f,fst,cap,aa,ad,fun dh W' e'=>aF dh W' (e.trans e')⟩
def I.yW {α β γ:Type} [aj α] [aj β] [aj γ] (P:Program) (F:α→β→Option γ):I where
 holds A W v:= ∃ f fst cap,v= .func (.func f) fst cap∧bM P f∧ ∀ dh W',Ext A W dh W'→ (∀ k∈dh,k<W'.heap.size)→ ∀ x y r pn zg,F x y=some r→ (I.of x).holds dh W' pn→ (I.of y).holds dh W' zg→
  Calls P f (fst++ #[pn,zg]++cap) W' fun e CH=> ∃ v,e= .returned v∧Fr [] W' CH∧ (I.of r).holds dh CH v
 mono e h:=let⟨f,fst,cap,aa,ad,aF⟩:=h; ⟨f,fst,cap,aa,ad,fun dh W' e'=>aF dh W' (e.trans e')⟩
section
variable {c:dp} {E:List (Nat×I)} {L:List aT} {d:Option Tmp} {ty:TypeId} {pos:String} {af:Array Edge} {g:Option (Nat×Bool)}
theorem NF {α β:Type} [aj α] [aj β] {F:α→Option β} {f:FuncId} (eR:bM c.P f) (h:∀ x r,F x=some r→bw c.P f [.of x] (.of r)):bd c E L (.func f) (.qA c.P F):=fun a W s=>
 ⟨f,#[],#[],rfl,eR,fun dh W' _ gA x r pn nL aq=>by simpa using h x r nL dh W' [pn] gA (.cons aq .nil)⟩
theorem AV {α β γ:Type} [aj α] [aj β] [aj γ] {F:α→β→Option γ} {f:FuncId} (eR:bM c.P f) (h:∀ x y r,F x y=some r→bw c.P f [.of x,.of y] (.of r)):bd c E L (.func f) (.yW c.P F):=fun a W s=>
 ⟨f,#[],#[],rfl,eR,fun dh W' _ gA x y r pn zg nL aq a6=>by simpa using h x y r nL dh W' [pn,zg] gA (.cons aq (.cons a6 .nil))⟩
theorem yb {α β:Type} [aj α] [aj β] {F:α→Option β} {oH x:Operand} {ats:Array TypeId} {De:α} {r:β} (a7:bd c E L oH (.qA c.P F)) (aq:bd c E L x (.of De)) (h:F De=some r):
 cf c E L ⟨d,.call ⟨.value oH,#[x],ats⟩,ty,pos,af,g⟩ (.of r):=fun a W s=>by
 obtain⟨f,fst,cap,aa,eR,ad⟩:=a7 a W s
 refine .vM (f:=f) (args:=fst++ #[a.eval x]++cap) (W':=W) ?_ (ad _ W (Ext.refl _ _) s.Fc _ _ _ h (aq a W s))
 simp [execOp,resolve,Deferred.ofValue,aa,invoke,eR.run]
theorem HS {α β γ:Type} [aj α] [aj β] [aj γ] {F:α→β→Option γ} {oH x y:Operand} {ats:Array TypeId} {De:α} {Si:β} {r:γ} (a7:bd c E L oH (.yW c.P F)) (aq:bd c E L x (.of De)) (a6:bd c E L y (.of Si)) (h:F De Si=some r):
 cf c E L ⟨d,.call ⟨.value oH,#[x,y],ats⟩,ty,pos,af,g⟩ (.of r):=fun a W s=>by
 obtain⟨f,fst,cap,aa,eR,ad⟩:=a7 a W s
 refine .vM (f:=f) (args:=fst++ #[a.eval x,a.eval y]++cap) (W':=W) ?_ (ad _ W (Ext.refl _ _) s.Fc _ _ _ _ _ h (aq a W s) (a6 a W s))
 simp [execOp,resolve,Deferred.ofValue,aa,invoke,eR.run]
end
end Gv
namespace Gv
open Go Go.ChangeShapes Go.WideShapes Go.RowKit
structure Arg (P:Program) (t:TypeId) (α:Type) [aj α]:Prop where
 cells:P.cellsOf t=aj.size α
 read:∀ {H:Type} {enc:TypeId×Value→H} {W:World} {n:Nat} {cs:List Value} {x:DataW H×List MemPlace},DataW.trod enc P W 0 (fun _=>true) true n t cs=some x→ ∃ a:α,aj.rep [] W cs a
 form:∀ {W:World} {b:Nat} {v:Value},Value.okWide P W .any b t v→shaped (aj.agg α) v
variable {P:Program} {t e:TypeId}
theorem VR (hu:P.underlying t=some .bool) {H:Type} {enc:TypeId×Value→H} {W:World} {n:Nat} {cs:List Value} {x:DataW H×List MemPlace} (h:DataW.trod enc P W 0 (fun _=>true) true n t cs=some x):
 ∃ b:Bool,cs= [.bool b]:=by
 cases n with
 | zero=>simp [DataW.trod] at h
 | succ n=>
   unfold DataW.trod at h
   rw [hu] at h
   split at h <;> first | exact⟨_,rfl⟩ | (simp at h)
   all_goals simp_all
theorem Arg.bool (hu:P.underlying t=some .bool) (al:P.cellsOf t=1):Arg P t Bool where
 cells:=al
 read {H enc W n cs x} h:=by
  obtain⟨b,rfl⟩:=VR hu h
  exact⟨b,rfl⟩
 form {W b v} h:=by
  unfold Value.okWide Cell.okWide at h
  simp only [hu] at h
  unfold Cell.ok at h
  rw [hu] at h
  cases v <;> first | rfl | simp at h
theorem AY {k:IntKind} (hu:P.underlying t=some (.int k)) {H:Type} {enc:TypeId×Value→H} {W:World} {n:Nat} {cs:List Value} {x:DataW H×List MemPlace} (h:DataW.trod enc P W 0 (fun _=>true) true n t cs=some x):
 ∃ z:Int,cs= [.int k z]∧k.min≤z∧z≤k.max:=by
 cases n with
 | zero=>simp [DataW.trod] at h
 | succ n=>
   unfold DataW.trod at h
   rw [hu] at h
   split at h <;> simp_all [Lit.wf]
theorem AZ {k:IntKind} (hu:P.underlying t=some (.int k)) {W:World} {b:Nat} {v:Value} (h:Value.okWide P W .any b t v):v.oneCell'=true:=by
 unfold Value.okWide Cell.okWide at h
 simp only [hu] at h
 unfold Cell.ok at h
 rw [hu] at h
 cases v <;> first | rfl | simp at h
theorem Arg.int (hu:P.underlying t=some (.int .i64)) (al:P.cellsOf t=1):Arg P t Int where
 cells:=al
 read h:=by obtain⟨z,rfl,_⟩:=AY hu h; exact⟨z,rfl⟩
 form h:=AZ hu h
theorem Arg.u64 (hu:P.underlying t=some (.int .u64)) (al:P.cellsOf t=1):Arg P t (BitVec 64) where
 cells:=al
 read h:=by
  obtain⟨z,rfl,aa,ad⟩:=AY hu h
  simp [IntKind.min,IntKind.max,IntKind.signed,IntKind.bits] at aa ad
  exact⟨BitVec.ofInt 64 z,by show [_]= [_]; simp; omega⟩
 form h:=AZ hu h
theorem Arg.u32 (hu:P.underlying t=some (.int .u32)) (al:P.cellsOf t=1):Arg P t (BitVec 32) where
 cells:=al
 read h:=by
  obtain⟨z,rfl,aa,ad⟩:=AY hu h
  simp [IntKind.min,IntKind.max,IntKind.signed,IntKind.bits] at aa ad
  exact⟨BitVec.ofInt 32 z,by show [_]= [_]; simp; omega⟩
 form h:=AZ hu h
theorem Arg.u16 (hu:P.underlying t=some (.int .u16)) (al:P.cellsOf t=1):Arg P t (BitVec 16) where
 cells:=al
 read h:=by
  obtain⟨z,rfl,aa,ad⟩:=AY hu h
  simp [IntKind.min,IntKind.max,IntKind.signed,IntKind.bits] at aa ad
  exact⟨BitVec.ofInt 16 z,by show [_]= [_]; simp; omega⟩
 form h:=AZ hu h
theorem Arg.u8 (hu:P.underlying t=some (.int .u8)) (al:P.cellsOf t=1):Arg P t (BitVec 8) where
 cells:=al
 read h:=by
  obtain⟨z,rfl,aa,ad⟩:=AY hu h
  simp [IntKind.min,IntKind.max,IntKind.signed,IntKind.bits] at aa ad
  exact⟨BitVec.ofInt 8 z,by show [_]= [_]; simp; omega⟩
 form h:=AZ hu h
theorem NJ (hs:(∃ fs,P.underlying t=some (.struct fs))∨ (∃ n e,P.underlying t=some (.array n e))) {W:World} {b:Nat} {v:Value} (h:Value.okWide P W .any b t v):shaped true v:=by
 unfold Value.okWide at h
 rcases hs with⟨fs,hu⟩ | ⟨n,e,hu⟩ <;> rw [hu] at h <;> exact⟨h.choose,h.choose_spec.1⟩
theorem Arg.arr {α:Type} [aj α] [Inhabited α] {n:Nat} (hu:P.underlying t=some (.array n e)) (he:Arg P e α) (al:P.cellsOf t=n * aj.size α):Arg P t (Vector α n) where
 cells:=al
 read {H enc W m cs x} h:=by
  obtain⟨xs,q,_,_,ao,hlen,a7⟩:=DataW.trod_array hu h
  have aQ:∀ i,i<n→ ∃ a:α,aj.rep [] W ((cs.drop (i * aj.size α)).take (aj.size α)) a:=by
   intro i ak
   have aa:=a7 i ak
   rw [List.getElem?_eq_getElem (by omega)] at aa
   rw [← he.cells]
   exact he.read aa
  refine⟨Vector.ofFn fun i=>(aQ i.1 i.2).choose,by rw [ao,al]; simp,fun i ak=>?_⟩
  have g7:i<n:=by simpa using ak
  have:=(aQ i g7).choose_spec
  simpa using this
 form h:=NJ (.inr ⟨_,_,hu⟩) h
theorem NK {H:Type} {enc:TypeId×Value→H} {W:World} {n:Nat} {cs:List Value} {α:Type} [aj α] {fs:Array Field} {xs:List (DataW H×List MemPlace)} {f:Field} (i:Nat) (bp:Arg P f.type α) (ak:fs[i]? =some f) (hlen:xs.length=fs.size)
 (a7:∀ (i:Nat) (f:Field),fs[i]? =some f→DataW.trod enc P W 0 (fun _=>true) true n f.type ((cs.drop f.offset).take (P.cellsOf f.type))=xs[i]?):∃ a:α,aj.rep [] W ((cs.drop f.offset).take (aj.size α)) a:=by
 have aa:=a7 i f ak
 rw [List.getElem?_eq_getElem (by have:=(Array.getElem?_eq_some_iff.1 ak).1; omega)] at aa
 rw [← bp.cells]
 exact bp.read aa
theorem Nk {H:Type} {enc:TypeId×Value→H} {W W':World} (ao:laidOutB P=true) {sp:Nat→Bool} :∀ {h2:List TypeId} {vs:List Value} {ds:List (DataW H)} {bz:List MemPlace},
 (∀ t∈h2,P.readableRec t=true∧t<P.types.size)→DataW.TrodAll enc P W 0 (fun _=>true) true h2 vs ds bz→ (∀ p∈bz,W.sameAt W' p)→ (∀ p∈bz,sp p.block=true)→DataW.TrodAll enc P W' 0 sp true h2 vs ds bz
 | [],_,_,_,_,h,_,_=>by
   obtain⟨rfl,rfl,rfl⟩:=trodAll_nil h
   exact rfl
 | _::_,_,_,_,b1,h,hs,hp=>by
   obtain⟨v,Kz,d,KA,p,q,rfl,rfl,rfl,aa,ad⟩:=trodAll_cons h
   have bT:=b1 _ (List.mem_cons_self ..)
   exact⟨p,q,WideElems.Trod_stays ao bT.1 bT.2 aa (fun x aq=>hs x (by simp [aq])) (fun x aq=>hp x (by simp [aq])),
    Nk ao (fun t qJ=>b1 t (List.mem_cons_of_mem _ qJ)) ad (fun x aq=>hs x (by simp [aq])) (fun x aq=>hp x (by simp [aq])),rfl⟩
theorem Fr.below {W W':World} (h:Fr [] W W'):Below W.heap.size W W':=⟨h.os,h.tape,h.output,h.size,fun k aw=>h.block k aw (by simp)⟩
theorem Wv {H:Type} {enc:TypeId×Value→H} {f:Func} {s:ChangeSpec} {W W':World} {args:Array Value} {ds gs:List (DataW H)} {before:List MemPlace} {eS:TypeId}
 (ao:laidOutB P=true) (hp:∀ t∈f.params.toList,P.readableRec t=true∧t<P.types.size) (aQ:f.resultTypes= #[eS]) (hb:P.underlying eS=some .bool) (a2:s.vars= [])
 (hs:s.fn H ds= { results:= [.lit (.bool true)],args:=ds })
 (zh:DataW.Whole enc P f.params.toList s.vars false W args.toList ds gs before) (nL:Fr [] W W'):
 s.post enc P f false true false false W args (.bool true) W':=by
 have acI:=zh
 obtain⟨p,q,gA,LF,rfl,df,aR⟩:=acI
 rw [a2] at LF
 obtain⟨rfl,rfl⟩:=trodVars_none LF
 have cD:∀ x∈p,x.block<W.heap.size:=fun x aq=>zh.lt x (by simpa using aq)
 have qO:=nL.below
 have Jw:∀ x∈p,W.sameAt W' x:=fun x aq=>qO.same (cD x aq)
 have abR:∀ (b:Nat) (sp:Nat→Bool) (hd:Bool),DataW.TrodAll enc P W' b sp hd f.resultTypes.toList ((Value.bool true).resultList f.resultTypes.size) [.lit (.bool true)] []:=by
  intro b sp hd
  rw [aQ]
  exact⟨[],[],shut_bool hb true,rfl,rfl⟩
 refine⟨ds,[],p++[],[],p,[],zh,?_,?_,?_,World.keptBut_mono (fun x aq=>?_) (qO.frame fun _=>False),fun h=>by cases h⟩
 ·rw [List.append_nil,hs]; exact abR _ _ _
 ·rw [List.append_nil,hs]; exact Nk ao hp gA Jw (fun x aq=>by simpa using cD x aq)
 ·rw [List.append_nil,hs,a2]; rfl
 exact aq.elim
end Gv
namespace Gv
open Go Go.ChangeShapes Go.WideShapes Go.RowKit
theorem Ww {P:Program} {fits:TypeId→Bool} {d:Nat} {e:TypeId} {count off n:Nat} (h:rowAt P fits d e count off n=true):off≤count * P.cellsOf e:=by
 cases d with
 | zero=>cases h
 | succ d=>
   unfold rowAt at h
   simp only at h
   split at h
   ·cases h
   rename_i hs
   have hp:0<P.cellsOf e:=Nat.pos_of_ne_zero hs
   have aer:=Nat.div_add_mod off (P.cellsOf e)
   rw [Bool.or_eq_true] at h
   rcases h with h | h
   ·simp only [Bool.and_eq_true,beq_iff_eq,decide_eq_true_eq] at h
    have:P.cellsOf e * (off / P.cellsOf e)≤P.cellsOf e * count:=Nat.mul_le_mul_left _ (by omega)
    rw [Nat.mul_comm count]; omega
   simp only [Bool.and_eq_true,decide_eq_true_eq] at h
   have hm:=Nat.mod_lt off hp
   have:P.cellsOf e * (off / P.cellsOf e+1)≤P.cellsOf e * count:=Nat.mul_le_mul_left _ (by omega)
   rw [Nat.mul_add] at this
   rw [Nat.mul_comm count]; omega
theorem Nl {P:Program} :∀ {d:Nat} {e:TypeId} {count off:Nat} {u:TypeId} {n:Nat},liesAt P d e count off u n=true→off≤count * P.cellsOf e
 | 0,_,_,_,_,_,h=>by cases h
 | d+1,e,count,off,u,n,h=>by
   unfold liesAt at h
   rw [Bool.or_eq_true] at h
   rcases h with h | h
   ·exact Ww h
   split at h
   ·exact Nl h
   cases h
structure rS (P:Program) (t:TypeId) (α:Type) [aj α]:Prop where
 top:∀ {H:Type} {enc:TypeId×Value→H} {W:World} {n b:Nat} {v:Value} {x:DataW H×List MemPlace},DataW.trod enc P W 0 (fun _=>true) true n t v.cells.toList=some x→Value.okWide P W .any b t v→ ∃ a:α,(I.of a).holds [] W v
variable {P:Program} {t e:TypeId}
theorem rS.of {α:Type} [aj α] (h:Arg P t α):rS P t α where
 top aa ad:=let⟨a,aF⟩:=h.read aa; ⟨a,h.form ad,aF⟩
theorem Wx {α:Type} [aj α] (hu:P.underlying t=some (.slice e)) (he:Arg P e α) (df:Nat.beq (aj.size α) 0=false) {H:Type} {enc:TypeId×Value→H} {W:World} {n b:Nat} {v:Value} {x:DataW H×List MemPlace}
 (h:DataW.trod enc P W 0 (fun _=>true) true n t [v]=some x) (hS:Cell.okWide P W .any b t v):∃ a:List α,(I.of a).holds [] W v:=by
 have j6:aj.size α≠0:=fun h=>by rw [h] at df; cases df
 rcases DataW.trod_slice hu h with⟨aa,_⟩ | ⟨a,len,cap,elems,rest,m,_,aa,_,_,aes,o4,aet,abS,aef,_⟩
 ·have:=List.singleton_inj.1 aa
  subst this
  exact⟨[],nu.2 (.inl ⟨rfl,rfl⟩)⟩
 have:=List.singleton_inj.1 aa
 subst this
 unfold Cell.okWide at hS
 simp only [hu] at hS
 unfold Cell.ok at hS
 rw [hu] at hS
 obtain⟨_,_,_,Qw,row,cells,y4,abT⟩:=hS
 obtain⟨Sj,tE,aeu⟩:=a
 simp only at Qw
 subst Qw
 unfold World.shape? at y4
 cases e3:W.heap[Sj]? with
 | none=>rw [e3] at y4; cases y4
 | some kt=>
   rw [e3] at y4
   cases kt <;> simp at y4
   rename_i r4 T hA
   obtain⟨Sk,eX⟩:=y4
   have aej:tE≤r4.size:=by
    have a0:tE≤_:=Nl abT
    have bn:=Nat.div_mul_le_self cells (P.cellsOf row)
    omega
   have ZZ:=he.cells
   have gm:∀ i,i<len→ ∃ a:α,aj.rep [] W ((r4.toList.drop (tE+i * aj.size α)).take (aj.size α)) a∧tE+(i+1) * aj.size α≤r4.size:=fun i ak=>by
    have a0:=abS i ak
    rw [List.getElem?_eq_getElem (by omega)] at a0
    obtain⟨eh,bn,cZ⟩:=Option.bind_eq_some_iff.1 a0
    obtain⟨_,ao,al⟩:=World.cells?_some bn
    rw [ZZ] at ao al bn
    have sW:∀ j,j<aj.size α→r4[tE+i * aj.size α+j]? =eh[j]? :=fun j aE=>by
     rw [← al j aE,jE,jE]
     unfold World.cell?
     simp [e3]
    have heq:(r4.toList.drop (tE+i * aj.size α)).take (aj.size α)=eh:=by
     apply List.ext_getElem?
     intro j
     rw [List.getElem?_take]
     by_cases aE:j<aj.size α
     ·rw [if_pos aE,List.getElem?_drop,Array.getElem?_toList]; exact sW j aE
     rw [if_neg aE]; symm; exact List.getElem?_eq_none (by omega)
    obtain⟨a,bp⟩:=he.read cZ
    refine⟨a,by rw [heq]; exact bp,?_⟩
    have e5:=sW (aj.size α - 1) (by omega)
    rw [List.getElem?_eq_getElem (show aj.size α - 1<eh.length by omega)] at e5
    have:=(Array.getElem?_eq_some_iff.1 e5).1
    rw [Nat.add_mul]; omega
   have hex:∃ xs:List α,xs.length=len∧ ∀ i (h:i<xs.length),aj.rep [] W ((r4.toList.drop (tE+i * aj.size α)).take (aj.size α)) xs[i]:=by
    refine⟨List.ofFn fun i:Fin len=>(gm i.1 i.2).choose,by simp,fun i ak=>?_⟩
    have g7:i<len:=by simpa using ak
    rw [List.getElem_ofFn]
    exact(gm i g7).choose_spec.1
   obtain⟨xs,CF,KB⟩:=hex
   have hbound:tE+xs.length * aj.size α≤r4.size:=by
    rw [CF]
    rcases Nat.eq_zero_or_pos len with bT | bT
    ·rw [bT]; omega
    have:=(gm (len - 1) (by omega)).choose_spec.2
    rw [show len - 1+1=len by omega] at this
    exact this
   refine⟨xs,nu.2 (.inr ⟨Sj,tE,cap,r4,T,hA,by rw [CF],by simp,e3,by omega,by omega,hbound,?_,fun i ak=>?_⟩)⟩
   ·rw [List.length_take,List.length_drop]; simp; omega
   have hle:(i+1) * aj.size α≤xs.length * aj.size α:=Nat.mul_le_mul_right _ ak
   rw [Nat.succ_mul] at hle
   rw [vz _ _ _ _ _ hle]
   exact KB i ak
theorem rS.RG {α:Type} [aj α] (hu:P.underlying t=some (.slice e)) (he:Arg P e α) (df:Nat.beq (aj.size α) 0=false):rS P t (List α) where
 top {H enc W n b v x} h hS:=by
  have yS:Cell.okWide P W .any b t v:=by
   unfold Value.okWide at hS
   simp only [hu] at hS
   exact hS
  have abU:v.oneCell'=true:=by
   unfold Cell.okWide at yS
   simp only [hu] at yS
   unfold Cell.ok at yS
   rw [hu] at yS
   cases v <;> first | rfl | simp at yS
  rw [oP abU] at h
  exact Wx hu he df h yS
theorem Em {H:Type} {enc:TypeId×Value→H} {W:World} {h2:List TypeId} {vs:List Value} {ds:List (DataW H)} {bz:List MemPlace} {α:Type} [aj α] {b:Nat} (bp:rS P t α)
 (h:DataW.TrodAll enc P W 0 (fun _=>true) true (t::h2) vs ds bz) (hS:∀ (j:Nat) u v,(t::h2)[j]? =some u→vs[j]? =some v→Value.okWide P W .any b u v):
 ∃ (a:α) (v:Value) (KC:List Value) (RH:List (DataW H)) (nG:List MemPlace) (d:DataW H),vs=v::KC∧ds=d::RH∧ (I.of a).holds [] W v∧DataW.TrodAll enc P W 0 (fun _=>true) true h2 KC RH nG∧
   (∀ (j:Nat) u w,h2[j]? =some u→KC[j]? =some w→Value.okWide P W .any b u w):=by
 obtain⟨v,Kz,d,KA,p,q,rfl,rfl,rfl,⟨n,aa⟩,ad⟩:=trodAll_cons h
 obtain⟨a,aF⟩:=bp.top aa (hS 0 t v rfl rfl)
 exact⟨a,v,Kz,KA,q,d,rfl,rfl,aF,ad,fun j u w aE hw=>hS (j+1) u w (by simpa using aE) (by simpa using hw)⟩
end Gv
namespace Gv
open Go
theorem U9 {ax L:List aT} (h:ax.Sublist L):(aV ax).Sublist (aV L):=by
 induction h with
 | slnil=>simp [aV]
 | cons e _ bR=>cases aw:e.key <;> simp only [aV,aw] <;> first | exact bR | exact bR.cons _
 | cons_cons e _ bR=>cases aw:e.key <;> simp only [aV,aw] <;> first | exact bR | exact bR.cons_cons _
theorem aT.uk {e:aT} {A dh W W'} (h:e.ok A W) (x:Ext A W dh W') (hb:∀ p,e.key=some p→W'.heap[p]? =W.heap[p]?):e.ok dh W':=by
 unfold aT.ok at *
 cases aw:e.key with
 | none=>rw [aw] at h; exact h
 | some p=>
   rw [aw] at h
   obtain⟨o,aa,ad⟩:=h
   exact⟨o,by rw [hb p aw]; exact aa,dZ.mono _ x ad⟩
def ky (X ca:List Nat) (jr:World) {δ:Type} (ρ:δ→I) (Lo:δ→List aT):Ending→World→Prop:=fun e W'=>
 ∃ v d,e= .returned v∧Fr X jr W'∧ (aV (Lo d)).Nodup∧ (∀ k∈aV (Lo d),k<W'.heap.size∧ (k<jr.heap.size→k∈X)∧k ∉ ca)∧ (∀ e∈Lo d,e.ok (aV (Lo d)++ca) W')∧ (ρ d).holds (aV (Lo d)++ca) W' v
def b9 (P:Program) (f:FuncId) (τs:List I) (Lin:List aT) {δ:Type} (ρ:δ→I) (Lo:δ→List aT):Prop:=
 ∀ (A:List Nat) (W:World) (vs:List Value),(∀ k∈A,k<W.heap.size∧k ∉ aV Lin)→ (aV Lin).Nodup→ (∀ k∈aV Lin,k<W.heap.size)→ (∀ e∈Lin,e.ok (aV Lin++A) W)→g2 (aV Lin++A) W τs vs→
   Calls P f vs.toArray W (ky (aV Lin) A W ρ Lo)
theorem b9.of {P:Program} {f:FuncId} {fn:Func} {code:Code} {n:Nat} {τs:List I} {Lin:List aT} {δ:Type} {ρ:δ→I} {Lo:δ→List aT} (a7:P.funcs[f]? =some fn) (hb:fn.body=some code) (aR:fn.ntmps=n) (hlen:Nat.ble τs.length n=true)
 (h:∀ W A,ag ⟨P,n,W,aV Lin,A,none,[]⟩ (bodyPost P fn (ky (aV Lin) A W ρ Lo)) code (params 0 τs) Lin):b9 P f τs Lin ρ Lo:=by
 intro A W vs gA gW cD hS a2
 refine calls_of_wp a7 hb (wpIn_wide.1 (h W A _ _ ?_))
 have ao:=a2.length
 have hle:τs.length≤n:=Nat.le_of_ble_eq_true hlen
 exact
 {defers:=rfl
  size:=by simp [aR,ao]; omega
  env:=fun t τ ln=>by
   obtain⟨_,v,ad,aF⟩:=vB a2 0 t τ ln
   refine⟨v,?_,aF⟩
   have cD:t<vs.length:=(List.getElem?_eq_some_iff.1 ad).1
   rw [Array.getElem?_append_left (by simpa using cD)]
   simpa using ad
  dQ:= .refl _ _
  own:=hS
  nodup:=gW
  lt:=cD
  gl:=fun k aw _=>aw
  fg:=gA }
section
variable {c:dp} {E:List (Nat×I)} {L:List aT} {ops:Array Oper} {Q:Exit→Act→World→Prop}
variable {d:Option Tmp} {ty:TypeId} {pos:String} {af:Array Edge} {g:Option (Nat×Bool)} {x y:Operand} {t t2:TypeId}
def u5 (c:dp) (E:List (Nat×I)) (L:List aT) (r:ResultVar) (τ:I):Prop:=
 ∀ a W,bV c E L a W→ ∃ v,(v8 a.tmps r).run c.P W= .ok v W∧τ.holds (aV L++c.ca) W v
theorem ej {t:Nat} {τ:I} (h:look E t=some τ):u5 c E L (.tmp t) τ:=fun a W s=>by
 obtain⟨v,aa,ad⟩:=s.env t τ h
 exact⟨v,by simp [v8,aa],ad⟩
theorem j2 {t:Nat} {ty:TypeId} {i p:Nat} {α:Type} [aj α] {x:α} (eQ:bF c.P ty α) (h:look E t=some (.eq (.pointer (some ⟨p,0,none⟩)))) (ar:L[i]? =some ⟨some p,.var x⟩):u5 c E L (.cell t ty) (.of x):=fun a W s=>by
 obtain⟨v,aa,ad⟩:=s.env t _ h
 subst ad
 obtain⟨kt,e3,cs,T,rfl,gm⟩:=s.own _ (List.mem_of_getElem? ar)
 have ao:cs.toList.length=aj.size α:=aj.len gm
 have eX:cs.size=aj.size α:=by simpa using ao
 obtain⟨v,aF,aX⟩:=vw (A:=aV L++c.ca) (off:=0) eQ e3 (by omega) (by rw [List.drop_zero,← ao,List.take_length]; exact gm)
 exact⟨v,by simp [v8,aa,asAddr,aF],aX⟩
theorem bV.ends {a:Act} {W:World} (s:bV c E L a W) {δ:Type} {ρ:δ→I} {Lo:δ→List aT} (bf:δ) (hs:(Lo bf).Sublist L) {v:Value} (a2:(ρ bf).holds (aV L++c.ca) W v):ky c.X c.ca c.jr ρ Lo (.returned v) W:=by
 have lh:=U9 hs
 have aw:∀ k∈aV (Lo bf),k∈aV L:=fun k aw=>lh.subset aw
 have hP:Ext (aV L++c.ca) W (aV (Lo bf)++c.ca) W:= .drop fun k hm=>by
  rcases List.mem_append.1 hm with hm | hm
  ·exact List.mem_append.2 (.inl (aw k hm))
  exact List.mem_append.2 (.inr hm)
 exact⟨v,bf,rfl,s.dQ,s.nodup.sublist lh,fun k hm=>⟨s.lt k (aw k hm),s.gl k (aw k hm),fun bp=>(s.fg k bp).2 (aw k hm)⟩,
  fun e he=>aT.uk (s.own e (hs.subset he)) hP fun _ _=>rfl,I.mono _ hP a2⟩
theorem ae.gr {fn:Func} {r:ResultVar} {τ:I} {δ:Type} {ρ:δ→I} {Lo:δ→List aT} (bf:δ) (hs:(Lo bf).Sublist L) (aQ:fn.results= #[r]) (tp:ρ bf=τ) (h:u5 c E L r τ) (ie:c.ds= []:=by rfl):ae c (bodyPost c.P fn (ky c.X c.ca c.jr ρ Lo)) .ret E L:=fun a W s=>by
 subst tp
 obtain⟨v,aa,ad⟩:=h a W s
 exact⟨s.vL ie,v,by simp [vE,aQ,aa],s.ends bf hs ad⟩
theorem ae.kN {fn:Func} {r hl:ResultVar} {τ oB:I} {δ:Type} {ρ:δ→I} {Lo:δ→List aT} (bf:δ) (hs:(Lo bf).Sublist L) (aQ:fn.results= #[r,hl]) (tp:ρ bf= .ep [τ,oB]) (h:u5 c E L r τ) (ad:u5 c E L hl oB) (ie:c.ds= []:=by rfl):ae c (bodyPost c.P fn (ky c.X c.ca c.jr ρ Lo)) .ret E L:=fun a W s=>by
 obtain⟨v,aF,aX⟩:=h a W s
 obtain⟨v2,a0,bn⟩:=ad a W s
 exact⟨s.vL ie,.tuple #[v,v2],by simp [vE,aQ,aF,a0],s.ends bf hs (by rw [tp]; exact⟨_,rfl,.cons aX (.cons bn .nil)⟩)⟩
theorem ae.Jk {fn:Func} {r hl oF:ResultVar} {τ oB CA:I} {δ:Type} {ρ:δ→I} {Lo:δ→List aT} (bf:δ) (hs:(Lo bf).Sublist L) (aQ:fn.results= #[r,hl,oF]) (tp:ρ bf= .ep [τ,oB,CA]) (h:u5 c E L r τ) (ad:u5 c E L hl oB) (aF:u5 c E L oF CA) (ie:c.ds= []:=by rfl):ae c (bodyPost c.P fn (ky c.X c.ca c.jr ρ Lo)) .ret E L:=fun a W s=>by
 obtain⟨v,ay,f1⟩:=h a W s
 obtain⟨v2,aO,f2⟩:=ad a W s
 obtain⟨zf,cK,f3⟩:=aF a W s
 exact⟨s.vL ie,.tuple #[v,v2,zf],by simp [vE,aQ,ay,aO,cK],s.ends bf hs (by rw [tp]; exact⟨_,rfl,.cons f1 (.cons f2 (.cons f3 .nil))⟩)⟩
theorem ub:∀ {L:List aT} {i:Nat} {e:aT},L[i]? =some e→L.Perm (e::L.eraseIdx i)
 | [],i,e,h=>by simp at h
 | x::r,0,e,h=>by simp only [List.getElem?_cons_zero,Option.some.injEq] at h; subst h; exact .refl _
 | x::r,i+1,e,h=>by
   simp only [List.getElem?_cons_succ] at h
   exact((ub h).cons x).trans (.swap e x _)
theorem bV.bI {a:Act} {W:World} (s:bV c E L a W) {i:Nat} {e:aT} (h:L[i]? =some e):bV c E (e::L.eraseIdx i) a W:=s.perm (ub h)
theorem ai.bI {l:List Oper} (i:Nat) {e:aT} (h:L[i]? =some e) (k:ai c ops Q l E (e::L.eraseIdx i)):ai c ops Q l E L:=fun a W s=>k a W (s.bI h)
theorem ae.bI {z:Exit} (i:Nat) {e:aT} (h:L[i]? =some e) (k:ae c Q z E (e::L.eraseIdx i)):ae c Q z E L:=fun a W s=>k a W (s.bI h)
theorem bV.after {a:Act} {W W':World} {Lin Lr:List aT} (s:bV c E (Lin++Lr) a W) {Lo:List aT} (a7:Fr (aV Lin) W W') (gW:(aV Lo).Nodup)
 (aw:∀ k∈aV Lo,k<W'.heap.size∧ (k<W.heap.size→k∈aV Lin)∧k ∉ aV Lr++c.ca) (hS:∀ e∈Lo,e.ok (aV Lo++(aV Lr++c.ca)) W'):bV c E (Lo++Lr) a W':=by
 have hP:Ext (aV (Lin++Lr)++c.ca) W (aV (Lo++Lr)++c.ca) W':=
  ⟨a7.size,fun k cD bp=>a7.block k cD fun hm=>bp (by rw [fv]; simp [hm]),fun k hm cD=>by
   rw [fv] at hm ⊢
   simp only [List.mem_append] at hm ⊢
   rcases hm with(hm | hm) | hm
   ·exact .inl (.inl ((aw k hm).2.1 cD))
   ·exact .inl (.inr hm)
   exact .inr hm⟩
 have mD:=s.nodup
 rw [fv] at mD
 obtain⟨nH,pf,qP⟩:=List.nodup_append.1 mD
 have uW:∀ k∈aV Lr,k<W.heap.size∧k ∉ aV Lin:=fun k hm=>⟨s.lt k (by rw [fv]; exact List.mem_append.2 (.inr hm)),fun h=>qP k h k hm rfl⟩
 exact
 {defers:=s.defers
  size:=s.size
  env:=fun t τ ao=>let⟨v,aa,ad⟩:=s.env t τ ao; ⟨v,aa,τ.mono hP ad⟩
  dQ:=⟨a7.os.trans s.dQ.os,a7.tape.trans s.dQ.tape,a7.output.trans s.dQ.output,Nat.le_trans s.dQ.size a7.size,fun k cD aq=>
   (a7.block k (Nat.lt_of_lt_of_le cD s.dQ.size) fun hm=>aq (s.gl k (by rw [fv]; exact List.mem_append.2 (.inl hm)) cD)).trans (s.dQ.block k cD aq)⟩
  own:=fun e he=>by
   rcases List.mem_append.1 he with he | he
   ·have:=hS e he
    refine aT.uk this (.drop fun k hm=>?_) fun _ _=>rfl
    rw [fv] at hm
    simp only [List.mem_append] at hm ⊢
    rcases hm with(hm | hm) | hm
    ·exact .inl hm
    ·exact .inr (.inl hm)
    exact .inr (.inr hm)
   exact aT.uk (s.own e (List.mem_append.2 (.inr he))) hP fun p hp=>by
    have:=uW p (lB.2 ⟨e,he,hp⟩)
    exact a7.block p this.1 this.2
  nodup:=by
   rw [fv]
   exact List.nodup_append.2 ⟨gW,pf,fun k aa j ad e=>by subst e; exact(aw k aa).2.2 (List.mem_append.2 (.inl ad))⟩
  lt:=fun k hm=>by
   rw [fv] at hm
   rcases List.mem_append.1 hm with hm | hm
   ·exact(aw k hm).1
   exact Nat.lt_of_lt_of_le (uW k hm).1 a7.size
  gl:=fun k hm bT=>by
   rw [fv] at hm
   have cD:k<W.heap.size:=Nat.lt_of_lt_of_le bT s.dQ.size
   rcases List.mem_append.1 hm with hm | hm
   ·exact s.gl k (by rw [fv]; exact List.mem_append.2 (.inl ((aw k hm).2.1 cD))) bT
   exact s.gl k (by rw [fv]; exact List.mem_append.2 (.inr hm)) bT
  fg:=fun k hm=>by
   obtain⟨aa,ad⟩:=s.fg k hm
   refine⟨Nat.lt_of_lt_of_le aa a7.size,fun h=>?_⟩
   rw [fv] at h ad
   rcases List.mem_append.1 h with h | h
   ·exact(aw k h).2.2 (List.mem_append.2 (.inr hm))
   exact ad (List.mem_append.2 (.inr h)) }
theorem iq.Pg {xs:List Operand} {τs:List I} (h:iq c E L xs τs) {a:Act} {W:World} (s:bV c E L a W):g2 (aV L++c.ca) W τs (xs.map a.eval):=h.holds a W s
theorem AI {a:Act} {W:World} {f:FuncId} {xs:List Operand} {ats:Array TypeId} {τs:List I} {Lin Lr:List aT} {δ:Type} {ρ:δ→I} {Lo:δ→List aT} (eR:bM c.P f) (h:b9 c.P f τs Lin ρ Lo)
 (s:bV c E (Lin++Lr) a W) (aq:g2 (aV (Lin++Lr)++c.ca) W τs (xs.map a.eval)):
 ht c.P ⟨d,.call ⟨.value (.func f),xs.toArray,ats⟩,ty,pos,af,g⟩ a W fun v W'=> ∃ bf,bV c E (Lo bf++Lr) a W'∧ (ρ bf).holds (aV (Lo bf++Lr)++c.ca) W' v:=by
 have mD:=s.nodup
 rw [fv] at mD
 obtain⟨nH,pf,qP⟩:=List.nodup_append.1 mD
 have l8:Ext (aV (Lin++Lr)++c.ca) W (aV Lin++(aV Lr++c.ca)) W:= .drop fun k hm=>by
  rw [fv]
  simp only [List.mem_append] at hm ⊢
  rcases hm with hm | hm | hm
  ·exact .inl (.inl hm)
  ·exact .inl (.inr hm)
  exact .inr hm
 have gA:∀ k∈aV Lr++c.ca,k<W.heap.size∧k ∉ aV Lin:=fun k hm=>by
  rcases List.mem_append.1 hm with hm | hm
  ·exact⟨s.lt k (by rw [fv]; exact List.mem_append.2 (.inr hm)),fun h=>qP k h k hm rfl⟩
  obtain⟨aa,ad⟩:=s.fg k hm
  exact⟨aa,fun h=>ad (by rw [fv]; exact List.mem_append.2 (.inl h))⟩
 have cD:∀ k∈aV Lin,k<W.heap.size:=fun k hm=>s.lt k (by rw [fv]; exact List.mem_append.2 (.inl hm))
 refine .vM (f:=f) (args:=(xs.map a.eval).toArray) (W':=W) (by simp [execOp,resolve,Deferred.ofValue,Act.eval,invoke,eR.run]) ?_
 refine(h (aV Lr++c.ca) W (xs.map a.eval) gA nH cD (fun e he=>aT.uk (s.own e (List.mem_append.2 (.inl he))) l8 fun _ _=>rfl) (aq.mono l8)).mono fun e W' ⟨v,bf,he,a7,aa,ad,aF,aX⟩=>?_
 refine⟨v,he,bf,s.after a7 aa ad aF,(ρ bf).mono (.drop fun k hm=>?_) aX⟩
 rw [fv] at hm
 simp only [List.mem_append] at hm ⊢
 rcases hm with(hm | hm) | hm
 ·exact .inl hm
 ·exact .inr (.inl hm)
 exact .inr (.inr hm)
theorem ai.nw {rest:List Oper} {bf:Nat} {f:FuncId} {xs:List Operand} {ats:Array TypeId} {τs:List I} {Lin Lr:List aT} {δ:Type} {ρ:δ→I} {Lo:δ→List aT} (eR:bM c.P f) (h:b9 c.P f τs Lin ρ Lo)
 (aq:iq c E (Lin++Lr) xs τs) (aR:Nat.blt bf c.n=true) (k:∀ q,ai c ops Q rest ((bf,ρ q)::E) (Lo q++Lr)):
 ai c ops Q (⟨some bf,.call ⟨.value (.func f),xs.toArray,ats⟩,ty,pos,af,none⟩::rest) E (Lin++Lr):=fun a W s=>
 iD rfl (AI eR h s (aq.holds a W s)) fun v W' ⟨q,cl,a2⟩=>k q _ _ (cl.put (by simpa using aR) a2)
end
def h5 {α:Type} (xs:List α) (k:Nat) (v:α):List α:=xs.set k v
section
variable {c:dp} {E:List (Nat×I)} {L:List aT} {ops:Array Oper} {Q:Exit→Act→World→Prop}
variable {d:Option Tmp} {ty:TypeId} {pos:String} {af:Array Edge} {g:Option (Nat×Bool)} {x y:Operand} {t t2:TypeId}
theorem bV.rowAt {a:Act} {W:World} (s:bV c E L a W) {i:Nat} {key:Option Nat} {T cap:Nat} {α:Type} [aj α] {xs:List α} (ar:L[i]? =some ⟨key,.row T xs cap⟩) (aq:0<xs.length):
 ∃ p cs,key=some p∧W.heap[p]? =some (.cells cs T (0,0))∧cs.size=cap * aj.size α∧xs.length≤cap∧cap≤maxLen∧g4 (aV L++c.ca) W (cs.toList.take (xs.length * aj.size α)) xs:=by
 have bm:=s.own _ (List.mem_of_getElem? ar)
 cases key with
 | none=>have:xs= []:=bm.1; subst this; simp at aq
 | some p=>
   obtain⟨o,e3,cs,rfl,aa,ad,aF,aX⟩:=bm
   exact⟨p,cs,rfl,e3,aa,ad,aF,aX⟩
theorem l2 {e i k T cap:Nat} {key:Option Nat} {α:Type} [aj α] {xs:List α} {z:Int} (hu:c.P.underlying t=some (.slice e)) (e6:bF c.P e α) (aq:bd c E L x (.eq (aS key xs.length cap))) (a6:bd c E L y (.of z))
 (ar:L[i]? =some ⟨key,.row T xs cap⟩) (aw:k<xs.length∧z=k):cf c E L ⟨d,.indexAddr t x y,ty,pos,af,g⟩ (.eq (.pointer (some ⟨key.getD 0,k * aj.size α,none⟩))):= .pure fun a W s=>by
 obtain⟨bn,rfl⟩:=aw
 obtain⟨p,cs,rfl,_⟩:=s.rowAt ar (by omega)
 have aa:a.eval x=_:=aq a W s
 have a0:=of_int.1 (a6 a W s)
 obtain⟨gB,er,eX⟩:=e6.info
 exact⟨_,by simp [execOp,Instr.indexAt,asIntOf,run_underlying hu,aa,a0,bn,Go.sizeOf,typeInfo,er,eX,jE,aS]; rfl,by simp [I.eq]⟩
theorem yr {k n s:Nat} (h:k<n):k * s+s≤n * s:=by rw [← Nat.succ_mul]; exact Nat.mul_le_mul_right _ h
theorem pA {i k T cap o:Nat} {key:Option Nat} {α γ:Type} [aj α] [Inhabited α] [aj γ] {xs:List α} (l:aN α γ) {r:γ} (eQ:bF c.P t γ) (aq:bd c E L x (.eq (.pointer (some ⟨key.getD 0,o,none⟩))))
 (ar:L[i]? =some ⟨key,.row T xs cap⟩) (aw:k<xs.length) (bm:o=k * aj.size α+l.off) (aQ:l.get (az xs k)=r):cf c E L ⟨d,.load t x,ty,pos,af,g⟩ (.of r):= .pure fun a W s=>by
 subst bm; subst aQ
 obtain⟨p,cs,rfl,e3,aa,ad,aF,aX⟩:=s.rowAt ar (by omega)
 have eE:=yr (s:=aj.size α) aw
 have ao:=l.gI
 have hle:xs.length * aj.size α≤cap * aj.size α:=Nat.mul_le_mul_right _ ad
 have gm:=l.iO (aX.2 k aw)
 rw [vz _ _ _ _ _ l.gI,List.drop_take,List.take_take,Nat.min_eq_left (by omega)] at gm
 rw [e0 xs aw]
 obtain⟨v,a0,bn⟩:=vw (A:=aV L++c.ca) eQ e3 (off:=k * aj.size α+l.off) (by omega) gm
 have cZ:a.eval x=_:=aq a W s
 simp only [Option.getD_some] at cZ
 exact⟨v,by simp [execOp,Instr.loadAt,Instr.sureAddr,cZ,a0],bn⟩
theorem ai.yn {rest:List Oper} {i k T cap o:Nat} {key:Option Nat} {α γ:Type} [aj α] [Inhabited α] [aj γ] {xs r:List α} {v:γ} (l:aN α γ) (eQ:bF c.P t γ) (aq:bd c E L x (.eq (.pointer (some ⟨key.getD 0,o,none⟩)))) (a6:bd c E L y (.of v))
 (ar:L[i]? =some ⟨key,.row T xs cap⟩) (aw:k<xs.length) (bm:o=k * aj.size α+l.off) (aQ:h5 xs k (l.set (az xs k) v)=r)
 (k':ai c ops Q rest E (L.set i ⟨key,.row T r cap⟩)):ai c ops Q (⟨none,.store t x y,ty,pos,af,none⟩::rest) E L:=fun a W s=>by
 subst bm; subst aQ
 obtain⟨p,cs,rfl,e3,aa,ad,aF,aX⟩:=s.rowAt ar (by omega)
 have eE:=yr (s:=aj.size α) aw
 have ao:=l.gI
 have hle:xs.length * aj.size α≤cap * aj.size α:=Nat.mul_le_mul_right _ ad
 have a2:=a6 a W s
 have y5:(a.eval y).cells.toList.length=aj.size γ:=aj.len a2.2
 have a0:=Ag (A:=aV L++c.ca) eQ e3 (off:=k * aj.size α+l.off) (by omega) a2
 have cZ:a.eval x=_:=aq a W s
 simp only [Option.getD_some] at cZ
 refine iD rfl (R:=fun v W'=>W'=W.setRow p (gq cs.toList (k * aj.size α+l.off) (a.eval y).cells.toList).toArray) (.yi ?_ rfl) fun u W' hw=>?_
 ·simp [execOp,Instr.storeAt,Instr.sureAddr,cZ,a0]
 subst hw
 refine k' _ _ (s.store ar e3 ?_)
 have lp:cs.toList.length=cap * aj.size α:=by simpa using aa
 have pb:(gq cs.toList (k * aj.size α+l.off) (a.eval y).cells.toList).length=cs.toList.length:=by
  simp only [gq,List.length_append,List.length_take,List.length_drop,y5]; omega
 refine⟨_,rfl,by simpa [lp] using pb,by simpa [h5] using ad,aF,?_⟩
 have av:=aX.2 k aw
 have aW:=l.lA av a2.2
 have bB:=HW aX aw aW
 have r3:(cs.toList.take (xs.length * aj.size α)).length=xs.length * aj.size α:=by rw [List.length_take]; omega
 rw [Ni _ _ _ _ _ _ l.gI (by omega)] at bB
 have hlen:(h5 xs k (l.set (az xs k) v)).length=xs.length:=by simp [h5]
 rw [hlen,List.toList_toArray]
 have e:(gq cs.toList (k * aj.size α+l.off) (a.eval y).cells.toList).take (xs.length * aj.size α)=
  (cs.toList.take (xs.length * aj.size α)).take (k * aj.size α+l.off)++(a.eval y).cells.toList++(cs.toList.take (xs.length * aj.size α)).drop (k * aj.size α+l.off+aj.size γ):=by
  have ay:(cs.toList.take (k * aj.size α+l.off)).length=k * aj.size α+l.off:=by rw [List.length_take]; omega
  have aO:(cs.toList.take (k * aj.size α+l.off)++(a.eval y).cells.toList).length=k * aj.size α+l.off+aj.size γ:=by rw [List.length_append,ay,y5]
  rw [gq,y5,List.take_append,aO,List.take_of_length_le (by omega),List.take_take,Nat.min_eq_left (by omega),List.drop_take]
 rw [e,show h5 xs k (l.set (az xs k) v)=xs.set k (l.set xs[k] v) by rw [h5,e0 xs aw]]
 exact bB
def ib (key:Option Nat) (lo n cap size:Nat):Value:=match key with
 | some p=>.slice (some (if cap=lo then⟨p,0,none⟩ else⟨p,lo * size,none⟩)) n (cap - lo)
 | none=>.slice none 0 0
theorem x9 {key:Option Nat} {n cap size:Nat} :ib key 0 n cap size=aS key n cap:=by
 cases key <;> simp [ib,aS]
theorem yc {i T cap:Nat} {key:Option Nat} {α:Type} [aj α] {xs:List α} {e:TypeId} {lo ak:Option Operand} {m n:Nat} {Df Dg:Int} (hu:c.P.underlying t=some (.slice e)) (e6:bF c.P e α) (aq:bd c E L x (.eq (aS key xs.length cap)))
 (ar:L[i]? =some ⟨key,.row T xs cap⟩) (fW:vc c E L lo Df 0) (dD:vc c E L ak Dg xs.length) (hm:Df=m) (aR:Dg=n) (h:m≤n∧n≤xs.length):
 cf c E L ⟨d,.slice t x lo ak none,ty,pos,af,g⟩ (.eq (ib key m (n - m) cap (aj.size α))):= .pure fun a W s=>by
 subst hm; subst aR
 obtain⟨rW,nh⟩:=h
 obtain⟨gB,er,eX⟩:=e6.info
 have aa:a.eval x=_:=aq a W s
 have bm:=s.own _ (List.mem_of_getElem? ar)
 cases key with
 | none=>
   have h6:xs= []:=bm.1
   subst h6
   have r1:n=0:=by simpa using nh
   have g8:m=0:=by omega
   subst r1
   subst g8
   refine⟨.slice none 0 0,?_,rfl⟩
   have ar:(match lo.map a.eval with | some v=>Instr.sliceBound v 0 .sliceB | none=>pure 0:Sem Nat).run c.P W= .ok 0 W:=by
    cases fW with
    | none=>rfl
    | some ao=>exact px (Nat.le_refl _) (of_int.1 (ao a W s))
   have j8:(match ak.map a.eval,(none:Option Value) with | some v,some _=>Instr.sliceBound v 0 .slice3B | some v,none=>Instr.sliceBound v 0 .sliceAcap | none,none=>pure 0 | none,some _=>stuck "Slice: max without high" :Sem Nat).run c.P W= .ok 0 W:=by
    cases dD with
    | none=>rfl
    | some ao=>exact px (Nat.le_refl _) (of_int.1 (ao a W s))
   cases fW <;> cases dD
   all_goals
    simp only [aS,execOp,Instr.sliceAt,Instr.slice,Instr.sliceBounds,aa,Sem.run_bind,run_underlying hu,Result.andThen_ok,Option.map_none,Option.map_some,Option.isSome_none,Bool.false_eq_true,if_false,if_true,Sem.run_pure] at ar j8 ⊢
    try simp only [ar,j8,Result.andThen_ok,Go.sizeOf,typeInfo,Sem.run_bind,run_program,er,Sem.run_pure]
    try simp [er]
 | some p=>
   obtain⟨o,e3,cs,rfl,av,aW,bB,cn⟩:=bm
   refine⟨_,?_,rfl⟩
   simp only [ib]
   have ar:∀ v,v=Value.int .i64 m→ (Instr.sliceBound v n .sliceB).run c.P W= .ok m W:=fun v a2=>px rW a2
   have j8:∀ v,v=Value.int .i64 n→ (Instr.sliceBound v cap .sliceAcap).run c.P W= .ok n W:=fun v a2=>px (by omega) a2
   generalize eE:(n:Int)=Sd at dD
   generalize CE:(m:Int)=Se at fW
   generalize CF:(xs.length:Int)=Sf at dD
   generalize RD:(0:Int)=Sg at fW
   cases fW with
   | none=>
     have g8:m=0:=by omega
     cases dD with
     | none=>
       have nh:n=xs.length:=by omega
       subst nh
       subst g8
       simp [execOp,Instr.sliceAt,Instr.slice,Instr.sliceBounds,aa,aS,run_underlying hu,Go.sizeOf,typeInfo,er,eX,jE]
     | some cE=>
       subst eE
       subst g8
       simp [execOp,Instr.sliceAt,Instr.slice,Instr.sliceBounds,aa,aS,run_underlying hu,Go.sizeOf,typeInfo,er,eX,jE,j8 _ (of_int.1 (cE a W s))]
   | some ao=>
     subst CE
     cases dD with
     | none=>
       have nh:n=xs.length:=by omega
       subst nh
       simp [execOp,Instr.sliceAt,Instr.slice,Instr.sliceBounds,aa,aS,run_underlying hu,Go.sizeOf,typeInfo,er,eX,jE,ar _ (of_int.1 (ao a W s))]
       split <;> rfl
     | some cE=>
       subst eE
       simp [execOp,Instr.sliceAt,Instr.slice,Instr.sliceBounds,aa,aS,run_underlying hu,Go.sizeOf,typeInfo,er,eX,jE,ar _ (of_int.1 (ao a W s)),j8 _ (of_int.1 (cE a W s))]
       split <;> rfl
theorem bV.again {a:Act} {W:World} (s:bV c E L a W) {i:Nat} {key:Option Nat} {cp cp':dZ} (ar:L[i]? =some ⟨key,cp⟩) (h:∀ A W o,cp.holds A W o→cp'.holds A W o) (aR:cp.m4→cp'.m4):bV c E (L.set i ⟨key,cp'⟩) a W:=by
 have hQ:aV (L.set i ⟨key,cp'⟩)=aV L:=yq (e:=⟨key,cp⟩) (cp:=cp') ar
 exact
 {defers:=s.defers
  size:=s.size
  env:=fun t τ ao=>by rw [hQ]; exact s.env t τ ao
  dQ:=s.dQ
  own:=fun e he=>by
   rw [hQ]
   obtain⟨j,aE⟩:=List.mem_iff_getElem?.1 he
   rw [List.getElem?_set] at aE
   split at aE
   ·split at aE
    ·simp only [Option.some.injEq] at aE
     subst aE
     have bm:=s.own _ (List.mem_of_getElem? ar)
     cases key with
     | none=>exact aR bm
     | some p=>obtain⟨o,aa,ad⟩:=bm; exact⟨o,aa,h _ _ _ ad⟩
    cases aE
   exact s.own e (List.mem_of_getElem? aE)
  nodup:=by rw [hQ]; exact s.nodup
  lt:=by rw [hQ]; exact s.lt
  gl:=by rw [hQ]; exact s.gl
  fg:=by rw [hQ]; exact s.fg }
theorem ED {T cap n:Nat} {α:Type} [aj α] {xs:List α} (aR:n≤xs.length) {A W o} (h:(dZ.row T xs cap).holds A W o):(dZ.row T (xs.take n) cap).holds A W o:=by
 obtain⟨cs,rfl,aa,ad,aF,aX⟩:=h
 have ao:(xs.take n).length=n:=by rw [List.length_take]; omega
 have hle:n * aj.size α≤xs.length * aj.size α:=Nat.mul_le_mul_right _ aR
 have FV:xs.length * aj.size α≤cap * aj.size α:=Nat.mul_le_mul_right _ ad
 refine⟨cs,rfl,aa,by omega,aF,?_⟩
 rw [ao]
 have lp:cs.toList.length=cap * aj.size α:=by simpa using aa
 refine⟨by rw [List.length_take,ao]; omega,fun i ak=>?_⟩
 have g7:i<n:=by omega
 have eE:=yr (s:=aj.size α) g7
 have:=aX.2 i (by omega)
 rw [List.drop_take,List.take_take,Nat.min_eq_left (by omega)] at this ⊢
 rw [List.getElem_take]
 exact this
theorem ai.Y7 {l:List Oper} {i T cap n:Nat} {key:Option Nat} {α:Type} [aj α] {xs r:List α} (bf:Nat) (ao:look E bf=some (.eq (ib key 0 (n - 0) cap (aj.size α)))) (ar:L[i]? =some ⟨key,.row T xs cap⟩) (aR:n≤xs.length) (aQ:xs.take n=r)
 (k:ai c ops Q l ((bf,.eq (aS key r.length cap))::E) (L.set i ⟨key,.row T r cap⟩)):ai c ops Q l E L:=fun a W s=>by
 subst aQ
 have hlen:(xs.take n).length=n:=by rw [List.length_take]; omega
 have cl:=s.again ar (fun _ _ _ h=>ED aR h) (cp':= .row T (xs.take n) cap) (fun⟨aa,ad⟩=>⟨by rw [aa]; simp,ad⟩)
 refine k a W { cl with env:=fun t τ eU=>?_ }
 simp only [look] at eU
 by_cases e:Nat.beq bf t=true
 ·rw [e] at eU
  simp only [cond_true,Option.some.injEq] at eU
  subst eU
  have:=eD.1 e
  subst this
  obtain⟨v,aa,ad⟩:=s.env bf _ ao
  refine⟨v,aa,?_⟩
  have kn:v=_:=ad
  rw [Nat.sub_zero,x9] at kn
  rw [hlen]
  exact kn
 simp only [Bool.not_eq_true] at e
 rw [e] at eU
 exact cl.env t τ eU
end
def mZ {α:Type} [Inhabited α] (xs:List α) (lo n:Nat):List α:=xs.take lo++List.replicate n default++xs.drop (lo+n)
theorem Nm {α:Type} [aj α] {A W} {cs ds:List Value} {xs ys:List α} {lo:Nat} (h:g4 A W cs xs) (dc:g4 A W ds ys) (aw:lo+ys.length≤xs.length):
 g4 A W (cs.take (lo * aj.size α)++ds++cs.drop (lo * aj.size α+ds.length)) (xs.take lo++ys++xs.drop (lo+ys.length)):=by
 have ao:=h.1
 have hle:lo * aj.size α≤xs.length * aj.size α:=Nat.mul_le_mul_right _ (by omega)
 have t1:g4 A W (cs.take (lo * aj.size α)) (xs.take lo):=by
  have e:(xs.take lo).length=lo:=by rw [List.length_take]; omega
  refine⟨by rw [List.length_take,e]; omega,fun i ak=>?_⟩
  have g7:i<lo:=by omega
  have:=h.2 i (by omega)
  have eE:=yr (s:=aj.size α) g7
  rw [List.drop_take,List.take_take,Nat.min_eq_left (by omega),List.getElem_take]
  exact this
 have t3:g4 A W (cs.drop (lo * aj.size α+ds.length)) (xs.drop (lo+ys.length)):=by
  have e:lo * aj.size α+ds.length=(lo+ys.length) * aj.size α:=by rw [dc.1,Nat.add_mul]
  rw [e]
  refine⟨by rw [List.length_drop,List.length_drop,ao,← Nat.sub_mul],fun i ak=>?_⟩
  rw [List.length_drop] at ak
  have:=h.2 (lo+ys.length+i) (by omega)
  rw [List.drop_drop,← Nat.add_mul,List.getElem_drop]
  exact this
 exact tZ (tZ t1 dc) t3
section
variable {c:dp} {E:List (Nat×I)} {L:List aT} {ops:Array Oper} {Q:Exit→Act→World→Prop}
variable {d:Option Tmp} {ty:TypeId} {pos:String} {af:Array Edge} {g:Option (Nat×Bool)} {x y:Operand} {t t2:TypeId}
theorem ai.clear {rest:List Oper} {i e T cap lo n:Nat} {key:Option Nat} {α:Type} [aj α] [Inhabited α] {xs r:List α} (hu:c.P.underlying t=some (.slice e)) (e6:bF c.P e α) (g9:cP c.P e (default:α)) (eX:Nat.beq (aj.size α) 0=false)
 (aq:bd c E L x (.eq (ib key lo n cap (aj.size α)))) (ar:L[i]? =some ⟨key,.row T xs cap⟩) (aR:lo+n≤xs.length) (aQ:mZ xs lo n=r)
 (k:ai c ops Q rest E (L.set i ⟨key,.row T r cap⟩)):ai c ops Q (⟨none,.call ⟨.builtin .clear,#[x],#[t]⟩,ty,pos,af,none⟩::rest) E L:=fun a W s=>by
 subst aQ
 have aa:a.eval x=_:=aq a W s
 have bm:=s.own _ (List.mem_of_getElem? ar)
 have l8:∀ cp,L.set i ⟨key,cp⟩=L.set i ⟨key,cp⟩:=fun _=>rfl
 by_cases bT:n=0∨key=none
 ·have h6:mZ xs lo n=xs:=by
   rcases bT with bT | bT
   ·subst bT; simp [mZ]
   subst bT
   have:xs= []:=bm.1
   subst this
   have:n=0:=by simp at aR; omega
   subst this; simp [mZ]
  have kl:(execOp a.eval ⟨none,.call ⟨.builtin .clear,#[x],#[t]⟩,ty,pos,af,none⟩).run c.P W= .ok (.value (.tuple #[])) W:=by
   rcases bT with bT | bT
   ·subst bT
    cases key <;> simp [execOp,resolve,invoke,builtin,Builtin.clear_,aa,ib,run_underlying hu]
   subst bT
   simp [execOp,resolve,invoke,builtin,Builtin.clear_,aa,ib,run_underlying hu]
  refine iD rfl (R:=fun v W'=>W'=W) (.l1 kl rfl) fun v W' hw=>?_
  subst hw
  rw [h6] at k
  have:L.set i ⟨key,.row T xs cap⟩=L:=by
   apply List.ext_getElem?
   intro j
   rw [List.getElem?_set]
   split
   ·rename_i hR; subst hR
    have:=(List.getElem?_eq_some_iff.1 ar).1
    rw [if_pos this,ar]
   rfl
  rw [this] at k
  exact k _ _ s
 have r1:0<n:=by
  rcases Nat.eq_zero_or_pos n with h | h
  ·exact absurd (.inl h) bT
  exact h
 obtain⟨p,cs,rfl,e3,av,aW,bB,cn⟩:=s.rowAt ar (by omega)
 obtain⟨gB,eF,er,df,KD⟩:=g9.zero
 have Gm:=KD (aV L++c.ca) W
 have acJ:eF.cells.toList.length=aj.size α:=aj.len Gm.2
 have j6:aj.size α≠0:=fun h=>by rw [h] at eX; cases eX
 have CI:=AN Gm n j6
 have w5:eF.cells.size=aj.size α:=by simpa using acJ
 have KE:Builtin.zeroCells eF.cells n=(Array.range (n * aj.size α)).map (eF.cells[· % eF.cells.size]!):=by rw [Builtin.zeroCells,w5]
 rw [← KE] at CI
 generalize lr:(Builtin.zeroCells eF.cells n).toList=D at CI
 have aev:D.length=n * aj.size α:=by rw [CI.1]; simp
 have fW:cap≠lo:=by omega
 have hle:(lo+n) * aj.size α≤cap * aj.size α:=Nat.mul_le_mul_right _ (by omega)
 rw [Nat.add_mul] at hle
 have kH:=run_storeCells_at (P:=c.P) p (lo * aj.size α) _ D 0 cs W e3 (by omega) CI.one
 have kl:(execOp a.eval ⟨none,.call ⟨.builtin .clear,#[x],#[t]⟩,ty,pos,af,none⟩).run c.P W= .ok (.value (.tuple #[])) (W.setRow p (gq cs.toList (lo * aj.size α) D).toArray):=by
  obtain⟨m,rfl⟩:∃ m,n=m+1:=⟨n - 1,by omega⟩
  simp only [Nat.add_zero] at kH
  simp [execOp,resolve,invoke,builtin,Builtin.clear_,aa,ib,run_underlying hu,fW,zeroValue,typeInfo,run_program,er,df,lr,kH,gq]
 refine iD rfl (R:=fun v W'=>W'=W.setRow p (gq cs.toList (lo * aj.size α) D).toArray) (.l1 kl rfl) fun v W' hw=>?_
 subst hw
 refine k _ _ (s.store ar e3 ?_)
 have lp:cs.toList.length=cap * aj.size α:=by simpa using av
 have hlen:(mZ xs lo n).length=xs.length:=by simp [mZ]; omega
 have r3:(cs.toList.take (xs.length * aj.size α)).length=xs.length * aj.size α:=by
  rw [List.length_take]
  have:xs.length * aj.size α≤cap * aj.size α:=Nat.mul_le_mul_right _ aW
  omega
 have abV:(lo+n) * aj.size α≤xs.length * aj.size α:=Nat.mul_le_mul_right _ aR
 rw [Nat.add_mul] at abV
 have aek:xs.length * aj.size α≤cap * aj.size α:=Nat.mul_le_mul_right _ aW
 refine⟨_,rfl,?_,by rw [hlen]; exact aW,bB,?_⟩
 ·simp only [List.size_toArray,gq,List.length_append,List.length_take,List.length_drop]; omega
 rw [hlen,List.toList_toArray]
 have gy:=Nm (lo:=lo) cn CI (by simpa using aR)
 have e:(gq cs.toList (lo * aj.size α) D).take (xs.length * aj.size α)=(cs.toList.take (xs.length * aj.size α)).take (lo * aj.size α)++D++(cs.toList.take (xs.length * aj.size α)).drop (lo * aj.size α+D.length):=by
  have ay:(cs.toList.take (lo * aj.size α)).length=lo * aj.size α:=by rw [List.length_take]; omega
  have aO:(cs.toList.take (lo * aj.size α)++D).length=lo * aj.size α+D.length:=by rw [List.length_append,ay]
  rw [gq,List.take_append,aO,List.take_of_length_le (by omega),List.take_take,Nat.min_eq_left (by omega),List.drop_take]
 rw [e]
 simpa [mZ] using gy
theorem bV.share {a:Act} {W:World} (s:bV c E L a W) {i gK p:Nat} {α:Type} [aj α] {z:α} (ao:look E gK=some (.eq (.pointer (some ⟨p,0,none⟩)))) (ar:L[i]? =some ⟨some p,.var z⟩):bV c ((gK,.ptr z)::E) (L.set i ⟨none,.dead⟩) a W:=by
 have aw:=s.kill i
 refine { aw with env:=fun t τ eU=>?_ }
 simp only [look] at eU
 by_cases e:Nat.beq gK t=true
 ·rw [e] at eU
  simp only [cond_true,Option.some.injEq] at eU
  subst eU
  have:=eD.1 e
  subst this
  obtain⟨v,aa,ad⟩:=s.env gK _ ao
  have kn:v=_:=ad
  subst kn
  obtain⟨o,e3,cs,T,rfl,aQ⟩:=s.own _ (List.mem_of_getElem? ar)
  have hlen:cs.toList.length=aj.size α:=aj.len aQ
  refine⟨_,aa,p,0,cs,T,(0,0),rfl,s.AX ar,e3,by simp at hlen; omega,?_⟩
  rw [List.drop_zero,← hlen,List.take_length]
  have lh:=xS (L:=L) (i:=i) (cp:= .dead)
  exact aj.mono (.drop fun k hm=>by
   rcases List.mem_append.1 hm with hm | hm
   ·exact List.mem_append.2 (.inl (lh.subset hm))
   exact List.mem_append.2 (.inr hm)) aQ
 simp only [Bool.not_eq_true] at e
 rw [e] at eU
 exact aw.env t τ eU
theorem ai.share {l:List Oper} {p:Nat} {α:Type} [aj α] {z:α} (i gK:Nat) (ao:look E gK=some (.eq (.pointer (some ⟨p,0,none⟩)))) (ar:L[i]? =some ⟨some p,.var z⟩) (k:ai c ops Q l ((gK,.ptr z)::E) (L.set i ⟨none,.dead⟩)):ai c ops Q l E L:=
 fun a W s=>k a W (s.share ao ar)
theorem vW {α β:Type} [aj α] [aj β] {F:α→Option β} {f:FuncId} {xs:List Operand} {τs:List I} (eR:bM c.P f) (aq:iq c E L xs τs) (h:∀ x r,F x=some r→bw c.P f (.of x::τs) (.of r)):
 cf c E L ⟨d,.makeFunc (.func f) #[] xs.toArray,ty,pos,af,g⟩ (.qA c.P F):= .pure fun a W s=>by
 have cE:=aq.holds a W s
 refine⟨.func (.func f) #[] (xs.map a.eval).toArray,by simp [execOp,Instr.makeFunc],f,_,_,rfl,eR,fun dh W' e gA x r pn nL a2=>?_⟩
 simpa using h x r nL dh W' (pn::xs.map a.eval) gA (.cons a2 (cE.mono e))
def I.Flat (τ:I):Prop:= ∀ A W dh W' v,τ.holds A W v→τ.holds dh W' v
theorem Er {b:Bool} :(I.of b).Flat:=fun _ _ _ _ _ h=>h
theorem ud {b:Int} :(I.of b).Flat:=fun _ _ _ _ _ h=>h
theorem cf.QY {o:Oper} {τ:I} {T cap:Nat} {key:Option Nat} {α:Type} [aj α] {xs:List α} (i s:Nat) (ao:look E s=some (.eq (aS key xs.length cap))) (ar:L[i]? =some ⟨key,.row T xs cap⟩) (a7:τ.Flat)
 (h:cf c ((s,.of xs)::E) (L.set i ⟨none,.dead⟩) o τ):cf c E L o τ:=fun a W st=>by
 have:=h a W (st.freeze ao ar)
 unfold ht at this ⊢
 exact Oper.wp_mono (fun gz W' ⟨v,aa,ad,aF⟩=>⟨v,aa,ad,a7 _ _ _ _ _ aF⟩) this
def I.Rj {α:Type} (xs:List α):I where
 holds _ _ v:= ∃ b:Bool,v= .bool b∧ (b=true→xs= [])
 mono _ h:=h
theorem M3 {P:Program} {e:TypeId} (W:World) (d:Nat) {t:TypeId} (a:Option Addr) (l cp:Nat) (h:P.underlying t=some (.slice e)):(Op.equalIn (d+1) t (.slice a l cp) (.slice none 0 0)).run P W= .ok a.isNone W:=by
 cases a <;> simp [Op.equalIn,run_underlying h]
theorem I3 {α:Type} [aj α] {xs:List α} {e:TypeId} (hu:c.P.underlying t=some (.slice e)) (aq:bd c E L x (.of xs)):cf c E L ⟨d,.binOp .eql t x (.const (.slice none 0 0)) t2,ty,pos,af,g⟩ (.Rj xs):= .pure fun a W s=>by
 have aR:a.eval (.const (.slice none 0 0))= .slice none 0 0:=rfl
 rcases nu.1 (aq a W s) with⟨aa,rfl⟩ | ⟨b,off,cap,cur,T,hA,aa,ad⟩
 ·exact⟨.bool true,by
   simp only [execOp,eqGuard,binOp,aa,aR,Op.equal,Op.maxDepth]
   simp [M3 W 9999 none 0 0 hu],true,rfl,fun _=>rfl⟩
 exact⟨.bool false,by
  simp only [execOp,eqGuard,binOp,aa,aR,Op.equal,Op.maxDepth]
  simp [M3 W 9999 (some ⟨b,off,none⟩) xs.length cap hu],false,rfl,fun h=>by cases h⟩
theorem ag.I4 {α:Type} {y z:Code} {xs:List α} (ao:bd c E L x (.Rj xs)) (b1:xs= []→ag c Q y E L) (a7:ag c Q z E L):ag c Q (.cond x y z) E L:=fun a W s=>by
 obtain⟨b,aa,ad⟩:=ao a W s
 exact wpIn_cond_split aa (fun h=>b1 (ad h) a W s) (fun _=>a7 a W s)
end
def B4 (n:Nat) (lo ak:Int):Option (Nat×Nat):=if 0≤lo∧lo≤ak∧ak≤n then some (lo.toNat,ak.toNat) else none
theorem x8 {n:Nat} {lo ak:Int} {y:Nat×Nat} (h:B4 n lo ak=some y):lo=y.1∧ak=y.2∧y.1≤y.2∧y.2≤n:=by
 unfold B4 at h
 split at h
 ·rename_i al
  simp only [Option.some.injEq] at h
  subst h
  simp only
  omega
 cases h
def dj (c:dp) (ops:Array Oper) (Q:Exit→Act→World→Prop) (f:Nat) (a9:Array Bool) (E:List (Nat×I)) (L:List aT):Prop:=
 ∀ a W,bV c E L a W→wpAnyIn c.F 9 c.P .any ops Q f a9 a W
def tF (K:Act→World→Prop) (Q:Exit→Act→World→Prop):Exit→Act→World→Prop
 | .normal,a,W=>K a W
 | x,a,W=>Q x a W
def Rk:Nat→Nat→List Bool
 | 0,_=>[]
 | n+1,k=>Nat.beq (k % 2) 1::Rk n (k / 2)
def lg (n k:Nat):Array Bool:=Array.mk (Rk n k)
section
variable {c:dp} {E:List (Nat×I)} {L:List aT} {ops:Array Oper} {Q:Exit→Act→World→Prop}
theorem Oper.VS {F:Fence} {n:Nat} {P:Program} {o:Oper} {a:Act} {K:Act→World→Prop} {r:Result Next} (h:o.uponIn F n P a K (tF K Q) r):o.uponIn F n P a K Q r:=by
 cases r with
 | ok m q6=>
   cases m <;> simp only [Oper.uponIn] at h ⊢ <;>
    first
     | exact h
     | exact⟨h.1,CallsIn.mono h.2 (fun e uZ he=>by cases e <;> exact he)⟩
     | exact⟨h.1,RoundIn.mono h.2 (fun e uZ he=>by cases e <;> exact he)⟩
 | halt x q6=>cases x <;> simp only [Oper.uponIn] at h ⊢ <;> exact h
theorem Ax {i:Nat} {o:Oper} {K:Act→World→Prop} {a:Act} {W:World} (ak:ops[i]? =some o) (h:c.qI ops (tF K Q) [o] a W):wpOpIn c.F 9 c.P ops Q i K a W:=by
 unfold wpOpIn
 simp only [ak]
 simp only [dp.qI,wpListIn] at h
 split
 ·rename_i hw
  rw [if_pos hw] at h
  exact⟨h.1,Oper.VS h.2⟩
 rename_i hw
 rw [if_neg hw] at h
 exact h
def BJ (c:dp) (ops:Array Oper) (Q:Exit→Act→World→Prop) (f:Nat) (a9:Array Bool) (E:List (Nat×I)) (L:List aT):List Nat→Prop
 | []=>True
 | i::r=>(∃ o,ops[i]? =some o∧ai c ops (tF (wpAnyIn c.F 9 c.P .any ops Q f (a9.setIfInBounds i true)) Q) [o] E L)∧BJ c ops Q f a9 E L r
theorem BJ.get {f:Nat} {a9:Array Bool} :∀ {zi:List Nat},BJ c ops Q f a9 E L zi→ ∀ i∈zi,∃ o,ops[i]? =some o∧ai c ops (tF (wpAnyIn c.F 9 c.P .any ops Q f (a9.setIfInBounds i true)) Q) [o] E L
 | _::_,h,i,ak=>by
   rcases List.mem_cons.1 ak with rfl | ak
   ·exact h.1
   exact BJ.get h.2 i ak
theorem dj.step {f:Nat} {a9:Array Bool} (zi:List Nat) (aQ:Region.ready .any ops a9=zi) (dm:zi.isEmpty=false) (h:BJ c ops Q f a9 E L zi):dj c ops Q (f+1) a9 E L:=fun a W s=>
 ⟨fun bT=>(by rw [← aQ,bT] at dm; exact absurd dm (by simp)),fun i ak=>(by
  rw [aQ] at ak
  obtain⟨o,aa,ad⟩:=h.get i ak
  exact Ax aa (ad a W s))⟩
theorem dj.le {f:Nat} {a9:Array Bool} {E':List (Nat×I)} (h:hk E E') (k:dj c ops Q f a9 E' L):dj c ops Q f a9 E L:=fun a W s=>k a W (s.less h.look)
theorem ae.any {f:Nat} {a9 A9:Array Bool} (ao:a9=A9) (k:dj c ops Q f A9 E L):ae c (tF (wpAnyIn c.F 9 c.P .any ops Q f a9) Q) .normal E L:=fun a W s=>by
 subst ao
 exact k a W s
theorem dj.cut {γ:Type} (zj:Nat) (A9:Array Bool) (E':γ→List (Nat×I)) (ax:γ→List aT) {f:Nat} {a9:Array Bool} (aa:∀ g,dj c ops Q zj A9 (E' g) (ax g))
 (ad:(∀ g,dj c ops Q zj A9 (E' g) (ax g))→dj c ops Q f a9 E L):dj c ops Q f a9 E L:=ad aa
theorem ag.ZF {pe:Nat} {l:List Oper} (hm:c.P.follows .mixedOrders=true) (n:Nat) (ls:Array Bool) (aR:l.length=n) (CJ:Array.replicate n false=ls) (h:dj c l.toArray Q n ls E L):ag c Q (.region pe l.toArray true) E L:=fun a W s=>by
 subst aR CJ
 refine wpIn_region_any hm ?_
 have:=h a W.drew (s.world (Fr.drew W))
 simpa using this
end
section
variable {c:dp} {E:List (Nat×I)} {L:List aT} {ops:Array Oper} {Q:Exit→Act→World→Prop}
variable {d:Option Tmp} {ty:TypeId} {pos:String} {af:Array Edge} {g:Option (Nat×Bool)} {x y:Operand} {t t2:TypeId}
theorem ai.pN {α:Type} [aj α] {rest:List Oper} {bf e n:Nat} {z:α} {r:List α} {bz:List (Nat×Operand)} (hu:c.P.underlying t=some (.slice e)) (e6:bF c.P e α) (g9:cP c.P e z) (hs:Nat.beq (aj.size α) 0=false) (aR:Nat.ble (n * aj.size α) 16777216=true)
 (a7:ob c E L (List.replicate n z) bz r) (k4:Nat.blt bf c.n=true) (k:∀ p,ai c ops Q rest ((bf,.eq (aS p r.length n))::E) (⟨p,.row e r n⟩::L)):
 ai c ops Q (⟨some bf,.buildSlice t n bz.toArray,ty,pos,af,none⟩::rest) E L:=fun a W s=>by
 obtain⟨gB,eF,er,df,r2⟩:=g9.zero
 have nz:gB.size=aj.size α:=by
  obtain⟨i2,aa,ad⟩:=e6.info
  rw [er] at aa; cases aa; exact ad
 have fl:aj.size α≠0:=fun h=>by rw [h] at hs; cases hs
 have qN:=AN (r2 (aV L++c.ca) W) n fl
 obtain⟨eh,aF,aX,a0⟩:=a7.run a W s _ qN
 have hlen:r.length=n:=by rw [a0]; simp
 have hm:(bz.toArray.map fun(x:Nat×Operand)=>(x.1,a.eval x.2)).toList=bz.map fun(i,x)=>(i,a.eval x):=by simp
 have abQ:=Nat.le_of_ble_eq_true aR
 refine iD rfl (R:=fun v W'=>v= .slice (some ⟨W.heap.size,0,none⟩) n n∧W'=W.alloc (.cells eh e)) (.l1 (v:= .slice (some ⟨W.heap.size,0,none⟩) n n) (W':=W.alloc (.cells eh e)) ?_ ⟨rfl,rfl⟩) fun v W' ⟨aa,ad⟩=>?_
 ·simp only [execOp,Instr.buildSlice,Sem.run_bind,run_underlying hu,Result.andThen_ok,Go.sizeOf,typeInfo,run_program,er,Sem.run_pure,nz]
  rw [if_neg (by omega)]
  try simp only [Sem.run_pure,Result.andThen_ok,Sem.run_bind]
  by_cases bT:n * aj.size α=0
  ·have r1:n=0:=by
    rcases Nat.mul_eq_zero.1 bT with h | h
    ·exact h
    exact absurd h fl
   subst r1
   simp only [Nat.zero_mul,if_true,Sem.run_pure,Result.andThen_ok]
   try simp only [Nat.zero_mul] at aF
   have kJ:((Array.range 0).map (fun x=>(#[]:Array Value)[x % (#[]:Array Value).size]!))=((Array.range 0).map (eF.cells[· % eF.cells.size]!)):=by simp
   simp only [pure_bind]
   rw [kJ,hm,aF]
   simp [newRow]
  simp only [bT,if_false,Sem.run_bind,zeroValue,typeInfo,run_program,Result.andThen_ok,er,df,Sem.run_pure]
  rw [hm,aF]
  simp [newRow]
 subst aa ad
 have uI:n≤maxLen:=by
  have:n * 1≤n * aj.size α:=Nat.mul_le_mul_left _ (by omega)
  have:maxLen=9223372036854775807:=rfl
  omega
 have eX:eh.size=n * aj.size α:=by have:=aX.1; rw [hlen] at this; simpa using this
 have cl:=s.alloc (o:= .cells eh e) (cp:= .row e r n) ⟨eh,rfl,eX,by omega,uI,by
  have bn:=aX.1
  rw [← bn,List.take_length]
  exact aX⟩
 refine k (some W.heap.size) _ _ (cl.put (τ:= .eq (aS (some W.heap.size) r.length n)) (by simpa using k4) ?_)
 show _=_
 rw [hlen]; rfl
theorem ai.l3 {l:List Oper} {key:Option Nat} {n m cap:Nat} (gK:Nat) (ao:look E gK=some (.eq (aS key n cap))) (aR:n=m) (k:ai c ops Q l ((gK,.eq (aS key m cap))::E) L):ai c ops Q l E L:=fun a W s=>by
 subst aR
 refine k a W (s.less fun t τ h=>?_)
 simp only [look] at h
 by_cases e:Nat.beq gK t=true
 ·rw [e] at h
  simp only [cond_true] at h
  have:=eD.1 e
  subst this
  exact⟨τ,by rw [ao,h],fun _ _ _ h=>h⟩
 simp only [Bool.not_eq_true] at e
 rw [e] at h
 exact⟨τ,h,fun _ _ _ h=>h⟩
end
theorem nt {α:Type} {xs r:List α} {k:Nat} {v:α} (h:h5 xs k v=r):xs.length=r.length:=by rw [← h]; simp [h5]
theorem MZ {α:Type} [Inhabited α] {xs r:List α} {lo n:Nat} (aR:lo+n≤xs.length) (h:mZ xs lo n=r):xs.length=r.length:=by rw [← h]; simp [mZ]; omega
theorem HI {α:Type} {b:Nat} {r:List α} (h:((fV b [] ([]:List α)).bind fun y=>some y)=some r):r= []:=by
 obtain⟨y,aa,ad⟩:=bind_some h
 obtain⟨_,_,aF⟩:=Nj aa
 rw [aF] at ad
 exact(aH ad).symm
end Gv
