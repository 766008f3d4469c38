/-
  The library of the decompiler, as far as it is needed here. Conditions: none.
-/
import Derived.WalkKit
import Derived.StillTail
import Derived.OwnWalkIn
import Derived.RangeFuncNested
import Derived.RangeFuncLeaves
import Derived.RangeFuncCalls
import Derived.ChangeSame
import Derived.OpenShut
import Derived.Carry
import Derived.DataReads
set_option linter.unusedVariables false
set_option linter.unusedSimpArgs false
namespace Gv
open Go
theorem CM (w:World)(o:Obj)(i:Nat)(h:i<w.heap.size):(w.alloc o).heap[i]? =w.heap[i]? :=by
 show(w.heap.push o)[i]? =w.heap[i]?;rw [Array.getElem?_push,if_neg (Nat.ne_of_lt h)]
theorem KF (w:World)(o:Obj):(w.alloc o).heap[w.heap.size]? =some o:=by
 show(w.heap.push o)[w.heap.size]? =some o;simp
structure Fr (X:List Nat)(W W':World):Prop where
 os:W'.os=W.os
 tape:W'.tape=W.tape
 output:W'.output=W.output
 size:W.heap.size≤W'.heap.size
 block:∀ k,k<W.heap.size→k ∉ X→W'.heap[k]? =W.heap[k]?
theorem Fr.refl (X:List Nat)(W:World):Fr X W W:=⟨rfl,rfl,rfl,Nat.le_refl _,fun _ _ _=>rfl⟩
theorem Fr.trans {X:List Nat}{A B C:World}(h:Fr X A B)(k:Fr X B C):Fr X A C:=
 ⟨k.os.trans h.os,k.tape.trans h.tape,k.output.trans h.output,Nat.le_trans h.size k.size,
   fun i au ar=>(k.block i (Nat.lt_of_lt_of_le au h.size) ar).trans (h.block i au ar)⟩
theorem Fr.weaken {X Y:List Nat}{A B:World}(h:Fr X A B)(s:∀ k∈X,k∈Y):Fr Y A B:=
 ⟨h.os,h.tape,h.output,h.size,fun i au ar=>h.block i au fun hm=>ar (s _ hm)⟩
theorem Fr.nil {X:List Nat}{A B:World}(h:Fr [] A B):Fr X A B:=h.weaken (by simp)
theorem Fr.only {X Y:List Nat}{A B:World}(h:Fr X A B)(s:∀ k∈X,k<A.heap.size→k∈Y):Fr Y A B:=
 ⟨h.os,h.tape,h.output,h.size,fun i au ar=>h.block i au fun hm=>ar (s _ hm au)⟩
theorem Fr.alloc {X:List Nat}(W:World)(o:Obj):Fr X W (W.alloc o):=
 ⟨rfl,rfl,rfl,by simp,fun k aw _=>CM W o k aw⟩
theorem Fr.drew {X:List Nat}(W:World):Fr X W W.drew:=⟨rfl,rfl,rfl,Nat.le_refl _,fun _ _ _=>rfl⟩
theorem Fr.setRow {X:List Nat}(W:World)(g:Nat)(cs:Array Value)(h:g∈X):Fr X W (W.setRow g cs):=
 ⟨rfl,rfl,rfl,by simp,fun k _ ar=>setRow_other W g k cs (fun e=>ar (e ▸ h))⟩
structure Ext (A:List Nat)(W:World)(dy:List Nat)(W':World):Prop where
 size:W.heap.size≤W'.heap.size
 block:∀ k,k<W.heap.size→k ∉ A→W'.heap[k]? =W.heap[k]?
 new:∀ k∈dy,k<W.heap.size→k∈A
theorem Ext.refl (A:List Nat)(W:World):Ext A W A W:=⟨Nat.le_refl _,fun _ _ _=>rfl,fun _ h _=>h⟩
theorem Ext.trans {A B C:List Nat}{U V W:World}(h:Ext A U B V)(k:Ext B V C W):Ext A U C W:=
 ⟨Nat.le_trans h.size k.size,
  fun i au bb=>(k.block i (Nat.lt_of_lt_of_le au h.size) (fun hb=>bb (h.new i hb au))).trans (h.block i au bb),
  fun i aj au=>h.new i (k.new i aj (Nat.lt_of_lt_of_le au h.size)) au⟩
theorem Ext.ac0 {A X:List Nat}{W W':World}(h:Fr X W W')(s:∀ k∈X,k∈A):Ext A W A W':=
 ⟨h.size,fun k aw bb=>h.block k aw fun ar=>bb (s k ar),fun _ h _=>h⟩
theorem Ext.ej {A:List Nat}{W W':World}(h:Fr [] W W'):Ext A W A W':= .ac0 h (by simp)
theorem Ext.drop {A dy:List Nat}{W:World}(s:∀ k∈dy,k∈A):Ext A W dy W:=⟨Nat.le_refl _,fun _ _ _=>rfl,fun k h _=>s k h⟩
structure I where
 holds:List Nat→World→Value→Prop
 mono:∀ {A W dy W' v},Ext A W dy W'→holds A W v→holds dy W' v
class ak (α:Type) where
 size:Nat
 agg:Bool
 rep:List Nat→World→List Value→α→Prop
 len:∀ {A W cs x},rep A W cs x→cs.length=size
 one:∀ {A W cs x},rep A W cs x→ ∀ v∈cs,v.oneCell'=true
 flat:agg=false→size=1
 mono:∀ {A W dy W' cs x},Ext A W dy W'→rep A W cs x→rep dy W' cs x
def shaped (b:Bool)(v:Value):Prop:=if b=true then ∃ cs,v= .agg cs else v.oneCell'=true
theorem px {v:Value}(h:v.oneCell'=true):v.cells= #[v]:=by cases v <;> first | rfl | simp [Value.oneCell'] at h
def I.of {α:Type}[ak α](x:α):I where
 holds A W v:=shaped (ak.agg α) v∧ak.rep A W v.cells.toList x
 mono e h:=⟨h.1,ak.mono e h.2⟩
def I.eq (u:Value):I where
 holds _ _ v:=v=u
 mono _ h:=h
def I.cond (c:Prop)(τ:I):I where
 holds A W v:=(c→τ.holds A W v)∧ (¬ c→v=undef)
 mono e h:=⟨fun aj=>τ.mono e (h.1 aj),h.2⟩
def I.any:I where
 holds _ _ _:=True
 mono _ h:=h
inductive hk (A:List Nat)(W:World):List I→List Value→Prop
 | nil:hk A W [] []
 | cons {τ v τs vs} :τ.holds A W v→hk A W τs vs→hk A W (τ::τs) (v::vs)
theorem hk.mono {A W dy W'}(e:Ext A W dy W'):∀ {τs vs},hk A W τs vs→hk dy W' τs vs
 | _,_,.nil=>.nil
 | _,_,.cons h r=>.cons (I.mono _ e h) (r.mono e)
theorem hk.length {A W} :∀ {τs vs},hk A W τs vs→vs.length=τs.length
 | _,_,.nil=>rfl
 | _,_,.cons _ r=>by simp [r.length]
def I.dZ (τs:List I):I where
 holds A W v:= ∃ vs:Array Value,v= .tuple vs∧hk A W τs vs.toList
 mono e h:=let⟨vs,a6,cA⟩:=h; ⟨vs,a6,cA.mono e⟩
def I.ptr {α:Type}[ak α](x:α):I where
 holds A W v:= ∃ b off cur T hL,v= .pointer (some ⟨b,off,none⟩)∧b ∉ A∧W.heap[b]? =some (.cells cur T hL)∧off+ak.size α≤cur.size∧ak.rep A W ((cur.toList.drop off).take (ak.size α)) x
 mono e h:=by
  obtain⟨b,off,cur,T,hL,rfl,hb,cA,hs,aO⟩:=h;have cf:b<_:=(Array.getElem?_eq_some_iff.1 cA).1;exact⟨b,off,cur,T,hL,rfl,fun hm=>hb (e.new b hm cf),by rw [e.block b cf hb];exact cA,hs,ak.mono e aO⟩
structure eg where
 holds:List Nat→World→Obj→Prop
 nL:Prop
 mono:∀ {A W dy W' o},Ext A W dy W'→holds A W o→holds dy W' o
def eg.var {α:Type}[ak α](x:α):eg where
 holds A W o:= ∃ cs T,o= .cells cs T (0,0)∧ak.rep A W cs.toList x
 nL:=False
 mono e h:=let⟨cs,T,bg,aO⟩:=h; ⟨cs,T,bg,ak.mono e aO⟩
def hr {α:Type}[ak α](A:List Nat)(W:World)(cs:List Value)(xs:List α):Prop:=
 cs.length=xs.length * ak.size α∧ ∀ i (h:i<xs.length),ak.rep A W ((cs.drop (i * ak.size α)).take (ak.size α)) xs[i]
theorem hr.mono {α:Type}[ak α]{A W dy W'}{cs:List Value}{xs:List α}(e:Ext A W dy W')(h:hr A W cs xs):hr dy W' cs xs:=
 ⟨h.1,fun i au=>ak.mono e (h.2 i au)⟩
def eg.row {α:Type}[ak α](T:TypeId)(xs:List α)(cap:Nat):eg where
 holds A W o:= ∃ cs,o= .cells cs T (0,0)∧cs.size=cap * ak.size α∧xs.length≤cap∧cap≤maxLen∧hr A W (cs.toList.take (xs.length * ak.size α)) xs
 nL:=xs= []∧cap=0
 mono e h:=let⟨cs,aa,ae,aG,a0,a7⟩:=h; ⟨cs,aa,ae,aG,a0,a7.mono e⟩
def eg.dead:eg where
 holds _ _ _:=True
 nL:=True
 mono _ h:=h
structure aQ where
 key:Option Nat
 cp:eg
def aQ.ok (A:List Nat)(W:World)(e:aQ):Prop:=
 match e.key with
 | some p=> ∃ o,W.heap[p]? =some o∧e.cp.holds A W o
 | none=>e.cp.nL
def aU:List aQ→List Nat
 | []=>[]
 | e::r=>match e.key with
   | some p=>p::aU r
   | none=>aU r
theorem mi {L:List aQ}{k:Nat} :k∈aU L↔ ∃ e∈L,e.key=some k:=by
 induction L with
 | nil=>simp [aU]
 | cons e r b6=>
   cases aw:e.key with
   | none=>simp [aU,aw,b6]
   | some p=>simp [aU,aw,b6,eq_comm]
structure dB where
 P:Program
 n:Nat
 jB:World
 X:List Nat
 b7:List Nat
 rd:Option Nat
 ds:List Nat
def Hs (D:Nat):Deferred:= { target:= .collected D,args:= #[] }
abbrev dB.F (c:dB):Fence:= { fn:=fun _=>True,depth:=none,alive:=false,round:=c.rd }
abbrev dB.wp (c:dB)(y:Code)(Q:Exit→Act→World→Prop):Act→World→Prop:=y.wpIn c.F 9 c.P Q
abbrev dB.qB (c:dB)(ops:Array Oper)(Q:Exit→Act→World→Prop):List Oper→Act→World→Prop:=wpListIn c.F 9 c.P ops Q
def look:List (Nat×I)→Nat→Option I
 | [],_=>none
 | (s,τ)::r,t=>bif Nat.beq s t then some τ else look r t
structure bL (c:dB)(E:List (Nat×I))(L:List aQ)(a:Act)(W:World):Prop where
 defers:a.defers=c.ds.map Hs
 size:a.tmps.size=c.n
 env:∀ t τ,look E t=some τ→ ∃ v,a.tmps[t]? =some v∧τ.holds (aU L++c.b7) W v
 ej:Fr c.X c.jB W
 own:∀ e∈L,e.ok (aU L++c.b7) W
 nodup:(aU L).Nodup
 lt:∀ k∈aU L,k<W.heap.size
 gN:∀ k∈aU L,k<c.jB.heap.size→k∈c.X
 fb:∀ k∈c.b7,k<W.heap.size∧k ∉ aU L
theorem eQ {s t:Nat} :Nat.beq s t=true↔s=t:=by
 constructor
 ·exact Nat.eq_of_beq_eq_true
 rintro rfl;exact Nat.beq_refl s
theorem bL.GR {c E L a W}(h:bL c E L a W):∀ k∈aU L++c.b7,k<W.heap.size:=by
 intro k aw;rcases List.mem_append.1 aw with aw | aw
 ·exact h.lt k aw
 exact(h.fb k aw).1
theorem bL.world {c E L a W W'}(h:bL c E L a W)(f:Fr [] W W'):bL c E L a W' where
 defers:=h.defers
 size:=h.size
 env t τ an:=let⟨v,aa,ae⟩:=h.env t τ an; ⟨v,aa,τ.mono (.ej f) ae⟩
 ej:=h.ej.trans f.nil
 own e he:=by
  have aa:=h.own e he;unfold aQ.ok at *;split at aa
  ·rename_i p hp;obtain⟨o,bg,cA⟩:=aa;have cf:=h.lt p (mi.2 ⟨e,he,hp⟩);exact⟨o,by rw [f.block p cf (by simp)];exact bg,eg.mono _ (.ej f) cA⟩
  exact aa
 nodup:=h.nodup
 lt k aw:=Nat.lt_of_lt_of_le (h.lt k aw) f.size
 gN:=h.gN
 fb k aw:=⟨Nat.lt_of_lt_of_le (h.fb k aw).1 f.size,(h.fb k aw).2⟩
theorem bL.put {c E L a W}(h:bL c E L a W){d:Nat}(hd:d<c.n){v:Value}{τ:I}(a6:τ.holds (aU L++c.b7) W v):
 bL c ((d,τ)::E) L (a.put (some d) v) W where
 defers:=h.defers
 size:=by simp [Act.put,h.size]
 env t nW an:=by
  simp only [look] at an;simp only [Act.put];by_cases e:Nat.beq d t=true
  ·rw [e] at an;simp only [cond_true,Option.some.injEq] at an;subst an;have:=eQ.1 e;subst this;exact⟨v,by simp [h.size,hd],a6⟩
  simp only [Bool.not_eq_true] at e;rw [e] at an;simp only [cond_false] at an;obtain⟨u,aa,ae⟩:=h.env t nW an;have db:d≠t:=fun h=>by rw [eQ.2 h] at e;cases e
  exact⟨u,by rw [Array.getElem?_setIfInBounds_ne db];exact aa,ae⟩
 ej:=h.ej
 own:=h.own
 nodup:=h.nodup
 lt:=h.lt
 gN:=h.gN
 fb:=h.fb
theorem bL.w3 {c E L a W}(s:bL c E L a W)(h:c.ds= []):a.defers= []:=by rw [s.defers,h];rfl
theorem bL.less {c E E' L a W}(h:bL c E L a W)(aA:∀ t τ,look E' t=some τ→ ∃ σ,look E t=some σ∧ ∀ A W v,σ.holds A W v→τ.holds A W v):bL c E' L a W:=
 {h with env:=fun t τ an=>let⟨_,aa,ae⟩:=aA t τ an;let⟨v,aG,a0⟩:=h.env t _ aa; ⟨v,aG,ae _ _ _ a0⟩ }
theorem bL.alloc {c E L a W}(h:bL c E L a W){o:Obj}{cp:eg}(aj:cp.holds (aU L++c.b7) W o):
 bL c E (⟨some W.heap.size,cp⟩::L) a (W.alloc o):=by
 have qu:W.heap.size ∉ aU L:=fun hm=>Nat.lt_irrefl _ (h.lt _ hm)
 have hZ:Ext (aU L++c.b7) W (aU (⟨some W.heap.size,cp⟩::L)++c.b7) (W.alloc o):=
  ⟨by simp,fun k aw _=>CM W o k aw,fun k aw cf=>by
   simp only [aU,List.cons_append,List.mem_cons] at aw;rcases aw with rfl | aw
   ·exact absurd cf (Nat.lt_irrefl _)
   exact aw⟩
 exact
 {defers:=h.defers
  size:=h.size
  env:=fun t τ an=>let⟨v,aa,ae⟩:=h.env t τ an; ⟨v,aa,τ.mono hZ ae⟩
  ej:=h.ej.trans (Fr.alloc W o)
  own:=fun e he=>by
   rcases List.mem_cons.1 he with rfl | he
   ·exact⟨o,KF W o,cp.mono hZ aj⟩
   have aa:=h.own e he;unfold aQ.ok at *;split at aa
   ·rename_i p hp;obtain⟨o',bg,cA⟩:=aa;exact⟨o',by rw [CM W o p (h.lt p (mi.2 ⟨e,he,hp⟩))];exact bg,eg.mono _ hZ cA⟩
   exact aa
  nodup:=by simp only [aU];exact List.nodup_cons.2 ⟨qu,h.nodup⟩
  lt:=fun k aw=>by
   simp only [aU,List.mem_cons] at aw;rw [World.size_alloc];rcases aw with rfl | aw
   ·omega
   have:=h.lt k aw;omega
  gN:=fun k aw cf=>by
   simp only [aU,List.mem_cons] at aw;rcases aw with rfl | aw
   ·have:=h.ej.size;omega
   exact h.gN k aw cf
  fb:=fun k aw=>by
   obtain⟨aa,ae⟩:=h.fb k aw;refine⟨by rw [World.size_alloc];omega,fun hm=>?_⟩;simp only [aU,List.mem_cons] at hm;rcases hm with rfl | hm
   ·omega
   exact ae hm }
theorem bL.sub {c E L L' a W}(h:bL c E L a W)(al:∀ e∈L',e∈L)(aR:(aU L').Nodup):bL c E L' a W:=by
 have aw:∀ k∈aU L',k∈aU L:=fun k aw=>by
  obtain⟨e,he,ae⟩:=mi.1 aw;exact mi.2 ⟨e,al e he,ae⟩
 have hZ:Ext (aU L++c.b7) W (aU L'++c.b7) W:= .drop fun k hm=>by
  rcases List.mem_append.1 hm with hm | hm
  ·exact List.mem_append.2 (.inl (aw k hm))
  exact List.mem_append.2 (.inr hm)
 exact
 {defers:=h.defers
  size:=h.size
  env:=fun t τ an=>let⟨v,aa,ae⟩:=h.env t τ an; ⟨v,aa,τ.mono hZ ae⟩
  ej:=h.ej
  own:=fun e he=>by
   have aa:=h.own e (al e he);unfold aQ.ok at *;split at aa
   ·obtain⟨o',bg,cA⟩:=aa;exact⟨o',bg,eg.mono _ hZ cA⟩
   exact aa
  nodup:=aR
  lt:=fun k hm=>h.lt k (aw k hm)
  gN:=fun k hm=>h.gN k (aw k hm)
  fb:=fun k hm=>⟨(h.fb k hm).1,fun ae=>(h.fb k hm).2 (aw k ae)⟩ }
theorem ft (L R:List aQ):aU (L++R)=aU L++aU R:=by
 induction L with
 | nil=>rfl
 | cons e r b6=>cases aw:e.key <;> simp [aU,aw,b6]
theorem zK {L:List aQ}{i:Nat}{e:aQ}{cp:eg}(au:L[i]? =some e):aU (L.set i ⟨e.key,cp⟩)=aU L:=by
 induction L generalizing i with
 | nil=>simp at au
 | cons x r b6=>
   cases i with
   | zero=>simp only [List.getElem?_cons_zero,Option.some.injEq] at au;subst au;simp [aU]
   | succ i=>simp only [List.getElem?_cons_succ] at au;simp [aU,b6 au]
theorem KG {L:List aQ}(aR:(aU L).Nodup){i j:Nat}{e f:aQ}{p:Nat}(au:L[i]? =some e)(aH:L[j]? =some f)(he:e.key=some p)(a2:f.key=some p):i=j:=by
 induction L generalizing i j with
 | nil=>simp at au
 | cons x r b6=>
   have aO:(aU r).Nodup:=by
    cases ar:x.key with
    | none=>simpa [aU,ar] using aR
    | some q=>simp only [aU,ar] at aR;exact(List.nodup_cons.1 aR).2
   have vF:∀ q,x.key=some q→q ∉ aU r:=fun q ar=>by simp only [aU,ar] at aR;exact(List.nodup_cons.1 aR).1
   cases i with
   | zero=>
     simp only [List.getElem?_cons_zero,Option.some.injEq] at au
     subst au
     cases j with
     | zero=>rfl
     | succ j=>
       simp only [List.getElem?_cons_succ] at aH
       exact absurd (mi.2 ⟨f,List.mem_of_getElem? aH,a2⟩) (vF p he)
   | succ i=>
     simp only [List.getElem?_cons_succ] at au
     cases j with
     | zero=>
       simp only [List.getElem?_cons_zero,Option.some.injEq] at aH
       subst aH
       exact absurd (mi.2 ⟨e,List.mem_of_getElem? au,he⟩) (vF p a2)
     | succ j=>
       simp only [List.getElem?_cons_succ] at aH
       rw [b6 aO au aH]
theorem bL.store {c E L a W}(h:bL c E L a W){i p:Nat}{cp cp':eg}(au:L[i]? =some ⟨some p,cp⟩){cs eA:Array Value}{T:TypeId}
 (bg:W.heap[p]? =some (.cells cs T (0,0))) (aj:cp'.holds (aU L++c.b7) W (.cells eA T (0,0))):
 bL c E (L.set i ⟨some p,cp'⟩) a (W.setRow p eA):=by
 have h2:aU (L.set i ⟨some p,cp'⟩)=aU L:=zK (cp:=cp') au
 have hp:p∈aU L:=mi.2 ⟨_,List.mem_of_getElem? au,rfl⟩
 have hZ:Ext (aU L++c.b7) W (aU L++c.b7) (W.setRow p eA):=
  ⟨by simp,fun k _ bb=>setRow_other W p k eA (fun e=>bb (e ▸ List.mem_append.2 (.inl hp))),fun _ h _=>h⟩
 exact
 {defers:=h.defers
  size:=h.size
  env:=fun t τ an=>by rw [h2];exact let⟨v,aa,ae⟩:=h.env t τ an; ⟨v,aa,τ.mono hZ ae⟩
  ej:=⟨h.ej.os,h.ej.tape,h.ej.output,by simpa using h.ej.size,fun k aw ar=>by
   rw [setRow_other W p k eA (fun e=>ar (e ▸ h.gN p hp (e ▸ aw)))];exact h.ej.block k aw ar⟩
  own:=fun e he=>by
   rw [h2];obtain⟨j,aH⟩:=List.mem_iff_getElem?.1 he;rw [List.getElem?_set] at aH;split at aH
   ·rename_i gd;subst gd;split at aH
    ·simp only [Option.some.injEq] at aH;subst aH;exact⟨_,setRow_heap W p cs eA T (0,0) bg,cp'.mono hZ aj⟩
    cases aH
   rename_i gd;have aa:=h.own e (List.mem_of_getElem? aH);unfold aQ.ok at *;split at aa
   ·rename_i q hq;obtain⟨o',rq,cA⟩:=aa;have db:q≠p:=fun e'=>gd (KG h.nodup au aH rfl (e' ▸ hq));exact⟨o',by rw [setRow_other W p q eA db];exact rq,eg.mono _ hZ cA⟩
   exact aa
  nodup:=by rw [h2];exact h.nodup
  lt:=by rw [h2];simpa using h.lt
  gN:=by rw [h2];exact h.gN
  fb:=by rw [h2];simpa using h.fb }
abbrev ak.scalar {α:Type}(val:α→Value)(h:∀ x,(val x).oneCell'=true):ak α where
 size:=1
 agg:=false
 rep _ _ cs x:=cs= [val x]
 len h:=by rw [h];rfl
 one aO:=by subst aO;intro v a6;rw [List.mem_singleton.1 a6];exact h _
 flat _:=rfl
 mono _ h:=h
instance:ak Bool:= .scalar Value.bool fun _=>rfl
instance:ak Int:= .scalar (Value.int .i64) fun _=>rfl
instance:ak (BitVec 64):= .scalar (fun x=>Value.int .u64 (x.toNat:Int)) fun _=>rfl
instance:ak (BitVec 32):= .scalar (fun x=>Value.int .u32 (x.toNat:Int)) fun _=>rfl
instance:ak (BitVec 16):= .scalar (fun x=>Value.int .u16 (x.toNat:Int)) fun _=>rfl
instance:ak (BitVec 8):= .scalar (fun x=>Value.int .u8 (x.toNat:Int)) fun _=>rfl
instance:ak ByteArray:= .scalar Value.string fun _=>rfl
theorem pw {v u:Value}(h:v.oneCell'=true)(e:v.cells.toList= [u]):v=u:=by
 rw [px h] at e;simpa using e
theorem of_bool {A W v}{b:Bool} :(I.of b).holds A W v↔v= .bool b:=
 ⟨fun h=>pw h.1 h.2,fun h=>by subst h;exact⟨rfl,rfl⟩⟩
theorem of_int {A W v}{x:Int} :(I.of x).holds A W v↔v= .int .i64 x:=
 ⟨fun h=>pw h.1 h.2,fun h=>by subst h;exact⟨rfl,rfl⟩⟩
theorem gX {A W v}{x:BitVec 64} :(I.of x).holds A W v↔v= .int .u64 (x.toNat:Int):=
 ⟨fun h=>pw h.1 h.2,fun h=>by subst h;exact⟨rfl,rfl⟩⟩
theorem qn {A W v}{x:BitVec 8} :(I.of x).holds A W v↔v= .int .u8 (x.toNat:Int):=
 ⟨fun h=>pw h.1 h.2,fun h=>by subst h;exact⟨rfl,rfl⟩⟩
theorem Rh {A W v}{x:ByteArray} :(I.of x).holds A W v↔v= .string x:=
 ⟨fun h=>pw h.1 h.2,fun h=>by subst h;exact⟨rfl,rfl⟩⟩
def ba (c:dB)(E:List (Nat×I))(L:List aQ)(x:Operand)(τ:I):Prop:= ∀ a W,bL c E L a W→τ.holds (aU L++c.b7) W (a.eval x)
section
variable {c:dB} {E:List (Nat×I)} {L:List aQ}
theorem ab {t:Nat}{τ:I}(h:look E t=some τ):ba c E L (.tmp t) τ:=fun a W s=>by
 obtain⟨v,aa,ae⟩:=s.env t τ h;have:a.eval (.tmp t)=v:=by simp [Act.eval,aa]
 rw [this];exact ae
theorem bR {t:Nat}{τ:I}{p:Prop}(h:look E t=some (.cond p τ))(hp:p):ba c E L (.tmp t) τ:=fun a W s=>(ab h a W s).1 hp
theorem GL (v:Value):ba c E L (.const v) (.eq v):=fun _ _ _=>rfl
theorem bN (k:Int):ba c E L (.const (.int .i64 k)) (.of k):=fun _ _ _=>of_int.2 rfl
theorem gI (b:Bool):ba c E L (.const (.bool b)) (.of b):=fun _ _ _=>of_bool.2 rfl
theorem gp (x:BitVec 64){k:Int}(h:(x.toNat:Int)=k):ba c E L (.const (.int .u64 k)) (.of x):=fun _ _ _=>gX.2 (by rw [h];rfl)
theorem Cy (x:BitVec 8){k:Int}(h:(x.toNat:Int)=k):ba c E L (.const (.int .u8 k)) (.of x):=fun _ _ _=>qn.2 (by rw [h];rfl)
theorem eo (s:ByteArray):ba c E L (.const (.string s)) (.of s):=fun _ _ _=>Rh.2 rfl
def hC (P:Program)(o:Oper)(a:Act)(W:World)(R:Value→World→Prop):Prop:=
 o.wp P a W (fun hM W'=> ∃ v,hM=a.put o.dst v∧R v W') (fun _ _ _=>False)
theorem CallsIn.Kb {rd:Option Nat}{n:Nat}{P:Program}{f:FuncId}{args:Array Value}{w:World}{R:Ending→World→Prop}
 (h:Calls P f args w R):CallsIn { fn:=fun _=>True,depth:=none,alive:=false,round:=rd } n P f args w R:=
 (callsIn_wide (n:=n)).2 h
theorem RowsIn.aa1 {rd:Option Nat}{n:Nat}{P:Program}{row:String}{args:Array Value}{w:World}{R:Value→World→Prop}
 (h:Rows P row args w R):RowsIn { fn:=fun _=>True,depth:=none,alive:=false,round:=rd } n P row args w R:=
 fun c cs _=>let⟨v,rM,r,s⟩:=h c cs; ⟨v,rM,r,stepsIn_wide.2 s⟩
theorem hC.wp {P:Program}{o:Oper}{a:Act}{W:World}{R:Value→World→Prop}{next:Act→World→Prop}{Q:Exit→Act→World→Prop}
 (h:hC P o a W R) (aw:∀ v W',R v W'→next (a.put o.dst v) W'):o.wp P a W next Q:=by
 unfold hC Oper.wp at *
 generalize (execOp a.eval o).run P W=r at *
 cases r with
 | ok n W'=>
   cases n <;> simp only [Oper.upon] at h ⊢
   case value v=>obtain⟨u,aa,ae⟩:=h;rw [aa];exact aw _ _ ae
   case skip=>obtain⟨u,aa,ae⟩:=h;rw [aa];exact aw _ _ ae
   case defer d=>obtain⟨u,aa,ae⟩:=h;rw [aa];exact aw _ _ ae
   case enter f args=>
    refine h.mono fun e vR he=>?_
    cases e with
    | returned v=>obtain⟨u,aa,ae⟩:=he;simp only at aa ⊢;rw [aa];exact aw _ _ ae
    | panicked Nt=>exact he.elim
    | outgrown=>obtain⟨_,_,aa⟩:=he;exact aa.elim
   case row row args=>exact h.mono fun v vR ⟨u,aa,ae⟩=>by rw [aa];exact aw _ _ ae
 | halt x W'=>cases x <;> simp only [Oper.upon] at h
theorem hC.Zd {P:Program}{o:Oper}{a:Act}{W:World}{R:Value→World→Prop}(h:hC P o a W R):∀ c,o.op≠ .defer c:=by
 intro c bg;unfold hC Oper.wp execOp at h;rw [bg] at h;simp only [Sem.run_bind] at h;generalize (resolve a.eval c o.type).run P W=r at h;cases r with
 | ok d W'=>
   simp only [Result.andThen,Sem.run_pure,Oper.upon] at h
   obtain⟨v,aa,_⟩:=h
   have:=congrArg Act.defers aa
   cases hd:o.dst <;> simp [Act.put,hd] at this
 | halt x W'=>cases x <;> simp only [Result.andThen,Oper.upon] at h
theorem hC.wpIn {c:dB}{n:Nat}{o:Oper}{a:Act}{W:World}{R:Value→World→Prop}{next:Act→World→Prop}{Q:Exit→Act→World→Prop}
 (h:hC c.P o a W R) (aw:∀ v W',R v W'→next (a.put o.dst v) W'):o.wpIn c.F n c.P a W next Q:=by
 refine⟨fun _ _=>trivial,?_⟩
 rw [Oper.semAt_eq _ _ _ h.Zd]
 unfold hC Oper.wp at h
 generalize (execOp a.eval o).run c.P W=r at *
 cases r with
 | ok m W'=>
   cases m <;> simp only [Oper.upon,Oper.uponIn] at h ⊢
   case value v=>obtain⟨u,aa,ae⟩:=h;rw [aa];exact aw _ _ ae
   case skip=>obtain⟨u,aa,ae⟩:=h;rw [aa];exact aw _ _ ae
   case defer d=>obtain⟨u,aa,ae⟩:=h;rw [aa];exact aw _ _ ae
   case enter f args=>
    refine⟨fun h=>by simp at h,CallsIn.Kb ?_⟩
    refine h.mono fun e vR he=>?_
    cases e with
    | returned v=>obtain⟨u,aa,ae⟩:=he;simp only at aa ⊢;rw [aa];exact aw _ _ ae
    | panicked Nt=>exact he.elim
    | outgrown=>obtain⟨_,_,aa⟩:=he;exact aa.elim
   case row row args=>
    refine⟨fun h=>by simp at h,RowsIn.aa1 ?_⟩
    exact h.mono fun v vR ⟨u,aa,ae⟩=>by rw [aa];exact aw _ _ ae
 | halt x W'=>cases x <;> simp only [Oper.upon] at h
theorem WR {c:dB}{n:Nat}{o:Oper}{a:Act}{W W':World}{v:Value}{next:Act→World→Prop}{Q:Exit→Act→World→Prop}
 (h:(execOp a.eval o).run c.P W= .ok (.value v) W') (aw:next (a.put o.dst v) W'):o.wpIn c.F n c.P a W next Q:=
 hC.wpIn (R:=fun u U=>u=v∧U=W') (by unfold hC Oper.wp;rw [h];exact⟨v,rfl,rfl,rfl⟩) fun u U ⟨aa,ae⟩=>by subst aa;subst ae;exact aw
theorem OE {c:dB}{n:Nat}{o:Oper}{a:Act}{W W':World}{next:Act→World→Prop}{Q:Exit→Act→World→Prop}
 (h:(execOp a.eval o).run c.P W= .ok .skip W') (aw:next (a.put o.dst undef) W'):o.wpIn c.F n c.P a W next Q:=
 hC.wpIn (R:=fun u U=>u=undef∧U=W') (by unfold hC Oper.wp;rw [h];exact⟨undef,rfl,rfl,rfl⟩) fun u U ⟨aa,ae⟩=>by subst aa;subst ae;exact aw
theorem B0 {F:Fence}{n:Nat}{P:Program}{md:Region.Mode}{ops:Array Oper}{ux:Exit→Act→World→Prop} :∀ (l:List Oper) (k:Nat) (bo:Array Bool) (a:Act) (w:World),(∀ j,l[j]? =ops[k+j]?)→
 Region.seqB md ops l.length k bo=true→wpListIn F n P ops ux l a w→wpAnyIn F n P md ops ux l.length bo a w
 | [],_,_,_,_,_,iy,h=>⟨by simpa [Region.seqB] using iy,h⟩
 | o::l,k,bo,a,w,an,iy,h=>by
   have bO:ops[k]? =some o:=by simpa using (an 0).symm
   simp only [List.length_cons,Region.seqB,Bool.and_eq_true,decide_eq_true_eq] at iy;refine⟨fun aa=>(by rw [iy.1] at aa;cases aa),fun i au=>?_⟩;rw [iy.1] at au;have qC:i=k:=by simpa using au
   subst qC;have hw:wpOpIn F n P ops ux i (wpListIn F n P ops ux l) a w:=by unfold wpOpIn;simp only [bO];exact h
   exact wpOpIn_mono (fun hM rM de=>B0 l (i+1) _ hM rM (fun j=>by have:=an (j+1);simpa [Nat.add_assoc,Nat.add_comm 1 j] using this) iy.2 de) hw
theorem hC.lv {P:Program}{o:Oper}{a:Act}{W W':World}{R:Value→World→Prop}{v:Value}
 (h:(execOp a.eval o).run P W= .ok (.value v) W') (aO:R v W'):hC P o a W R:=by
 unfold hC Oper.wp
 rw [h]
 exact⟨v,rfl,aO⟩
theorem hC.zB {P:Program}{o:Oper}{a:Act}{W W':World}{R:Value→World→Prop}
 (h:(execOp a.eval o).run P W= .ok .skip W') (aO:R undef W'):hC P o a W R:=by
 unfold hC Oper.wp
 rw [h]
 exact⟨undef,rfl,aO⟩
theorem hC.w4 {P:Program}{o:Oper}{a:Act}{W W':World}{R:Value→World→Prop}{f:FuncId}{args:Array Value}
 (h:(execOp a.eval o).run P W= .ok (.enter f args) W') (aO:Calls P f args W' fun e vR=> ∃ v,e= .returned v∧R v vR):hC P o a W R:=by
 unfold hC Oper.wp
 rw [h]
 exact aO.mono fun e vR ⟨v,he,ae⟩=>by subst he;exact⟨v,rfl,ae⟩
def b9 (c:dB)(E:List (Nat×I))(L:List aQ)(o:Oper)(τ:I):Prop:=
 ∀ a W,bL c E L a W→hC c.P o a W fun v W'=>Fr [] W W'∧τ.holds (aU L++c.b7) W' v
theorem b9.pure {o:Oper}{τ:I}(h:∀ a W,bL c E L a W→ ∃ v,(execOp a.eval o).run c.P W= .ok (.value v) W∧τ.holds (aU L++c.b7) W v):b9 c E L o τ:=
 fun a W s=>let⟨_,aa,ae⟩:=h a W s; .lv aa ⟨.refl _ _,ae⟩
variable {ops:Array Oper} {Q:Exit→Act→World→Prop}
def ah (c:dB)(ops:Array Oper)(Q:Exit→Act→World→Prop)(l:List Oper)(E:List (Nat×I))(L:List aQ):Prop:=
 ∀ a W,bL c E L a W→c.qB ops Q l a W
def ad (c:dB)(Q:Exit→Act→World→Prop)(x:Exit)(E:List (Nat×I))(L:List aQ):Prop:= ∀ a W,bL c E L a W→Q x a W
theorem ah.nil (h:ad c Q .normal E L):ah c ops Q [] E L:=fun a W s=>wpListIn_nil (h a W s)
theorem ik {c:dB}{o:Oper}{rest:List Oper}{a:Act}{W:World}(bD:o.guard=none){R:Value→World→Prop}(h:hC c.P o a W R)
 (aw:∀ v W',R v W'→c.qB ops Q rest (a.put o.dst v) W'):c.qB ops Q (o::rest) a W:=
 wpListIn_plain bD fun _ yq=>h.wpIn fun v W' aO=>yq _ _ (aw v W' aO)
theorem ah.v {o:Oper}{rest:List Oper}{d:Nat}{τ:I}(h:b9 c E L o τ)(bD:o.guard=none)(hd:o.dst=some d)(aR:Nat.blt d c.n=true)
 (k:ah c ops Q rest ((d,τ)::E) L):ah c ops Q (o::rest) E L:=fun a W s=>
 ik bD (h a W s) fun v W' ⟨f,a6⟩=>by
  rw [hd];exact k _ _ ((s.world f).put (by simpa using aR) a6)
theorem ah.x {o:Oper}{rest:List Oper}{τ:I}(h:b9 c E L o τ)(bD:o.guard=none)(hd:o.dst=none)
 (k:ah c ops Q rest E L):ah c ops Q (o::rest) E L:=fun a W s=>
 ik bD (h a W s) fun v W' ⟨f,_⟩=>by
  rw [hd];exact k _ _ (s.world f)
theorem zt {j g:Nat}{b:Bool}(aH:(ops[j]?).bind (·.dst)=some g)(an:look E g=some (.of b)){a:Act}{W:World}(s:bL c E L a W):
 yielded ops a.tmps j=some b:=by
 obtain⟨v,aa,ae⟩:=s.env g _ an
 unfold yielded
 rw [aH]
 simp only [Option.bind_some,aa,of_bool.1 ae]
theorem ah.g {o:Oper}{rest:List Oper}{d j g:Nat}{b want:Bool}{τ:I}(h:b=want→b9 c E L o τ)(bD:o.guard=some (j,want))(aH:(ops[j]?).bind (·.dst)=some g)
 (an:look E g=some (.of b)) (hd:o.dst=some d) (aR:Nat.blt d c.n=true)
 (k:ah c ops Q rest ((d,.cond (b=want) τ)::E) L):ah c ops Q (o::rest) E L:=fun a W s=>by
 have a5:=zt aH an s
 unfold dB.qB wpListIn
 by_cases hb:b=want
 ·rw [if_pos (by simp [Region.wanted,bD,a5,hb])]
  refine((h hb a W s).wpIn fun v W' ⟨f,a6⟩=>?_)
  rw [hd]
  exact k _ _ ((s.world f).put (by simpa using aR) ⟨fun _=>a6,fun h=>absurd hb h⟩)
 rw [if_neg (by simp [Region.wanted,bD,a5,hb])]
 rw [hd]
 exact⟨fun _ _=>trivial,k _ _ (s.put (by simpa using aR) ⟨fun h=>absurd h hb,fun _=>rfl⟩)⟩
theorem OF {j g:Nat}{p:Prop}{b:Bool}(aH:(ops[j]?).bind (·.dst)=some g)(an:look E g=some (.cond p (.of b))){a:Act}{W:World}(s:bL c E L a W):
 (p→yielded ops a.tmps j=some b)∧ (¬ p→yielded ops a.tmps j=none):=by
 obtain⟨v,aa,ae,aG⟩:=s.env g _ an
 unfold yielded
 rw [aH]
 simp only [Option.bind_some,aa]
 exact⟨fun hp=>by simp only [of_bool.1 (ae hp)],fun hp=>by simp only [aG hp];rfl⟩
theorem ah.gg {o:Oper}{rest:List Oper}{d j g:Nat}{p:Prop}{b want:Bool}{τ:I}(h:p∧b=want→b9 c E L o τ)(bD:o.guard=some (j,want))(aH:(ops[j]?).bind (·.dst)=some g)
 (an:look E g=some (.cond p (.of b))) (hd:o.dst=some d) (aR:Nat.blt d c.n=true)
 (k:ah c ops Q rest ((d,.cond (p∧b=want) τ)::E) L):ah c ops Q (o::rest) E L:=fun a W s=>by
 have a5:=OF aH an s
 unfold dB.qB wpListIn
 by_cases hb:p∧b=want
 ·rw [if_pos (by simp [Region.wanted,bD,a5.1 hb.1,hb.2])]
  refine((h hb a W s).wpIn fun v W' ⟨f,a6⟩=>?_)
  rw [hd]
  exact k _ _ ((s.world f).put (by simpa using aR) ⟨fun _=>a6,fun h=>absurd hb h⟩)
 have hw:Region.wanted o (yielded ops a.tmps)=false:=by
  by_cases hp:p
  ·have: ¬ (b=want):=fun h=>hb ⟨hp,h⟩;simp [Region.wanted,bD,a5.1 hp,this]
  simp [Region.wanted,bD,a5.2 hp]
 rw [if_neg (by simp [hw])]
 refine⟨fun _ _=>trivial,?_⟩
 rw [hd]
 exact k _ _ (s.put (by simpa using aR) ⟨fun h=>absurd h hb,fun _=>rfl⟩)
inductive g4 (E:List (Nat×I)):List (Nat×I)→Prop
 | nil:g4 E []
 | cons {t τ σ r} :look E t=some σ→ (∀ A W v,σ.holds A W v→τ.holds A W v)→g4 E r→g4 E ((t,τ)::r)
theorem g4.same {t:Nat}{τ:I}{r:List (Nat×I)}(h:look E t=some τ)(k:g4 E r):g4 E ((t,τ)::r):= .cons h (fun _ _ _ h=>h) k
theorem g4.all {r:List (Nat×I)}(h:g4 E r:=by repeat (first | exact g4.nil | refine g4.same rfl ?_)):g4 E r:=h
theorem g4.look:∀ {E':List (Nat×I)},g4 E E'→ ∀ t τ,Gv.look E' t=some τ→ ∃ σ,Gv.look E t=some σ∧ ∀ A W v,σ.holds A W v→τ.holds A W v
 | _,.nil,t,τ,h=>by simp [Gv.look] at h
 | _,.cons (t:=s) (σ:=σ) aa ae r,t,τ,h=>by
   simp only [Gv.look] at h;by_cases e:Nat.beq s t=true
   ·rw [e] at h;simp only [cond_true,Option.some.injEq] at h;subst h;rw [eQ.1 e] at aa;exact⟨σ,aa,ae⟩
   simp only [Bool.not_eq_true] at e;rw [e] at h;exact r.look t τ h
theorem ad.le {x:Exit}{E':List (Nat×I)}(h:g4 E E')(k:ad c Q x E' L):ad c Q x E L:=fun a W s=>k a W (s.less h.look)
theorem ah.le {l:List Oper}{E':List (Nat×I)}(h:g4 E E')(k:ah c ops Q l E' L):ah c ops Q l E L:=fun a W s=>k a W (s.less h.look)
def ag (c:dB)(Q:Exit→Act→World→Prop)(code:Code)(E:List (Nat×I))(L:List aQ):Prop:= ∀ a W,bL c E L a W→c.wp code Q a W
theorem ag.le {code:Code}{E':List (Nat×I)}(h:g4 E E')(k:ag c Q code E' L):ag c Q code E L:=fun a W s=>k a W (s.less h.look)
theorem ag.cd {id:Nat}{l:List Oper}(h:ah c l.toArray Q l E L):ag c Q (.region id l.toArray false) E L:=fun a W s=>wpIn_region_lit (h a W s)
theorem ag.seq {x y:Code}(h:ag c (Exit.then (c.wp y Q) Q) x E L):ag c Q (.seq x y) E L:=fun a W s=>wpIn_seq (h a W s)
theorem ad.next {y:Code}(h:ag c Q y E L):ad c (Exit.then (c.wp y Q) Q) .normal E L:=fun a W s=>h a W s
theorem ad.exit {y:Act→World→Prop}{id:Nat}(h:ad c Q (.exit id) E L):ad c (Exit.then y Q) (.exit id) E L:=fun a W s=>h a W s
theorem ad.ret {y:Act→World→Prop}(h:ad c Q .ret E L):ad c (Exit.then y Q) .ret E L:=fun a W s=>h a W s
theorem ag.block {id:Nat}{x:Code}(h:ag c (Exit.inBlock id Q) x E L):ag c Q (.block id x) E L:=fun a W s=>wpIn_block (h a W s)
theorem ad.dG {id:Nat}(h:ad c Q .normal E L):ad c (Exit.inBlock id Q) .normal E L:=fun a W s=>h a W s
theorem ad.e8 {id:Nat}(h:ad c Q .normal E L):ad c (Exit.inBlock id Q) (.exit id) E L:=fun a W s=>by
 show(if id=id then Q .normal a W else Q (.exit id) a W);rw [if_pos rfl];exact h a W s
theorem ad.QY {id D8:Nat}(db:Nat.beq D8 id=false)(h:ad c Q (.exit D8) E L):ad c (Exit.inBlock id Q) (.exit D8) E L:=fun a W s=>by
 show(if D8=id then Q .normal a W else Q (.exit D8) a W);rw [if_neg (fun e=>by rw [e,Nat.beq_refl] at db;cases db)];exact h a W s
theorem ad.dk {id:Nat}(h:ad c Q .ret E L):ad c (Exit.inBlock id Q) .ret E L:=fun a W s=>h a W s
theorem ag.skip (h:ad c Q .normal E L):ag c Q .skip E L:=fun a W s=>wpIn_skip (h a W s)
theorem ag.exit {id:Nat}(h:ad c Q (.exit id) E L):ag c Q (.exit id) E L:=fun a W s=>wpIn_exit (h a W s)
theorem ag.ret (h:ad c Q .ret E L):ag c Q .ret E L:=fun a W s=>wpIn_ret (h a W s)
theorem ag.cond {x:Operand}{b:Bool}{y z:Code}(an:ba c E L x (.of b))(bM:b=true→ag c Q y E L)(a2:b=false→ag c Q z E L):ag c Q (.cond x y z) E L:=
 fun a W s=>wpIn_cond_split (of_bool.1 (an a W s)) (fun h=>bM h a W s) (fun h=>a2 h a W s)
def et {σ ε:Type} :Nat→ (σ→Option (σ ⊕ ε))→σ→Option ε
 | 0,_,_=>none
 | n+1,b,s=>match b s with
   | none=>none
   | some (.inl cr)=>et n b cr
   | some (.inr e)=>some e
def ahr {σ ε:Type}(c:dB)(E:σ→List (Nat×I))(L:σ→List aQ)(xs:ε→Exit)(hc:ε→List (Nat×I))(Lx:ε→List aQ):σ ⊕ ε→Exit→Act→World→Prop
 | .inl s,x,a,W=>x= .normal∧bL c (E s) (L s) a W
 | .inr e,x,a,W=>x≠ .normal∧x=xs e∧bL c (hc e) (Lx e) a W
theorem ad.round {σ ε:Type}{E':σ→List (Nat×I)}{L':σ→List aQ}{xs:ε→Exit}{hc:ε→List (Nat×I)}{Lx:ε→List aQ}{s:σ}
 (h:∀ a W,bL c E L a W→bL c (E' s) (L' s) a W):ad c (ahr c E' L' xs hc Lx (.inl s)) .normal E L:=fun a W st=>⟨rfl,h a W st⟩
theorem Yr {F:Fence}{n:Nat}{P:Program}{body:Code}{σ ε:Type}(b:σ→Option (σ ⊕ ε))(gx:σ→Act→World→Prop)(X:ε→Exit→Act→World→Prop)
 (qh:∀ s r,b s=some r→ ∀ a W,gx s a W→body.wpIn F n P (fun x a W=>match r with | .inl cr=>x= .normal∧gx cr a W | .inr e=>x≠ .normal∧X e x a W) a W)
 (Q:Exit→Act→World→Prop) (e:ε) (q2:∀ x a W,X e x a W→Q x a W) {cE:σ} {N:Nat} (an:et N b cE=some e) {iw:Act} {jB:World} (bO:gx cE iw jB):
 (Code.loop body).wpIn F n P Q iw jB:=by
 intro ej k cs Av hb aO
 have key:∀ N s,et N b s=some e→ ∀ a W,gx s a W→
  ∃ x hM W',Q x hM W'∧ArrivesIn (Machine.fenced P F) P (lone (ej.atR a (.code body::.inLoop body::k)) cs W) ej k cs x hM W':=by
  intro N
  induction N with
  | zero=>intro s h;simp [et] at h
  | succ N b6=>
    intro s h a W lK
    simp only [et] at h
    split at h
    ·cases h
    ·rename_i cr hs
     obtain⟨x,Ac,Ad,hq,sw⟩:=qh s _ hs a W lK ej (.inLoop body::k) cs Av hb aO
     obtain⟨ar,Mn⟩:=hq
     subst ar
     obtain⟨LR,LS,LU,Li,Kc⟩:=b6 cr h Ac Ad Mn
     exact⟨LR,LS,LU,Li,.of_steps (StepsIn.trans sw (.one (fenced_calm hb aO rfl) stepR_inLoop)) Kc⟩
    rename_i e' hs
    simp only [Option.some.injEq] at h
    subst h
    obtain⟨x,Ac,Ad,hq,sw⟩:=qh s _ hs a W lK ej (.inLoop body::k) cs Av hb aO
    obtain⟨ar,Nu⟩:=hq
    exact⟨x,Ac,Ad,q2 _ _ _ Nu,.pass (x:= .inLoop body) rfl (fun _ _=>.inl ar) sw⟩
 obtain⟨x,hM,W',hq,sw⟩:=key N cE an iw jB bO
 exact⟨x,hM,W',hq,.of_steps (.one (fenced_calm hb aO rfl) stepR_loop) sw⟩
def bK (P:Program)(f:FuncId)(τs:List I)(ρ:I):Prop:=
 ∀ (A:List Nat) (W:World) (vs:List Value),(∀ k∈A,k<W.heap.size)→hk A W τs vs→
   Calls P f vs.toArray W fun e W'=> ∃ v,e= .returned v∧Fr [] W W'∧ρ.holds A W' v
def params:Nat→List I→List (Nat×I)
 | _,[]=>[]
 | k,τ::r=>(k,τ)::params (k+1) r
theorem wT {A:List Nat}{W:World}{τs:List I}{vs:List Value}(h:hk A W τs vs):∀ (k t:Nat) (τ:I),look (params k τs) t=some τ→k≤t∧ ∃ v,vs[t - k]? =some v∧τ.holds A W v:=by
 induction h with
 | nil=>intro k t τ h;simp [params,look] at h
 | cons aa r b6=>
   intro k t τ an
   simp only [params,look] at an
   by_cases e:Nat.beq k t=true
   ·rw [e] at an
    simp only [cond_true,Option.some.injEq] at an
    subst an
    rw [eQ.1 e]
    exact⟨Nat.le_refl _,_,by simp,aa⟩
   simp only [Bool.not_eq_true] at e
   rw [e] at an
   have db:k≠t:=fun h=>by rw [eQ.2 h] at e;cases e
   obtain⟨ae,v,aG,a0⟩:=b6 (k+1) t τ an
   refine⟨by omega,v,?_,a0⟩
   rw [show t - k=(t - (k+1))+1 by omega,List.getElem?_cons_succ]
   exact aG
theorem bK.enter {P:Program}{f:FuncId}{fn:Func}{code:Code}{n:Nat}{τs:List I}{ρ:I}(a2:P.funcs[f]? =some fn)(hb:fn.body=some code)(aR:fn.ntmps=n)(hlen:Nat.ble τs.length n=true)
 (h:∀ W A,ag ⟨P,n,W,[],A,none,[]⟩ (bodyPost P fn fun e W'=> ∃ v,e= .returned v∧Fr [] W W'∧ρ.holds A W' v) code (params 0 τs) []):bK P f τs ρ:=by
 intro A W vs hf a6
 refine calls_of_wp a2 hb (wpIn_wide.1 (h W A _ _ ?_))
 have an:=a6.length
 have hle:τs.length≤n:=Nat.le_of_ble_eq_true hlen
 exact
 {defers:=rfl
  size:=by simp [aR,an];omega
  env:=fun t τ lf=>by
   obtain⟨_,v,ae,aG⟩:=wT a6 0 t τ lf;refine⟨v,?_,aG⟩;have cf:t<vs.length:=(List.getElem?_eq_some_iff.1 ae).1;rw [Array.getElem?_append_left (by simpa using cf)];simpa using ae
  ej:= .refl _ _
  own:=by simp
  nodup:=by simp [aU]
  lt:=by simp [aU]
  gN:=by simp [aU]
  fb:=fun k aw=>⟨hf k aw,by simp [aU]⟩ }
theorem OV {ρ:I}{A B:List Nat}{W:World}{v:Value}(h:ρ.holds (B++A) W v):ρ.holds A W v:=ρ.mono (.drop fun _ h=>List.mem_append.2 (.inr h)) h
end
section
variable {c:dB} {E:List (Nat×I)} {L:List aQ} {ops:Array Oper} {Q:Exit→Act→World→Prop}
def ix (c:dB)(ops:Array Oper)(E:List (Nat×I))(L:List aQ)(o:Oper)(τ:I):Prop:=
 ∀ a W,bL c E L a W→
   (Region.wanted o (yielded ops a.tmps)=true→hC c.P o a W fun v W'=>Fr [] W W'∧τ.holds (aU L++c.b7) W' v)∧
   (Region.wanted o (yielded ops a.tmps)=false→τ.holds (aU L++c.b7) W undef)
theorem ix.v {o:Oper}{τ:I}(h:b9 c E L o τ)(bD:o.guard=none):ix c ops E L o τ:=fun a W s=>
 ⟨fun _=>h a W s,fun hw=>by simp [Region.wanted,bD] at hw⟩
theorem ix.g {o:Oper}{j g:Nat}{b want:Bool}{τ:I}(h:b=want→b9 c E L o τ)(bD:o.guard=some (j,want))(aH:(ops[j]?).bind (·.dst)=some g)(an:look E g=some (.of b)):
 ix c ops E L o (.cond (b=want) τ):=fun a W s=>by
 have a5:=zt aH an s
 constructor
 ·intro hw
  have hb:b=want:=by simpa [Region.wanted,bD,a5] using hw
  refine hC.wp (h hb a W s) fun v W' ⟨f,a6⟩=>⟨v,rfl,f,fun _=>a6,fun h=>absurd hb h⟩
 intro hw
 exact⟨fun hb=>by simp [Region.wanted,bD,a5,hb] at hw,fun _=>rfl⟩
theorem ix.gg {o:Oper}{j g:Nat}{p:Prop}{b want:Bool}{τ:I}(h:p∧b=want→b9 c E L o τ)(bD:o.guard=some (j,want))(aH:(ops[j]?).bind (·.dst)=some g)(an:look E g=some (.cond p (.of b))):
 ix c ops E L o (.cond (p∧b=want) τ):=fun a W s=>by
 have a5:=OF aH an s
 have Aw:Region.wanted o (yielded ops a.tmps)=true→p∧b=want:=by
  intro hw;by_cases hp:p
  ·exact⟨hp,by simpa [Region.wanted,bD,a5.1 hp] using hw⟩
  simp [Region.wanted,bD,a5.2 hp] at hw
 constructor
 ·intro hw
  refine hC.wp (h (Aw hw) a W s) fun v W' ⟨f,a6⟩=>⟨v,rfl,f,fun _=>a6,fun h=>absurd (Aw hw) h⟩
 intro hw
 exact⟨fun hb=>by simp [Region.wanted,bD,a5.1 hb.1,hb.2] at hw,fun _=>rfl⟩
inductive fB
 | val (τ:I)
 | new (cp:eg)
 | lA (i:Nat) (cp:eg)
 | nT (j:Nat) (cp:eg)
def fB.nM:fB→Bool
 | .lA _ _ | .nT _ _=>true
 | _=>false
def fB.sR (p:Nat):fB→Option I
 | .val τ=>some τ
 | .new _=>some (.eq (.pointer (some ⟨p,0,none⟩)))
 | _=>none
def he (bw:Nat→Nat)(eE:List (Option Nat))(hs:List fB)(E:List (Nat×I)):List Nat→List (Nat×I)
 | []=>E
 | j::r=>match eE[j]?,hs[j]? with
   | some (some s),some h=>match h.sR (bw j) with
     | some τ=>(s,τ)::he bw eE hs E r
     | none=>he bw eE hs E r
   | _,_=>he bw eE hs E r
def z0:List aQ→Nat→eg→List aQ
 | [],_,_=>[]
 | e::r,0,cp=>⟨e.key,cp⟩::r
 | e::r,i+1,cp=>e::z0 r i cp
theorem Ys {L:List aQ}{i:Nat}{e:aQ}{cp:eg}(h:L[i]? =some e):z0 L i cp=L.set i ⟨e.key,cp⟩:=by
 induction L generalizing i with
 | nil=>simp at h
 | cons x r b6=>
   cases i with
   | zero=>simp only [List.getElem?_cons_zero,Option.some.injEq] at h;subst h;rfl
   | succ i=>simp only [List.getElem?_cons_succ] at h;simp [z0,b6 h]
def eH (L:List aQ):List fB→List aQ
 | []=>L
 | .lA i cp::r=>eH (z0 L i cp) r
 | _::r=>eH L r
def jy (j:Nat)(cp:eg):List fB→eg
 | []=>cp
 | .nT i cp'::r=>jy j (bif Nat.beq i j then cp' else cp) r
 | _::r=>jy j cp r
theorem OW (L:List aQ)(r:List fB)(h:fB):eH L (r++[h])=eH (eH L r) [h]:=by
 induction r generalizing L with
 | nil=>rfl
 | cons x r b6=>cases x <;> simp only [List.cons_append,eH] <;> exact b6 _
theorem Jh (j:Nat)(cp:eg)(r:List fB)(h:fB):jy j cp (r++[h])=jy j (jy j cp r) [h]:=by
 induction r generalizing cp with
 | nil=>rfl
 | cons x r b6=>cases x <;> simp only [List.cons_append,jy] <;> exact b6 _
theorem Gb {L:List aQ} :∀ {r:List fB},(∀ h∈r,h.nM=false)→eH L r=L
 | [],_=>rfl
 | h::r,cA=>by
   have:=cA h (by simp);have b6:=Gb (L:=L) (r:=r) (fun x ar=>cA x (by simp [ar]));cases h <;> first | exact b6 | cases this
theorem F5 {j:Nat}{cp:eg} :∀ {r:List fB},(∀ h∈r,h.nM=false)→jy j cp r=cp
 | [],_=>rfl
 | h::r,cA=>by
   have:=cA h (by simp);have b6:=F5 (j:=j) (cp:=cp) (r:=r) (fun x ar=>cA x (by simp [ar]));cases h <;> first | exact b6 | cases this
def qo (w:Nat→Bool)(i:Nat):Nat→List fB→Bool
 | _,[]=>true
 | k,.lA j _::r=>(!(Nat.beq j i)||w k)&&qo w i (k+1) r
 | k,.val _::r=>qo w i (k+1) r
 | k,.new _::r=>qo w i (k+1) r
 | k,.nT _ _::r=>qo w i (k+1) r
theorem Xl {L:List aQ}{i j:Nat}{cp:eg}(h:i≠j):(z0 L i cp)[j]? =L[j]? :=by
 induction L generalizing i j with
 | nil=>rfl
 | cons e r b6=>
   cases i with
   | zero=>cases j with
     | zero=>exact absurd rfl h
     | succ j=>rfl
   | succ i=>cases j with
     | zero=>rfl
     | succ j=>simp only [z0,List.getElem?_cons_succ];exact b6 (by omega)
theorem Ch {L:List aQ}{i:Nat}{w:Nat→Bool} :∀ {r:List fB} (b k:Nat),qo w i k r=true→ (∀ q,q<b→ (∃ j cp,r[q]? =some (.lA j cp))→w (k+q)=false)→ (eH L (r.take b))[i]? =L[i]?
 | [],b,_,_,_=>by simp [eH]
 | h::r,0,_,_,_=>by simp [eH]
 | .lA j cp::r,b+1,k,h,hw=>by
   simp only [qo,Bool.and_eq_true,Bool.or_eq_true,Bool.not_eq_true'] at h;have af0:w k=false:=by simpa using hw 0 (by omega) ⟨j,cp,by simp⟩
   have db:j≠i:=fun e=>by
    rw [e,Nat.beq_refl,af0] at h;rcases h.1 with h | h <;> cases h
   rw [List.take_succ_cons,eH,Ch b (k+1) h.2 (fun q hq ar=>by have:=hw (q+1) (by omega) (by simpa using ar);rw [← this];congr 1;omega),Xl db]
 | .val _::r,b+1,k,h,hw=>by rw [List.take_succ_cons];exact Ch (r:=r) b (k+1) h (fun q hq ar=>by have:=hw (q+1) (by omega) (by simpa using ar);rw [← this];congr 1;omega)
 | .new _::r,b+1,k,h,hw=>by rw [List.take_succ_cons];exact Ch (r:=r) b (k+1) h (fun q hq ar=>by have:=hw (q+1) (by omega) (by simpa using ar);rw [← this];congr 1;omega)
 | .nT _ _::r,b+1,k,h,hw=>by rw [List.take_succ_cons];exact Ch (r:=r) b (k+1) h (fun q hq ar=>by have:=hw (q+1) (by omega) (by simpa using ar);rw [← this];congr 1;omega)
def Nv (P:Program)(o:Oper)(cp:eg):Prop:=
 o.guard=none∧ ∃ k3,(∀ A W,cp.holds A W k3)∧ ∀ (a:Act) W,(execOp a.eval o).run P W= .ok (.value (.pointer (some ⟨W.heap.size,0,none⟩))) (W.alloc k3)
def EP (c:dB)(E:List (Nat×I))(L:List aQ)(o:Oper)(p:Nat)(cp:eg):Prop:=
 o.guard=none∧o.dst=none∧ ∀ a W,bL c E L a W→ ∃ cs eA T,W.heap[p]? =some (.cells cs T (0,0))∧ (execOp a.eval o).run c.P W= .ok .skip (W.setRow p eA)∧cp.holds (aU L++c.b7) W (.cells eA T (0,0))
def q5 (c:dB)(ops:Array Oper)(bw:Nat→Nat)(eE:List (Option Nat))(all:List fB)(E:List (Nat×I))(L:List aQ):Nat→List Oper→List fB→List (List Nat)→Prop
 | _,_,[],_=>True
 | i,o::os,.val τ::hs,d::ds=>(∀ L':List aQ,(∀ (j:Nat) (e:aQ),L[j]? =some e→qo (fun k=>Region.waitsFor .any ops k i) j 0 all=true→L'[j]? =some e)→ix c ops (he bw eE all E d) L' o τ)∧q5 c ops bw eE all E L (i+1) os hs ds
 | i,o::os,.new cp::hs,_::ds=>Nv c.P o cp∧q5 c ops bw eE all E L (i+1) os hs ds
 | i,o::os,.lA k cp::hs,d::ds=>(∃ (p:Nat) (oA:eg),(eH L (all.take i))[k]? =some ⟨some p,oA⟩∧ ∀ L':List aQ,(∀ (j:Nat) (e:aQ),(eH L (all.take i))[j]? =some e→L'[j]? =some e)→EP c (he bw eE all E d) L' o p cp)∧q5 c ops bw eE all E L (i+1) os hs ds
 | i,o::os,.nT k cp::hs,d::ds=>(d.contains k=true∧ ∃ oA:eg,all[k]? =some (.new oA)∧ ∀ (L':List aQ) (q:Nat),L'[q]? =some ⟨some (bw k),jy k oA (all.take i)⟩→EP c (he bw eE all E d) L' o (bw k) cp)∧q5 c ops bw eE all E L (i+1) os hs ds
 | _,_,_,_=>False
def Dh (ops:Array Oper)(n:Nat)(eE:List (Option Nat))(pJ:List (List Nat))(D9:List Bool)(AM:Nat):Bool:=
 decide (eE.length=n)&&decide (n≤ops.size)&&(eE.filterMap id).all (Nat.blt · AM)&&decide (eE.filterMap id).Nodup&&
 ((List.range n).all fun i=>((ops[i]?).map fun o=>(some o.dst==eE[i]?)&&(o.after.all fun e=> !Region.binds .any e||decide (e.on<i))).getD false)&&
 ((List.range n).all fun i=>(pJ.getD i []).all fun j=>decide (j<n)&&Region.waitsFor .any ops i j)&&
 ((List.range n).all fun i=> !(D9.getD i false)||((List.range i).all fun j=> !(D9.getD j false)||Region.waitsFor .any ops i j))&&
 (decide (n=ops.size)||(Region.sinkB .any ops n&&Region.chainB .any ops n))&&
 Region.seqB .any ops (ops.size - n) n ((List.range n).foldl (fun l i=>l.setIfInBounds i true) (Array.replicate ops.size false))
def Ae (E:List (Nat×I))(eE:List Nat):Bool:=match E with
 | []=>true
 | e::r=> !(eE.contains e.1)&&Ae r eE
theorem Jy {eE:List Nat} :∀ {E:List (Nat×I)},Ae E eE=true→ ∀ t τ,look E t=some τ→t ∉ eE
 | [],_,t,τ,h=>by simp [look] at h
 | (s,σ)::r,hd,t,τ,h=>by
   simp only [Ae,Bool.and_eq_true,Bool.not_eq_true'] at hd;simp only [look] at h;by_cases e:Nat.beq s t=true
   ·have:=eQ.1 e;subst this;simpa using hd.1
   simp only [Bool.not_eq_true] at e;rw [e] at h;exact Jy hd.2 t τ h
theorem KH (f g:Nat→Bool)(i:Nat)(a2:f i=true)(bD:g i=false)(h:∀ j,g j=true→f j=true):∀ n,i<n→ ((List.range n).filter g).length<((List.range n).filter f).length:=by
 have le:∀ n,((List.range n).filter g).length≤ ((List.range n).filter f).length:=by
  intro n;induction n with
  | zero=>simp
  | succ n b6=>
    rw [List.range_succ,List.filter_append,List.filter_append,List.length_append,List.length_append]
    have:([n].filter g).length≤ ([n].filter f).length:=by
     cases x3:g n with
     | false=>simp [x3]
     | true=>simp [x3,h n x3]
    omega
 intro n;induction n with
 | zero=>omega
 | succ n b6=>
   intro cf
   rw [List.range_succ,List.filter_append,List.filter_append,List.length_append,List.length_append]
   by_cases e:i=n
   ·subst e
    have:=le i
    simp [a2,bD]
    omega
   have aa:=b6 (by omega)
   have:([n].filter g).length≤ ([n].filter f).length:=by
    cases x3:g n with
    | false=>simp [x3]
    | true=>simp [x3,h n x3]
   omega
theorem Jz {bw:Nat→Nat}{eE:List (Option Nat)}{all:List fB} :∀ {k:Nat} {os:List Oper} {hs:List fB} {ds:List (List Nat)},q5 c ops bw eE all E L k os hs ds→
 ∀ (i:Nat) h,hs[i]? =some h→ ∃ o,os[i]? =some o∧ (match h with
   | .val τ=> ∀ L':List aQ,(∀ (j:Nat) (e:aQ),L[j]? =some e→qo (fun q=>Region.waitsFor .any ops q (k+i)) j 0 all=true→L'[j]? =some e)→ix c ops (he bw eE all E (ds.getD i [])) L' o τ
   | .new cp=>Nv c.P o cp
   | .lA q cp=> ∃ (p:Nat) (oA:eg),(eH L (all.take (k+i)))[q]? =some ⟨some p,oA⟩∧ ∀ L':List aQ,(∀ (j:Nat) (e:aQ),(eH L (all.take (k+i)))[j]? =some e→L'[j]? =some e)→EP c (he bw eE all E (ds.getD i [])) L' o p cp
   | .nT q cp=>(ds.getD i []).contains q=true∧ ∃ oA:eg,all[q]? =some (.new oA)∧ ∀ (L':List aQ) (r:Nat),L'[r]? =some ⟨some (bw q),jy q oA (all.take (k+i))⟩→EP c (he bw eE all E (ds.getD i [])) L' o (bw q) cp)
 | k,os,[],ds,_,i,h,au=>by simp at au
 | k,[],h::hs,ds,cA,_,_,_=>by cases h <;> simp [q5] at cA
 | k,o::os,h::hs,[],cA,_,_,_=>by cases h <;> simp [q5] at cA
 | k,o::os,bO::hs,d::ds,cA,i,h,au=>by
   have hd:q5 c ops bw eE all E L (k+1) os hs ds:=by cases bO <;> exact cA.2
   cases i with
   | zero=>
     simp only [List.getElem?_cons_zero,Option.some.injEq] at au
     subst au
     refine⟨o,by simp,?_⟩
     cases bO <;> exact cA.1
   | succ i=>
     simp only [List.getElem?_cons_succ] at au
     obtain⟨o',aa,ae⟩:=Jz hd i h au
     refine⟨o',by simpa using aa,?_⟩
     rw [show k+(i+1)=k+1+i by omega]
     cases h <;> exact ae
theorem Qo {bw:Nat→Nat}{eE:List (Option Nat)}{hs:List fB}{t:Nat}{τ:I} :∀ {ds:List Nat},look (he bw eE hs E ds) t=some τ→ (∃ j∈ds,eE[j]? =some (some t)∧ ∃ h,hs[j]? =some h∧h.sR (bw j)=some τ)∨look E t=some τ
 | [],h=>.inr h
 | j::r,h=>by
   have rest:look (he bw eE hs E r) t=some τ→ (∃ k∈j::r,eE[k]? =some (some t)∧ ∃ h,hs[k]? =some h∧h.sR (bw k)=some τ)∨look E t=some τ:=fun h=>by
    rcases Qo h with⟨k,aw,aa⟩ | aa
    ·exact .inl ⟨k,List.mem_cons_of_mem _ aw,aa⟩
    exact .inr aa
   simp only [he] at h;split at h
   ·rename_i s aw Ea ub;split at h
    ·rename_i σ mU;simp only [look] at h;by_cases e:Nat.beq s t=true
     ·rw [e] at h;simp only [cond_true,Option.some.injEq] at h;subst h;exact .inl ⟨j,by simp,by rw [Ea,eQ.1 e],aw,ub,mU⟩
     simp only [Bool.not_eq_true] at e;rw [e] at h;exact rest h
    exact rest h
   exact rest h
def tJ (bw:Nat→Nat)(E:List (Nat×I)):Nat→List (Option Nat)→List fB→List (Nat×I)
 | i,some s::hT,.val τ::hs=>(s,τ)::tJ bw E (i+1) hT hs
 | i,some s::hT,.new _::hs=>(s,.eq (.pointer (some ⟨bw i,0,none⟩)))::tJ bw E (i+1) hT hs
 | i,_::hT,_::hs=>tJ bw E (i+1) hT hs
 | _,_,_=>E
def mN (bw:Nat→Nat)(all:List fB)(L:List aQ):Nat→List fB→List aQ
 | i,.new cp::hs=>⟨some (bw i),jy i cp all⟩::mN bw all L (i+1) hs
 | i,_::hs=>mN bw all L (i+1) hs
 | _,[]=>L
theorem Pd {bw:Nat→Nat}{t:Nat}{τ:I} :∀ {eE:List (Option Nat)} {hs:List fB} (k:Nat),look (tJ bw E k eE hs) t=some τ→
 (∃ j:Nat,eE[j]? =some (some t)∧ ∃ h,hs[j]? =some h∧h.sR (bw (k+j))=some τ)∨look E t=some τ
 | [],hs,k,h=>.inr (by cases hs <;> exact h)
 | s::hT,[],k,h=>.inr (by cases s <;> exact h)
 | s::hT,x::hs,k,h=>by
   have rest:look (tJ bw E (k+1) hT hs) t=some τ→ (∃ j:Nat,(s::hT)[j]? =some (some t)∧ ∃ h,(x::hs)[j]? =some h∧h.sR (bw (k+j))=some τ)∨look E t=some τ:=fun h=>by
    rcases Pd (k+1) h with⟨j,aa,ae⟩ | aa
    ·refine .inl ⟨j+1,by simpa using aa,?_⟩;rw [show k+(j+1)=k+1+j by omega];simpa using ae
    exact .inr aa
   have one:∀ (cr:Nat) (σ:I),s=some cr→x.sR (bw k)=some σ→look ((cr,σ)::tJ bw E (k+1) hT hs) t=some τ→ (∃ j:Nat,(s::hT)[j]? =some (some t)∧ ∃ h,(x::hs)[j]? =some h∧h.sR (bw (k+j))=some τ)∨look E t=some τ:=fun cr σ fI mU h=>by
    simp only [look] at h;by_cases e:Nat.beq cr t=true
    ·rw [e] at h;simp only [cond_true,Option.some.injEq] at h;subst h;exact .inl ⟨0,by simp [fI,eQ.1 e],x,by simp,by simpa using mU⟩
    simp only [Bool.not_eq_true] at e;rw [e] at h;exact rest h
   cases s with
   | none=>cases x <;> exact rest h
   | some cr=>
     cases x with
     | val σ=>exact one cr σ rfl rfl h
     | new cp=>exact one cr _ rfl rfl h
     | lA i cp=>exact rest h
     | nT i cp=>exact rest h
theorem Jr {n:Nat}{bo:Array Bool}(inv:HeadInv .any ops n bo)(aR:n≤ops.size)(kR:∀ i,i<n→bo.getD i true=true):
 bo=(List.range n).foldl (fun l i=>l.setIfInBounds i true) (Array.replicate ops.size false):=by
 have key:∀ m,m≤ops.size→ ((List.range m).foldl (fun l i=>l.setIfInBounds i true) (Array.replicate ops.size false)).size=ops.size∧
  ∀ j (d:Bool),j<ops.size→ ((List.range m).foldl (fun l i=>l.setIfInBounds i true) (Array.replicate ops.size false)).getD j d=decide (j<m):=by
  intro m
  induction m with
  | zero=>intro _;exact⟨by simp,fun j d aH=>by simp [aH]⟩
  | succ m b6=>
    intro hm
    obtain⟨aa,ae⟩:=b6 (by omega)
    rw [List.range_succ,List.foldl_append]
    simp only [List.foldl_cons,List.foldl_nil]
    refine⟨by simpa using aa,fun j d aH=>?_⟩
    by_cases e:m=j
    ·subst e
     simp [aa,aH]
    rw [getD_set_ne d e,ae j d aH]
    by_cases aG:j<m
    ·simp [aG];omega
    simp [aG];omega
 obtain⟨aa,ae⟩:=key n aR
 apply Array.ext
 ·rw [inv.size,aa]
 intro i TS af1
 have au:i<ops.size:=by rw [← inv.size];exact TS
 have aG:=ae i true au
 have aq:bo.getD i true=bo[i]:=by simp [TS]
 have aX:((List.range n).foldl (fun l i=>l.setIfInBounds i true) (Array.replicate ops.size false)).getD i true=((List.range n).foldl (fun l i=>l.setIfInBounds i true) (Array.replicate ops.size false))[i]:=by
  simp [af1]
 rw [← aX,aG,← aq]
 by_cases a0:i<n
 ·rw [kR i a0];simp [a0]
 rw [inv.tail i (by omega) au];simp [a0]
theorem zo (bw:Nat→Nat)(all:List fB)(L:List aQ):∀ (hs:List fB) (i:Nat),mN bw all L i hs=mN bw all [] i hs++L
 | [],_=>rfl
 | .new cp::hs,i=>by simp only [mN];rw [zo bw all L hs (i+1)];rfl
 | .val _::hs,i=>zo bw all L hs (i+1)
 | .lA _ _::hs,i=>zo bw all L hs (i+1)
 | .nT _ _::hs,i=>zo bw all L hs (i+1)
theorem JA {bw:Nat→Nat}{all:List fB}{e:aQ} :∀ {hs:List fB} {i:Nat},e∈mN bw all [] i hs→ ∃ (j:Nat) (cp:eg),hs[j]? =some (.new cp)∧e=⟨some (bw (i+j)),jy (i+j) cp all⟩
 | [],_,h=>by simp [mN] at h
 | x::hs,i,h=>by
   have rest:e∈mN bw all [] (i+1) hs→ ∃ (j:Nat) (cp:eg),(x::hs)[j]? =some (.new cp)∧e=⟨some (bw (i+j)),jy (i+j) cp all⟩:=fun h=>by
    obtain⟨j,cp,aa,ae⟩:=JA (hs:=hs) (i:=i+1) h;refine⟨j+1,cp,by simpa using aa,?_⟩;rw [show i+(j+1)=i+1+j by omega];exact ae
   cases x with
   | new cp=>
     rcases List.mem_cons.1 h with h | h
     ·exact⟨0,cp,by simp,by simpa using h⟩
     exact rest h
   | val _=>exact rest h
   | lA _ _=>exact rest h
   | nT _ _=>exact rest h
theorem Ou {bw:Nat→Nat}{all:List fB} :∀ (hs:List fB) (i:Nat),(∀ (j k:Nat) (u v:eg),hs[j]? =some (.new u)→hs[k]? =some (.new v)→bw (i+j)=bw (i+k)→j=k)→ (aU (mN bw all [] i hs)).Nodup
 | [],_,_=>by simp [mN,aU]
 | x::hs,i,h=>by
   have aO:(aU (mN bw all [] (i+1) hs)).Nodup:=Ou hs (i+1) fun j k u v aa ae aG=>by
    have:=h (j+1) (k+1) u v (by simpa using aa) (by simpa using ae) (by rw [show i+(j+1)=i+1+j by omega,show i+(k+1)=i+1+k by omega];exact aG);omega
   cases x with
   | val _=>exact aO
   | lA _ _=>exact aO
   | nT _ _=>exact aO
   | new cp=>
     simp only [mN,aU]
     refine List.nodup_cons.2 ⟨fun hm=>?_,aO⟩
     obtain⟨e,he,aw⟩:=mi.1 hm
     obtain⟨j,u,aa,ae⟩:=JA he
     rw [ae] at aw
     simp only [Option.some.injEq] at aw
     have:=h 0 (j+1) cp u (by simp) (by simpa using aa) (by rw [show i+(j+1)=i+1+j by omega];simpa using aw.symm)
     omega
def fS (bw:Nat→Nat)(all:List fB)(b:Nat)(eb:List Nat):List aQ:=eb.map fun j=>⟨some (bw j),match all[j]? with | some (.new cp)=>jy j cp (all.take b) | _=>.dead⟩
theorem Cz (bw:Nat→Nat)(all:List fB)(b:Nat):∀ (eb:List Nat),aU (fS bw all b eb)=eb.map bw
 | []=>rfl
 | j::eb=>by
   have:=Cz bw all b eb;simp only [fS,List.map_cons,aU] at this ⊢;rw [this]
structure Ax (c:dB)(n:Nat)(eE:List (Option Nat))(hs:List fB)(E:List (Nat×I))(L:List aQ)(bo:Array Bool)(bw:Nat→Nat)(eb:List Nat)(b:Nat)(a:Act)(W:World):Prop where
 st:bL c E (eH L (hs.take b)++fS bw hs b eb) a W
 done:∀ (j:Nat) s h τ,j<n→bo.getD j false=true→eE[j]? =some (some s)→hs[j]? =some h→h.sR (bw j)=some τ→ ∃ v,a.tmps[s]? =some v∧τ.holds (aU (eH L (hs.take b)++fS bw hs b eb)++c.b7) W v
 news:∀ (j:Nat),j∈eb↔ (j<n∧bo.getD j false=true∧ ∃ cp,hs[j]? =some (.new cp))
 stored:∀ (j:Nat) h,hs[j]? =some h→h.nM=true→ (bo.getD j false=true↔j<b)
 ble:b≤n
theorem Ze {hs:List fB}{b i:Nat}{h:fB}(hb:b≤i)(au:hs[i]? =some h)(aR:∀ (j:Nat) x,b≤j→j<i→hs[j]? =some x→x.nM=false):
 ∃ r,hs.take i=hs.take b++r∧ ∀ x∈r,x.nM=false:=by
 refine⟨(hs.drop b).take (i - b),?_,fun x ar=>?_⟩
 ·rw [← List.take_add];congr 1;omega
 obtain⟨j,aH⟩:=List.mem_iff_getElem?.1 ar
 rw [List.getElem?_take] at aH
 split at aH
 ·rw [List.getElem?_drop] at aH
  exact aR (b+j) x (by omega) (by omega) aH
 cases aH
theorem Kd (L:List aQ)(r s:List fB):eH L (r++s)=eH (eH L r) s:=by
 induction r generalizing L with
 | nil=>rfl
 | cons x r b6=>cases x <;> simp only [List.cons_append,eH] <;> exact b6 _
theorem JM (j:Nat)(cp:eg)(r s:List fB):jy j cp (r++s)=jy j (jy j cp r) s:=by
 induction r generalizing cp with
 | nil=>rfl
 | cons x r b6=>cases x <;> simp only [List.cons_append,jy] <;> exact b6 _
theorem w9 {L R:List aQ}(h:L.Perm R):(aU L).Perm (aU R):=by
 induction h with
 | nil=>exact .nil
 | cons x _ b6=>cases aw:x.key <;> simp only [aU,aw] <;> first | exact b6 | exact b6.cons _
 | swap x y l=>
   cases ar:x.key <;> cases a5:y.key <;> simp only [aU,ar,a5]
   all_goals first | exact .refl _ | exact .swap _ _ _
 | trans _ _ aa ae=>exact aa.trans ae
theorem bL.perm {E L L' a W}(h:bL c E L a W)(p:L.Perm L'):bL c E L' a W:=
 h.sub (fun e he=>p.mem_iff.2 he) ((w9 p).nodup_iff.1 h.nodup)
theorem Cb {j:Nat}{cp:eg} :∀ {r:List fB},(∀ q x,fB.nT q x∈r→q≠j)→jy j cp r=cp
 | [],_=>rfl
 | .nT q x::r,h=>by
   have aa:=h q x (by simp);have e:Nat.beq q j=false:=by
    cases hb:Nat.beq q j with
    | false=>rfl
    | true=>exact absurd (eQ.1 hb) aa
   simp only [jy,e,cond_false];exact Cb fun q x hm=>h q x (by simp [hm])
 | .val _::r,h=>Cb (r:=r) fun q x hm=>h q x (by simp [hm])
 | .new _::r,h=>Cb (r:=r) fun q x hm=>h q x (by simp [hm])
 | .lA _ _::r,h=>Cb (r:=r) fun q x hm=>h q x (by simp [hm])
theorem OG (f:Nat→Nat):∀ (l:List Nat),(l.map f).Nodup→l.Nodup
 | [],_=>by simp
 | x::r,h=>by
   simp only [List.map_cons] at h;obtain⟨aa,ae⟩:=List.nodup_cons.1 h;exact List.nodup_cons.2 ⟨fun hm=>aa (List.mem_map.2 ⟨x,hm,rfl⟩),OG f r ae⟩
theorem Z5 {bw oB:Nat→Nat}{all:List fB}{b:Nat}{eb:List Nat}(h:∀ j∈eb,oB j=bw j):fS oB all b eb=fS bw all b eb:=by
 unfold fS;exact List.map_congr_left fun j aH=>by rw [h j aH]
theorem Yt {n:Nat}{eE:List (Option Nat)}{hs:List fB}{pJ:List (List Nat)}(iy:Dh ops n eE pJ (hs.map fB.nM) c.n=true)(aA:Ae E (eE.filterMap id)=true)(hlen:hs.length=n)
 (cA:∀ bw,q5 c ops bw eE hs E L 0 ops.toList hs pJ) (bM:∀ bw,ah c ops Q (ops.toList.drop n) (tJ bw E 0 eE hs) (mN bw hs (eH L hs) 0 hs)):
 ∀ m (bo:Array Bool) (bw:Nat→Nat) (eb:List Nat) (b:Nat) (a:Act) (W:World),((List.range n).filter fun i=> !bo.getD i true).length≤m→HeadInv .any ops n bo→Ax c n eE hs E L bo bw eb b a W→
   wpAnyIn c.F 9 c.P .any ops Q (m+(ops.size - n)) bo a W:=by
 simp only [Dh,Bool.and_eq_true,decide_eq_true_eq,Bool.or_eq_true] at iy
 obtain⟨⟨⟨⟨⟨⟨⟨⟨pQ,aR⟩,cf⟩,iD⟩,afa⟩,Sz⟩,afb⟩,xy⟩,rf⟩:=iy
 have uc:∀ i,i<n→ ∃ o,ops[i]? =some o∧eE[i]? =some o.dst∧ ∀ e∈o.after,Region.binds .any e=true→e.on<i:=by
  intro i au;have aa:=List.all_eq_true.1 afa i (List.mem_range.2 au);cases bg:ops[i]? with
  | none=>simp [bg] at aa
  | some o=>
    simp only [bg,Option.map_some,Option.getD_some,Bool.and_eq_true,beq_iff_eq] at aa
    refine⟨o,rfl,aa.1.symm,fun e he hb=>?_⟩
    have:=Array.all_eq_true_iff_forall_mem.1 aa.2 e he
    simp [hb] at this
    exact this
 have Ht:∀ (i s:Nat),eE[i]? =some (some s)→s<c.n:=fun i s h=>by
  have:s∈eE.filterMap id:=List.mem_filterMap.2 ⟨some s,List.mem_of_getElem? h,rfl⟩;have:=List.all_eq_true.1 cf s this;simpa using this
 have Tq:∀ (i j s:Nat),eE[i]? =some (some s)→eE[j]? =some (some s)→i=j:=by
  have key:∀ (l:List (Option Nat)),(l.filterMap id).Nodup→ ∀ (i j s:Nat),l[i]? =some (some s)→l[j]? =some (some s)→i=j:=by
   intro l;induction l with
   | nil=>intro _ i j s h;simp at h
   | cons x r b6=>
     intro iD i j s au aH
     have aO:(r.filterMap id).Nodup:=by
      cases x with
      | none=>simpa using iD
      | some y=>simp only [List.filterMap_cons_some (f:=id) (a:=some y) (b:=y) rfl] at iD;exact(List.nodup_cons.1 iD).2
     have vF:x=some s→s ∉ r.filterMap id:=fun e=>by
      subst e;simp only [List.filterMap_cons_some (f:=id) (a:=some s) (b:=s) rfl] at iD;exact(List.nodup_cons.1 iD).1
     cases i with
     | zero=>
       simp only [List.getElem?_cons_zero,Option.some.injEq] at au
       cases j with
       | zero=>rfl
       | succ j=>
         simp only [List.getElem?_cons_succ] at aH
         exact absurd (List.mem_filterMap.2 ⟨some s,List.mem_of_getElem? aH,rfl⟩:s∈r.filterMap id) (vF au)
     | succ i=>
       simp only [List.getElem?_cons_succ] at au
       cases j with
       | zero=>
         simp only [List.getElem?_cons_zero,Option.some.injEq] at aH
         exact absurd (List.mem_filterMap.2 ⟨some s,List.mem_of_getElem? au,rfl⟩:s∈r.filterMap id) (vF aH)
       | succ j=>
         simp only [List.getElem?_cons_succ] at aH
         rw [b6 aO i j s au aH]
  exact key eE iD
 intro m
 induction m with
 | zero=>
   intro bo bw eb b a W hm inv mid
   have kR:∀ i,i<n→bo.getD i true=true:=by
    intro i au;cases h:bo.getD i true with
    | true=>rfl
    | false=>
      have:i∈ (List.range n).filter fun i=> !bo.getD i true:=List.mem_filter.2 ⟨List.mem_range.2 au,by rw [h];rfl⟩
      rw [List.length_eq_zero_iff.1 (Nat.le_zero.1 hm)] at this
      cases this
   have an:=Jr inv aR kR
   rw [← an] at rf
   have xz:(ops.toList.drop n).length=ops.size - n:=by simp
   rw [Nat.zero_add,← xz]
   rw [← xz] at rf
   refine B0 (ops.toList.drop n) n bo a W (fun j=>by simp) rf (bM bw a W ?_)
   have qd:∀ j,j<n→bo.getD j false=true:=fun j ud=>by
    have aG:=kR j ud;have a0:j<bo.size:=by rw [inv.size];omega
    simpa [a0] using aG
   have ud:∀ (j:Nat) (h:fB),hs[j]? =some h→j<n:=fun j h aH=>by have:=(List.getElem?_eq_some_iff.1 aH).1;omega
   have Ri:∀ x∈hs.drop b,x.nM=false:=fun x ar=>by
    obtain⟨j,aH⟩:=List.mem_iff_getElem?.1 ar;rw [List.getElem?_drop] at aH;cases iv:x.nM with
    | false=>rfl
    | true=>
      have:=(mid.stored (b+j) x aH iv).1 (qd _ (ud _ _ aH))
      omega
   have Tr:eH L hs=eH L (hs.take b):=by
    conv=>lhs;rw [← List.take_append_drop b hs]
    rw [Kd,Gb Ri]
   have Ay:∀ (j:Nat) cp,jy j cp hs=jy j cp (hs.take b):=fun j cp=>by
    conv=>lhs;rw [← List.take_append_drop b hs]
    rw [JM,F5 Ri]
   have Lj:(eb.map bw).Nodup:=by
    have:=mid.st.nodup;rw [ft,Cz] at this;exact(List.nodup_append.1 this).2.1
   have afc:∀ (j k:Nat),j∈eb→k∈eb→bw j=bw k→j=k:=by
    have key:∀ (l:List Nat),(l.map bw).Nodup→ ∀ j k:Nat,j∈l→k∈l→bw j=bw k→j=k:=by
     intro l;induction l with
     | nil=>intro _ j k h;cases h
     | cons x r af2=>
       intro aR j k aH aw e
       simp only [List.map_cons] at aR
       obtain⟨aa,ae⟩:=List.nodup_cons.1 aR
       rcases List.mem_cons.1 aH with aG | aH
       ·rcases List.mem_cons.1 aw with a0 | aw
        ·rw [aG,a0]
        exact absurd (List.mem_map.2 ⟨k,aw,by rw [← e,aG]⟩) aa
       rcases List.mem_cons.1 aw with a0 | aw
       ·exact absurd (List.mem_map.2 ⟨j,aH,by rw [e,a0]⟩) aa
       exact af2 ae j k aH aw e
    exact key eb Lj
   have Mo:∀ (j:Nat) cp,hs[j]? =some (.new cp)→j∈eb:=fun j cp aH=>(mid.news j).2 ⟨ud j _ aH,qd j (ud j _ aH),cp,aH⟩
   have Lk:∀ e∈mN bw hs [] 0 hs,e∈fS bw hs b eb:=fun e he=>by
    obtain⟨j,cp,aa,ae⟩:=JA he;rw [Nat.zero_add] at ae;refine List.mem_map.2 ⟨j,Mo j cp aa,?_⟩;simp only [aa];rw [ae,Ay]
   have TT:bL c E (mN bw hs (eH L hs) 0 hs) a W:=by
    rw [zo,Tr];refine mid.st.sub (fun e he=>?_) ?_
    ·rcases List.mem_append.1 he with he | he
     ·exact List.mem_append.2 (.inr (Lk e he))
     exact List.mem_append.2 (.inl he)
    rw [ft];have gf:=mid.st.nodup;rw [ft,Cz] at gf;obtain⟨aa,ae,aG⟩:=List.nodup_append.1 gf;refine List.nodup_append.2 ⟨Ou hs 0 fun j k u v aq aX dd=>?_,aa,fun x ar y a5 e=>?_⟩
    ·simp only [Nat.zero_add] at dd;exact afc j k (Mo j u aq) (Mo k v aX) dd
    subst e;obtain⟨e,he,vS⟩:=mi.1 ar;have:x∈aU (fS bw hs b eb):=mi.2 ⟨e,Lk e he,vS⟩;rw [Cz] at this;exact aG x a5 x this rfl
   have lU:∀ k∈aU (mN bw hs (eH L hs) 0 hs)++c.b7,k∈aU (eH L (hs.take b)++fS bw hs b eb)++c.b7:=fun k aw=>by
    rw [zo,ft,Tr] at aw;rw [ft];simp only [List.mem_append] at aw ⊢;rcases aw with(aw | aw) | aw
    ·obtain⟨e,he,vS⟩:=mi.1 aw;exact .inl (.inr (mi.2 ⟨e,Lk e he,vS⟩))
    ·exact .inl (.inl aw)
    exact .inr aw
   refine { TT with env:=fun t τ fy=>?_ }
   rcases Pd 0 fy with⟨j,aa,h,ae,aG⟩ | aa
   ·rw [Nat.zero_add] at aG
    obtain⟨v,a0,a7⟩:=mid.done j t h τ (ud j h ae) (qd j (ud j h ae)) aa ae aG
    exact⟨v,a0,τ.mono (.drop lU) a7⟩
   exact TT.env t τ aa
 | succ m b6=>
   intro bo bw eb b a W hm inv mid
   by_cases kR:∀ i,i<n→bo.getD i true=true
   ·have bO:((List.range n).filter fun i=> !bo.getD i true).length≤m:=by
     have:((List.range n).filter fun i=> !bo.getD i true)= []:=List.filter_eq_nil_iff.2 fun i au=>by simp [kR i (List.mem_range.1 au)]
     rw [this];simp
    have aa:=b6 bo bw eb b a W bO inv mid
    have more:∀ f (bo:Array Bool) a W,wpAnyIn c.F 9 c.P .any ops Q f bo a W→wpAnyIn c.F 9 c.P .any ops Q (f+1) bo a W:=by
     intro f;induction f with
     | zero=>intro bo a W h;exact⟨fun _=>h.2,fun i au=>by rw [h.1] at au;cases au⟩
     | succ f Eb=>intro bo a W h;exact⟨h.1,fun i au=>wpOpIn_mono (fun hM rM de=>Eb _ hM rM de) (h.2 i au)⟩
    rw [show m+1+(ops.size - n)=(m+(ops.size - n))+1 by omega]
    exact more _ _ _ _ aa
   rw [show m+1+(ops.size - n)=(m+(ops.size - n))+1 by omega]
   have hex:∃ i,i<n∧bo.getD i true=false:=by
    have aa: ¬ ∀ i,i<n→bo.getD i true=true:=kR;false_or_by_contra;rename_i ae;exact aa fun i au=>by
     cases h:bo.getD i true with
     | true=>rfl
     | false=>exact absurd ⟨i,au,h⟩ ae
   have CN:∀ t∈Region.ready .any ops bo,t<n:=by
    intro t rr;rcases Nat.lt_or_ge t n with h | h
    ·exact h
    obtain⟨i,au,kh⟩:=hex;rcases xy with aa | aa
    ·obtain⟨_,o,bg,_⟩:=mem_ready.1 rr;have:=(Array.getElem?_eq_some_iff.1 bg).1;omega
    have Ts:n<ops.size:=by
     obtain⟨_,o,bg,_⟩:=mem_ready.1 rr;have:=(Array.getElem?_eq_some_iff.1 bg).1;omega
    exact absurd rr (tail_waits aa.1 aa.2 Ts inv _ i rfl au kh t h)
   refine⟨fun bO=>?_,fun i au=>?_⟩
   ·exfalso
    have aa2:∀ k,∀ i,i≤k→i<n→bo.getD i true=false→ ∃ i,i<n∧bo.getD i true=false∧ ∀ j,j<i→bo.getD j true=true:=by
     intro k;induction k with
     | zero=>intro i qC au hu;exact⟨i,au,hu,fun j aH=>by omega⟩
     | succ k Ec=>
       intro i qC au hu
       by_cases hq:∀ j,j<i→bo.getD j true=true
       ·exact⟨i,au,hu,hq⟩
       have:∃ j,j<i∧bo.getD j true=false:=by
        false_or_by_contra;rename_i ae;exact hq fun j aH=>by
         cases h:bo.getD j true with
         | true=>rfl
         | false=>exact absurd ⟨j,aH,h⟩ ae
       obtain⟨j,aH,af3⟩:=this
       exact Ec j (by omega) (by omega) af3
    obtain⟨i0,Ed,af4⟩:=hex
    obtain⟨i,au,hu,LV⟩:=aa2 i0 i0 (Nat.le_refl _) Ed af4
    obtain⟨o,bg,_,GS⟩:=uc i au
    have:i∈Region.ready .any ops bo:=mem_ready.2 ⟨hu,o,bg,fun e he hb=>by
     have aa:=LV e.on (GS e he hb);have ae:e.on<bo.size:=by rw [inv.size];have:=GS e he hb;omega
     simpa [ae] using aa⟩
    rw [bO] at this
    cases this
   have fc:=CN i au
   obtain⟨o,bg,nN,GS⟩:=uc i fc
   obtain⟨kh,o',rq,qd⟩:=mem_ready.1 au
   have af5:o'=o:=Option.some.inj (rq.symm.trans bg)
   subst af5
   obtain⟨h,eX⟩:∃ h,hs[i]? =some h:=⟨hs[i]'(by omega),by simp⟩
   obtain⟨cR,e9,kD⟩:=Jz (cA bw) i h eX
   have afd:cR=o':=by
    rw [Array.getElem?_toList] at e9;exact Option.some.inj (e9.symm.trans bg)
   subst afd
   have tK:((List.range n).filter fun j=> !(bo.setIfInBounds i true).getD j true).length≤m:=by
    have:((List.range n).filter fun j=> !(bo.setIfInBounds i true).getD j true).length<((List.range n).filter fun j=> !bo.getD j true).length:=by
     refine KH (fun j=> !bo.getD j true) (fun j=> !(bo.setIfInBounds i true).getD j true) i (by simp only [kh];rfl) ?_ (fun j aH=>?_) n fc
     ·have:i<bo.size:=by rw [inv.size];omega
      simp [this]
     by_cases e:i=j
     ·subst e;simp only [kh];rfl
     rw [getD_set_ne true e] at aH;exact aH
    omega
   have xO:=inv.set au fc
   have vG:i<bo.size:=by rw [inv.size];omega
   have z1:(bo.setIfInBounds i true).getD i false=true:=by simp [vG]
   have om:bo.getD i false=false:=getD_both kh
   have afe:i ∉ eb:=fun hm=>by have:=((mid.news i).1 hm).2.1;rw [om] at this;cases this
   have Hu:∀ j∈pJ.getD i [],j<n∧bo.getD j false=true:=fun j aH=>by
    have aG:=List.all_eq_true.1 (List.all_eq_true.1 Sz i (List.mem_range.2 fc)) j aH;simp only [Bool.and_eq_true,decide_eq_true_eq] at aG;obtain⟨pg,mw,e,he,hb,pR⟩:=Region.waitsFor_spec aG.2;have:pg=cR:=Option.some.inj (mw.symm.trans bg);subst this;have a0:=qd e he hb;rw [pR] at a0;exact⟨aG.1,a0⟩
   have eu:bL c (he bw eE hs E (pJ.getD i [])) (eH L (hs.take b)++fS bw hs b eb) a W:=by
    refine { mid.st with env:=fun t σ fy=>?_ };rcases Qo fy with⟨j,aH,aa,x,ae,aG⟩ | aa
    ·exact mid.done j t x σ (Hu j aH).1 (Hu j aH).2 aa ae aG
    exact mid.st.env t σ aa
   have Qp:h.nM=true→b≤i∧ ∃ r,hs.take i=hs.take b++r∧ ∀ x∈r,x.nM=false:=fun Tt=>by
    have HS:b≤i:=by
     rcases Nat.lt_or_ge i b with aa | aa
     ·have:=(mid.stored i h eX Tt).2 aa;rw [om] at this;cases this
     exact aa
    refine⟨HS,Ze HS eX fun j x qz nv ar=>?_⟩;cases iv:x.nM with
    | false=>rfl
    | true=>
      have aG:=List.all_eq_true.1 afb i (List.mem_range.2 fc)
      have aq:(hs.map fB.nM).getD i false=true:=by simp [eX,Tt]
      simp only [aq,Bool.not_true,Bool.false_or] at aG
      have a0:=List.all_eq_true.1 aG j (List.mem_range.2 nv)
      have aX:(hs.map fB.nM).getD j false=true:=by simp [ar,iv]
      simp only [aX,Bool.not_true,Bool.false_or] at a0
      obtain⟨pg,mw,e,he,hb,pR⟩:=Region.waitsFor_spec a0
      have:pg=cR:=Option.some.inj (mw.symm.trans bg)
      subst this
      have a7:=qd e he hb
      rw [pR] at a7
      have:=(mid.stored j x ar iv).1 a7
      omega
   unfold wpOpIn
   simp only [bg]
   cases h with
   | val τ=>
     simp only at kD
     have af6:=kD (eH L (hs.take b)++fS bw hs b eb) (fun j e aH hu=>by
      have aa:(eH L (hs.take b))[j]? =some e:=by
       rw [Ch b 0 hu (fun q hq ⟨qN,cp',ar⟩=>by
        have HT:=(mid.stored q _ ar rfl).2 hq;cases hw:Region.waitsFor .any ops (0+q) (0+i) with
        | false=>rfl
        | true=>
          obtain⟨Mp,Hv,e',HU,x4,Tu⟩:=Region.waitsFor_spec hw
          rw [Nat.zero_add] at Hv Tu
          have:=inv.closed q Mp Hv HT e' HU x4
          rw [Tu,om] at this
          cases this)]
       exact aH
      rw [List.getElem?_append_left (List.getElem?_eq_some_iff.1 aa).1];exact aa)
     obtain⟨aa,ae⟩:=af6 a W eu
     have SA:∀ v W',Fr [] W W'→τ.holds (aU (eH L (hs.take b)++fS bw hs b eb)++c.b7) W' v→Ax c n eE hs E L (bo.setIfInBounds i true) bw eb b (a.put cR.dst v) W':=by
      intro v W' f a6;have lE:=mid.st.world f;refine⟨?_,fun j cr x σ aH an fI ar mU=>?_,fun j=>?_,fun j x ar iv=>?_,mid.ble⟩
      ·cases hd:cR.dst with
       | none=>exact lE
       | some s=>
         rw [hd] at nN
         refine { (lE.put (d:=s) (Ht i s nN) a6) with env:=fun t σ fy=>?_ }
         have db:s≠t:=fun e=>Jy aA t σ fy (by rw [← e];exact List.mem_filterMap.2 ⟨some s,List.mem_of_getElem? nN,rfl⟩)
         obtain⟨u,a7,bn⟩:=lE.env t σ fy
         exact⟨u,by simp only [Act.put];rw [Array.getElem?_setIfInBounds_ne db];exact a7,bn⟩
      ·by_cases e:i=j
       ·subst e;rw [nN] at fI;rw [eX] at ar;cases ar;simp only [fB.sR,Option.some.injEq] at mU;subst mU;simp only [Option.some.injEq] at fI;rw [fI];exact⟨v,by rw [fI] at nN;simp [Act.put,lE.size,Ht i cr nN],a6⟩
       rw [getD_set_ne false e] at an;obtain⟨u,a7,bn⟩:=mid.done j cr x σ aH an fI ar mU;refine⟨u,?_,σ.mono (.ej f) bn⟩;cases hd:cR.dst with
       | none=>exact a7
       | some s=>
         rw [hd] at nN
         have db:s≠cr:=fun aX=>e (Tq i j s nN (by rw [aX];exact fI))
         simp only [Act.put];rw [Array.getElem?_setIfInBounds_ne db];exact a7
      ·rw [mid.news j];by_cases e:i=j
       ·subst e;constructor
        ·rintro ⟨_,a7,_⟩;rw [om] at a7;cases a7
        rintro ⟨_,_,cp,a7⟩;rw [eX] at a7;cases a7
       rw [getD_set_ne false e]
      have e:i≠j:=fun e=>by subst e;rw [eX] at ar;cases ar;cases iv
      rw [getD_set_ne false e];exact mid.stored j x ar iv
     split
     ·rename_i hw
      exact(aa hw).wpIn fun v W' ⟨f,a6⟩=>b6 _ bw eb b _ _ tK xO (SA v W' f a6)
     rename_i hw
     have HV:Region.wanted cR (yielded ops a.tmps)=false:=by simpa using hw
     exact⟨fun _ _=>trivial,b6 _ bw eb b _ _ tK xO (SA undef W (.refl _ _) (ae HV))⟩
   | new cp=>
     simp only at kD
     obtain⟨Ee,k3,fe,ja⟩:=kD
     have ac1:∀ q x,fB.nT q x∈hs.take b→q≠i:=fun q x hm e=>by
      subst e;obtain⟨j,aH⟩:=List.mem_iff_getElem?.1 hm;rw [List.getElem?_take] at aH;split at aH
      ·rename_i Mq;have Ef:=(mid.stored j _ aH rfl).2 Mq;have ud:j<n:=by have:=(List.getElem?_eq_some_iff.1 aH).1;omega
       obtain⟨pg,mw,TU⟩:=Jz (cA bw) j _ aH;simp only at TU;have aG:=List.all_eq_true.1 (List.all_eq_true.1 Sz j (List.mem_range.2 ud)) q (by simpa using TU.1);simp only [Bool.and_eq_true,decide_eq_true_eq] at aG;obtain⟨Mp,Hv,e,he,hb,pR⟩:=Region.waitsFor_spec aG.2;have:=inv.closed j Mp Hv Ef e he hb;rw [pR,om] at this;cases this
      cases aH
     have Hw:jy i cp (hs.take b)=cp:=Cb ac1
     let oB:Nat→Nat:=fun j=>if j=i then W.heap.size else bw j
     have af7:∀ j,j∈eb→oB j=bw j:=fun j aH=>if_neg (fun e=>afe (by rw [← e];exact aH))
     have Mr:oB i=W.heap.size:=if_pos rfl
     have sG:eH L (hs.take b)++fS oB hs b (i::eb)=eH L (hs.take b)++(⟨some W.heap.size,cp⟩::fS bw hs b eb):=by
      have:fS oB hs b (i::eb)=⟨some W.heap.size,cp⟩::fS oB hs b eb:=by simp only [fS,List.map_cons,eX,Mr,Hw]
      rw [this,Z5 af7]
     have DO:Ax c n eE hs E L (bo.setIfInBounds i true) oB (i::eb) b (a.put cR.dst (.pointer (some ⟨W.heap.size,0,none⟩))) (W.alloc k3):=by
      have lE:bL c E (eH L (hs.take b)++fS oB hs b (i::eb)) a (W.alloc k3):=by
       rw [sG];exact(mid.st.alloc (fe _ _)).perm List.perm_middle.symm
      have hZ:Ext (aU (eH L (hs.take b)++fS bw hs b eb)++c.b7) W (aU (eH L (hs.take b)++fS oB hs b (i::eb))++c.b7) (W.alloc k3):=by
       refine⟨by simp,fun k aw _=>CM W k3 k aw,fun k aw cf=>?_⟩;rw [sG] at aw;simp only [ft,aU,List.mem_append,List.mem_cons] at aw ⊢;rcases aw with(h | h | h) | h
       ·exact .inl (.inl h)
       ·omega
       ·exact .inl (.inr h)
       exact .inr h
      refine⟨?_,fun j cr x σ aH an fI ar mU=>?_,fun j=>?_,fun j x ar iv=>?_,mid.ble⟩
      ·cases hd:cR.dst with
       | none=>exact lE
       | some s=>
         rw [hd] at nN
         refine { (lE.put (d:=s) (τ:= .any) (Ht i s nN) trivial) with env:=fun t σ fy=>?_ }
         have db:s≠t:=fun e=>Jy aA t σ fy (by rw [← e];exact List.mem_filterMap.2 ⟨some s,List.mem_of_getElem? nN,rfl⟩)
         obtain⟨u,a7,bn⟩:=lE.env t σ fy
         exact⟨u,by simp only [Act.put];rw [Array.getElem?_setIfInBounds_ne db];exact a7,bn⟩
      ·by_cases e:i=j
       ·subst e;rw [nN] at fI;rw [eX] at ar;cases ar;simp only [fB.sR,Option.some.injEq] at mU;subst mU;simp only [Option.some.injEq] at fI;rw [fI];exact⟨.pointer (some ⟨W.heap.size,0,none⟩),by rw [fI] at nN;simp [Act.put,lE.size,Ht i cr nN],by rw [Mr];rfl⟩
       rw [getD_set_ne false e] at an;have af8:oB j=bw j:=if_neg (fun e'=>e e'.symm);rw [af8] at mU;obtain⟨u,a7,bn⟩:=mid.done j cr x σ aH an fI ar mU;refine⟨u,?_,σ.mono hZ bn⟩;cases hd:cR.dst with
       | none=>exact a7
       | some s=>
         rw [hd] at nN
         have db:s≠cr:=fun aX=>e (Tq i j s nN (by rw [aX];exact fI))
         simp only [Act.put];rw [Array.getElem?_setIfInBounds_ne db];exact a7
      ·rw [List.mem_cons,mid.news j];by_cases e:i=j
       ·subst e;exact⟨fun _=>⟨fc,z1,cp,eX⟩,fun _=>.inl rfl⟩
       rw [getD_set_ne false e];exact⟨fun h=>h.resolve_left (fun e'=>e e'.symm),.inr⟩
      have e:i≠j:=fun e=>by subst e;rw [eX] at ar;cases ar;cases iv
      rw [getD_set_ne false e];exact mid.stored j x ar iv
     rw [if_pos (by simp [Region.wanted,Ee])]
     refine WR (ja a W) ?_
     exact b6 _ oB (i::eb) b _ _ tK xO DO
   | lA q cp=>
     simp only at kD
     obtain⟨HS,r,x5,pS⟩:=Qp rfl
     have TV:eH L (hs.take i)=eH L (hs.take b):=by rw [x5,Kd,Gb pS]
     rw [Nat.zero_add,TV] at kD
     obtain⟨p,oA,hq,vT⟩:=kD
     have kA:(eH L (hs.take b)++fS bw hs b eb)[q]? =some ⟨some p,oA⟩:=by
      rw [List.getElem?_append_left (List.getElem?_eq_some_iff.1 hq).1];exact hq
     obtain⟨Ee,Hx,vT⟩:=vT (eH L (hs.take b)++fS bw hs b eb) (fun j e aH=>by
      rw [List.getElem?_append_left (List.getElem?_eq_some_iff.1 aH).1];exact aH)
     obtain⟨cs,eA,T,aa,ae,aG⟩:=vT a W eu
     have Ea:=mid.st.store kA aa aG
     have Af:hs.take (i+1)=hs.take i++[.lA q cp]:=by rw [List.take_add_one,eX];rfl
     have x6:eH L (hs.take (i+1))=(eH L (hs.take b)).set q ⟨some p,cp⟩:=by
      rw [Af,OW,TV];simp only [eH];exact Ys hq
     have Ms:fS bw hs (i+1) eb=fS bw hs b eb:=by
      unfold fS;refine List.map_congr_left fun j _=>?_;congr 1;split
      ·rw [Af,Jh,x5,JM,F5 pS];rfl
      rfl
     have Eg:eH L (hs.take (i+1))++fS bw hs (i+1) eb=(eH L (hs.take b)++fS bw hs b eb).set q ⟨some p,cp⟩:=by
      rw [x6,Ms,List.set_append_left _ _ (List.getElem?_eq_some_iff.1 hq).1]
     have l2:aU (eH L (hs.take (i+1))++fS bw hs (i+1) eb)=aU (eH L (hs.take b)++fS bw hs b eb):=by rw [Eg];exact zK (cp:=cp) kA
     have lg:p∈aU (eH L (hs.take b)++fS bw hs b eb):=mi.2 ⟨_,List.mem_of_getElem? kA,rfl⟩
     have hZ:Ext (aU (eH L (hs.take b)++fS bw hs b eb)++c.b7) W (aU (eH L (hs.take b)++fS bw hs b eb)++c.b7) (W.setRow p eA):=
      ⟨by simp,fun k _ bb=>setRow_other W p k eA (fun e=>bb (e ▸ List.mem_append.2 (.inl lg))),fun _ h _=>h⟩
     have DO:Ax c n eE hs E L (bo.setIfInBounds i true) bw eb (i+1) (a.put cR.dst undef) (W.setRow p eA):=by
      rw [Hx];refine⟨by rw [Eg];exact Ea,fun j cr x σ aH an fI ar mU=>?_,fun j=>?_,fun j x ar iv=>?_,fc⟩
      ·rw [l2];by_cases e:i=j
       ·subst e;rw [eX] at ar;cases ar;cases mU
       rw [getD_set_ne false e] at an;obtain⟨u,a7,bn⟩:=mid.done j cr x σ aH an fI ar mU;exact⟨u,a7,σ.mono hZ bn⟩
      ·rw [mid.news j];by_cases e:i=j
       ·subst e;constructor
        ·rintro ⟨_,a7,_⟩;rw [om] at a7;cases a7
        rintro ⟨_,_,cp,a7⟩;rw [eX] at a7;cases a7
       rw [getD_set_ne false e]
      by_cases e:i=j
      ·subst e;exact⟨fun _=>by omega,fun _=>z1⟩
      rw [getD_set_ne false e,mid.stored j x ar iv];constructor
      ·intro _;omega
      intro aH;rcases Nat.lt_or_ge j b with a7 | a7
      ·exact a7
      have:x∈r:=by
       have bn:(hs.take i)[j]? =some x:=by rw [List.getElem?_take,if_pos (by omega)];exact ar
       rw [x5,List.getElem?_append_right (by rw [List.length_take];omega)] at bn;exact List.mem_of_getElem? bn
      have:=pS x this;rw [iv] at this;cases this
     rw [if_pos (by simp [Region.wanted,Ee])]
     refine OE ae ?_
     exact b6 _ bw eb (i+1) _ _ tK xO DO
   | nT q cp=>
     simp only at kD
     obtain⟨HS,r,x5,pS⟩:=Qp rfl
     obtain⟨Tv,oA,ue,vT⟩:=kD
     rw [Nat.zero_add] at vT
     have Hw:∀ (j:Nat) x,jy j x (hs.take i)=jy j x (hs.take b):=fun j x=>by rw [x5,JM,F5 pS]
     have aff:q∈eb:=(mid.news q).2 ⟨(Hu q (by simpa using Tv)).1,(Hu q (by simpa using Tv)).2,oA,ue⟩
     obtain⟨k,aw⟩:=List.mem_iff_getElem?.1 aff
     have DP:(fS bw hs b eb)[k]? =some ⟨some (bw q),jy q oA (hs.take i)⟩:=by
      simp only [fS,List.getElem?_map,aw,Option.map_some,ue,Hw]
     have kA:(eH L (hs.take b)++fS bw hs b eb)[(eH L (hs.take b)).length+k]? =some ⟨some (bw q),jy q oA (hs.take i)⟩:=by
      rw [List.getElem?_append_right (by omega),Nat.add_sub_cancel_left];exact DP
     obtain⟨Ee,Hx,vT⟩:=vT (eH L (hs.take b)++fS bw hs b eb) _ kA
     obtain⟨cs,eA,T,aa,ae,aG⟩:=vT a W eu
     have Ea:=mid.st.store kA aa aG
     have Af:hs.take (i+1)=hs.take i++[.nT q cp]:=by rw [List.take_add_one,eX];rfl
     have x6:eH L (hs.take (i+1))=eH L (hs.take b):=by
      rw [Af,OW];simp only [eH];rw [x5,Kd,Gb pS]
     have Lj:eb.Nodup:=by
      have:=mid.st.nodup;rw [ft,Cz] at this;exact OG bw eb (List.nodup_append.1 this).2.1
     have Ms:fS bw hs (i+1) eb=(fS bw hs b eb).set k ⟨some (bw q),cp⟩:=by
      apply List.ext_getElem?;intro j;rw [List.getElem?_set];by_cases e:k=j
      ·subst e;have Mt:k<(fS bw hs b eb).length:=(List.getElem?_eq_some_iff.1 DP).1;rw [if_pos rfl,if_pos Mt];simp only [fS,List.getElem?_map,aw,Option.map_some,ue];rw [Af,Jh];simp [jy]
      rw [if_neg e];simp only [fS,List.getElem?_map];cases aH:eb[j]? with
      | none=>rfl
      | some x=>
        have af9:x≠q:=fun aX=>by
         subst aX;obtain⟨c8,c2⟩:=List.getElem?_eq_some_iff.1 aH;obtain⟨dT,ew⟩:=List.getElem?_eq_some_iff.1 aw;exact e ((List.getElem_inj Lj).1 (ew.trans c2.symm))
        simp only [Option.map_some]
        congr 2
        split
        ·rw [Af,Jh,Hw]
         have:Nat.beq q x=false:=by
          cases hb:Nat.beq q x with
          | false=>rfl
          | true=>exact absurd (eQ.1 hb).symm af9
         simp [jy,this]
        rfl
     have Eg:eH L (hs.take (i+1))++fS bw hs (i+1) eb=(eH L (hs.take b)++fS bw hs b eb).set ((eH L (hs.take b)).length+k) ⟨some (bw q),cp⟩:=by
      rw [x6,Ms,List.set_append_right _ _ (by omega),Nat.add_sub_cancel_left]
     have l2:aU (eH L (hs.take (i+1))++fS bw hs (i+1) eb)=aU (eH L (hs.take b)++fS bw hs b eb):=by rw [Eg];exact zK (cp:=cp) kA
     have lg:bw q∈aU (eH L (hs.take b)++fS bw hs b eb):=mi.2 ⟨_,List.mem_of_getElem? kA,rfl⟩
     have hZ:Ext (aU (eH L (hs.take b)++fS bw hs b eb)++c.b7) W (aU (eH L (hs.take b)++fS bw hs b eb)++c.b7) (W.setRow (bw q) eA):=
      ⟨by simp,fun k _ bb=>setRow_other W (bw q) k eA (fun e=>bb (e ▸ List.mem_append.2 (.inl lg))),fun _ h _=>h⟩
     have DO:Ax c n eE hs E L (bo.setIfInBounds i true) bw eb (i+1) (a.put cR.dst undef) (W.setRow (bw q) eA):=by
      rw [Hx];refine⟨by rw [Eg];exact Ea,fun j cr x σ aH an fI ar mU=>?_,fun j=>?_,fun j x ar iv=>?_,fc⟩
      ·rw [l2];by_cases e:i=j
       ·subst e;rw [eX] at ar;cases ar;cases mU
       rw [getD_set_ne false e] at an;obtain⟨u,a7,bn⟩:=mid.done j cr x σ aH an fI ar mU;exact⟨u,a7,σ.mono hZ bn⟩
      ·rw [mid.news j];by_cases e:i=j
       ·subst e;constructor
        ·rintro ⟨_,a7,_⟩;rw [om] at a7;cases a7
        rintro ⟨_,_,cp,a7⟩;rw [eX] at a7;cases a7
       rw [getD_set_ne false e]
      by_cases e:i=j
      ·subst e;exact⟨fun _=>by omega,fun _=>z1⟩
      rw [getD_set_ne false e,mid.stored j x ar iv];constructor
      ·intro _;omega
      intro aH;rcases Nat.lt_or_ge j b with a7 | a7
      ·exact a7
      have:x∈r:=by
       have bn:(hs.take i)[j]? =some x:=by rw [List.getElem?_take,if_pos (by omega)];exact ar
       rw [x5,List.getElem?_append_right (by rw [List.length_take];omega)] at bn;exact List.mem_of_getElem? bn
      have:=pS x this;rw [iv] at this;cases this
     rw [if_pos (by simp [Region.wanted,Ee])]
     refine OE ae ?_
     exact b6 _ bw eb (i+1) _ _ tK xO DO
theorem ag.draw {oC:Nat}{l:List Oper}(hm:c.P.follows .mixedOrders=true)(n:Nat)(eE:List (Option Nat))(pJ:List (List Nat))(hs:List fB)(D9:List Bool)(iy:Dh l.toArray n eE pJ D9 c.n=true)(yr:hs.map fB.nM=D9)(aA:Ae E (eE.filterMap id)=true)
 (hlen:Nat.beq hs.length n=true) (cA:∀ bw,q5 c l.toArray bw eE hs E L 0 l hs pJ)
 (bM:∀ bw:Nat→Nat,ah c l.toArray Q (l.drop n) (tJ bw E 0 eE hs) (mN bw hs (eH L hs) 0 hs)):ag c Q (.region oC l.toArray true) E L:=fun a W s=>by
 subst yr
 refine wpIn_region_any hm ?_
 have aR:n≤l.toArray.size:=by
  simp only [Dh,Bool.and_eq_true,decide_eq_true_eq] at iy;exact iy.1.1.1.1.1.1.1.2
 have LW:HeadInv .any l.toArray n (Array.replicate l.toArray.size false):=
  {size:=by simp
   closed:=fun j pg _ an=>by rw [getD_replicate_false] at an;cases an
   tail:=fun t _ bM=>by simp at bM;simp [bM] }
 have afg:Ax c n eE hs E L (Array.replicate l.toArray.size false) (fun _=>0) [] 0 a W.drew:=
  {st:=by simpa [eH,fS] using s.world (Fr.drew W)
   done:=fun j s h τ _ an=>by rw [getD_replicate_false] at an;cases an
   news:=fun j=>by
    constructor
    ·intro h;cases h
    rintro ⟨_,h,_⟩;rw [getD_replicate_false] at h;cases h
   stored:=fun j h _ _=>by
    rw [getD_replicate_false];constructor
    ·intro h;cases h
    intro h;omega
   ble:=Nat.zero_le _ }
 have h:=Yt (ops:=l.toArray) (Q:=Q) iy aA (eQ.1 hlen) (by simpa using cA) (by simpa using bM) n (Array.replicate l.toArray.size false) (fun _=>0) [] 0 a W.drew
  (Nat.le_trans (List.length_filter_le _ _) (by simp)) LW afg
 rw [show n+(l.toArray.size - n)=l.toArray.size by omega] at h
 exact h
end
structure bF (P:Program)(t:TypeId)(α:Type)[ak α]:Prop where
 size:(P.info? t).map (·.size)=some (ak.size α)
 TW:∃ d,P.underlying t=some d∧ (match d with | .struct _ | .array _ _=>true | _=>false)=ak.agg α
structure cS (P:Program)(t:TypeId){α:Type}[ak α](x:α):Prop where
 zero:∃ i z,P.info? t=some i∧i.zero=some z∧ ∀ A W,(I.of x).holds A W z
theorem bF.info {P t α}[ak α](h:bF P t α):∃ i,P.info? t=some i∧i.size=ak.size α:=by
 have:=h.size;cases au:P.info? t with
 | none=>simp [au] at this
 | some i=>exact⟨i,rfl,by simpa [au] using this⟩
theorem bF.isAgg {P t α}[ak α](h:bF P t α)(W:World):(isAgg t).run P W= .ok (ak.agg α) W:=by
 obtain⟨d,hd,he⟩:=h.TW;unfold Go.isAgg;rw [Sem.run_bind,run_underlying hd W];simp only [Result.andThen_ok];cases d <;> simp_all
theorem bF.sizeOf {P t α}[ak α](h:bF P t α)(W:World):(Go.sizeOf t).run P W= .ok (ak.size α) W:=by
 obtain⟨i,au,hs⟩:=h.info;simp [Go.sizeOf,typeInfo,au,hs]
theorem ka (b off j:Nat):(⟨b,off,none⟩:Addr).add j=⟨b,off+j,none⟩:=by unfold Addr.add;split <;> simp_all
theorem wK {P:Program}{W:World}{b off:Nat}{cur:Array Value}{T t:TypeId}{hL:Nat×Nat}{α:Type}[ak α]{A:List Nat}{x:α}(ty:bF P t α)
 (hb:W.heap[b]? =some (.cells cur T hL)) (hs:off+ak.size α≤cur.size) (aO:ak.rep A W ((cur.toList.drop off).take (ak.size α)) x):
 ∃ v,(loadVar t ⟨b,off,none⟩).run P W= .ok v W∧ (I.of x).holds A W v:=by
 have an:=ak.len aO
 have tz:∀ j v,((cur.toList.drop off).take (ak.size α))[j]? =some v→W.cell? ((⟨b,off,none⟩:Addr).add j)=some v:=by
  intro j v a6;rw [ka,cell_of_row W b (off+j) cur T hL hb];rw [List.getElem?_take] at a6;split at a6
  ·rw [List.getElem?_drop] at a6;simpa using a6
  cases a6
 cases bb:ak.agg α with
 | true=>
   have aa:=run_loadCells_list (P:=P) W ⟨b,off,none⟩ _ tz
   rw [an] at aa
   refine⟨.agg ((cur.toList.drop off).take (ak.size α)).toArray,?_,?_,?_⟩
   ·simp [loadVar,Sem.run_bind,ty.isAgg,ty.sizeOf,bb,aa]
   ·simp [shaped,bb]
   simpa [Value.cells] using aO
 | false=>
   have aa:ak.size α=1:=ak.flat bb
   rw [aa] at an
   obtain⟨v,a6⟩:=List.length_eq_one_iff.1 an
   have ae:=tz 0 v (by rw [aa,a6];rfl)
   have aG:v.oneCell'=true:=ak.one aO v (by rw [aa,a6];simp)
   refine⟨v,?_,?_,?_⟩
   ·rw [ka,Nat.add_zero] at ae
    simp [loadVar,Sem.run_bind,ty.isAgg,bb,ae]
   ·simp [shaped,bb,aG]
   rw [px aG]
   rw [aa,a6] at aO
   simpa using aO
def gR (cur:List Value)(off:Nat)(ds:List Value):List Value:=cur.take off++ds++cur.drop (off+ds.length)
theorem Zf {A W v}{α:Type}[ak α]{x:α}(h:(I.of x).holds A W v):v.cells.toList.length=ak.size α∧ ∀ u∈v.cells.toList,u.oneCell'=true:=⟨ak.len h.2,ak.one h.2⟩
theorem BV {P:Program}{W:World}{b off:Nat}{cur:Array Value}{T t:TypeId}{α:Type}[ak α]{A:List Nat}{x:α}{v:Value}(ty:bF P t α)
 (hb:W.heap[b]? =some (.cells cur T (0,0))) (hs:off+ak.size α≤cur.size) (a6:(I.of x).holds A W v):
 (storeVar t ⟨b,off,none⟩ v).run P W= .ok () (W.setRow b (gR cur.toList off v.cells.toList).toArray):=by
 obtain⟨an,aa⟩:=Zf a6
 have ae:=run_storeCells_at P b off T v.cells.toList 0 cur W hb (by rw [an];omega) aa
 have eL:v.cells.size=ak.size α:=by simpa using an
 simp only [Nat.add_zero] at ae
 simp only [storeVar,Sem.run_bind,ty.sizeOf,Result.andThen_ok,eL]
 simp only [ne_eq,not_true_eq_false,↓reduceIte,Sem.run_pure,Sem.run_bind,Result.andThen_ok]
 simpa [gR] using ae
structure aL (β γ:Type)[ak β][ak γ] where
 off:Nat
 get:β→γ
 set:β→γ→β
 gZ:off+ak.size γ≤ak.size β
 jh:∀ {A W cs b},ak.rep A W cs b→ak.rep A W ((cs.drop off).take (ak.size γ)) (get b)
 mf:∀ {A W cs b ds g},ak.rep A W cs b→ak.rep A W ds g→ak.rep A W (cs.take off++ds++cs.drop (off+ak.size γ)) (set b g)
def aL.id (β:Type)[ak β]:aL β β where
 off:=0
 get b:=b
 set _ g:=g
 gZ:=by simp
 jh h:=by
  have:=ak.len h;rw [List.drop_zero,← this,List.take_length];exact h
 mf h bD:=by
  have aa:=ak.len h;rw [List.take_zero,List.nil_append,Nat.zero_add,← aa,List.drop_length,List.append_nil];exact bD
theorem wP (cs:List Value)(b0 s1 cR s2:Nat)(h:cR+s2≤s1):(((cs.drop b0).take s1).drop cR).take s2=(cs.drop (b0+cR)).take s2:=by
 apply List.ext_getElem?;intro i;simp only [List.getElem?_take,List.getElem?_drop];split
 ·rw [if_pos (by omega)];congr 1;omega
 rfl
theorem Pe (cs ds:List Value)(b0 s1 cR s2:Nat)(h:cR+s2≤s1)(aj:b0+s1≤cs.length):
 cs.take b0++(((cs.drop b0).take s1).take cR++ds++((cs.drop b0).take s1).drop (cR+s2))++cs.drop (b0+s1)=cs.take (b0+cR)++ds++cs.drop (b0+cR+s2):=by
 have aq:cs.take (b0+cR)=cs.take b0++((cs.drop b0).take s1).take cR:=by
  rw [List.take_take,Nat.min_eq_left (by omega),List.take_add]
 have aX:cs.drop (b0+cR+s2)=((cs.drop b0).take s1).drop (cR+s2)++cs.drop (b0+s1):=by
  apply List.ext_getElem?;intro i;simp only [List.getElem?_append,List.getElem?_drop,List.getElem?_take,List.length_drop,List.length_take];split
  ·rw [if_pos (by omega)];congr 1;omega
  congr 1;omega
 rw [aq,aX]
 simp only [List.append_assoc]
def aL.comp {α β γ:Type}[ak α][ak β][ak γ](l:aL α β)(m:aL β γ):aL α γ where
 off:=l.off+m.off
 get b:=m.get (l.get b)
 set b g:=l.set b (m.set (l.get b) g)
 gZ:=by have:=l.gZ;have:=m.gZ;omega
 jh h:=by
  have:=m.jh (l.jh h);rwa [wP _ _ _ _ _ m.gZ] at this
 mf h bD:=by
  have aa:=l.mf h (m.mf (l.jh h) bD);have ae:=ak.len h;have aG:=l.gZ;rwa [Pe _ _ _ _ _ _ m.gZ (by omega)] at aa
def bH {α:Type}[Inhabited α]{n:Nat}(v:Vector α n)(k:Nat):α:=v[k]?.getD default
def dD {α:Type}{n:Nat}(v:Vector α n)(k:Nat)(x:α):Vector α n:=v.setIfInBounds k x
instance {α:Type} [Inhabited α] {n:Nat} :Inhabited (Vector α n):=⟨Vector.replicate n default⟩
instance ahL {α:Type} [ak α] [Inhabited α] {n:Nat} :ak (Vector α n) where
 size:=n * ak.size α
 agg:=true
 rep A W cs v:=hr A W cs v.toList
 len h:=by rw [h.1];simp
 one h:=by
  intro u hu;obtain⟨j,aH⟩:=List.mem_iff_getElem?.1 hu;have cf:=(List.getElem?_eq_some_iff.1 aH).1;have aa:=h.1;by_cases hs:ak.size α=0
  ·rw [hs,Nat.mul_zero] at aa;omega
  have hp:0<ak.size α:=Nat.pos_of_ne_zero hs;have au:j / ak.size α<_:=(Nat.div_lt_iff_lt_mul hp).2 (by rw [aa] at cf;exact cf);refine ak.one (h.2 _ au) u (List.mem_iff_getElem?.2 ⟨j % ak.size α,?_⟩);rw [List.getElem?_take,if_pos (Nat.mod_lt _ hp),List.getElem?_drop,Nat.mul_comm,Nat.div_add_mod];exact aH
 flat h:=by cases h
 mono e h:=h.mono e
theorem Xm {α:Type}[Inhabited α]{n:Nat}(v:Vector α n){k:Nat}(h:k<n):bH v k=v.toList[k]'(by simpa using h):=by simp [bH,h]
theorem JN {α:Type}[ak α]{A W}{cs ds:List Value}{xs:List α}{x:α}{k:Nat}(h:hr A W cs xs)(aw:k<xs.length)(hd:ak.rep A W ds x):
 hr A W (cs.take (k * ak.size α)++ds++cs.drop (k * ak.size α+ak.size α)) (xs.set k x):=by
 have an:=h.1
 have aie:=ak.len hd
 have hle:(k+1) * ak.size α≤xs.length * ak.size α:=Nat.mul_le_mul_right _ aw
 rw [Nat.succ_mul] at hle
 refine⟨by simp only [List.length_append,List.length_take,List.length_drop,List.length_set];omega,fun i au=>?_⟩
 rw [List.length_set] at au
 by_cases e:k=i
 ·subst e
  have:((cs.take (k * ak.size α)++ds++cs.drop (k * ak.size α+ak.size α)).drop (k * ak.size α)).take (ak.size α)=ds:=by
   rw [List.append_assoc,List.drop_append_of_le_length (by simp only [List.length_take];omega),List.drop_of_length_le (by simp only [List.length_take];omega),List.nil_append,
    List.take_append_of_le_length (by omega),List.take_of_length_le (by omega)]
  rw [this]
  simpa using hd
 have aa:=h.2 i au
 have:((cs.take (k * ak.size α)++ds++cs.drop (k * ak.size α+ak.size α)).drop (i * ak.size α)).take (ak.size α)=(cs.drop (i * ak.size α)).take (ak.size α):=by
  apply List.ext_getElem?;intro j;simp only [List.getElem?_take,List.getElem?_drop];split
  ·rename_i aH;simp only [List.getElem?_append,List.length_append,List.length_take,List.getElem?_take,List.getElem?_drop];rcases Nat.lt_or_gt_of_ne e with ae | ae
   ·have:(k+1) * ak.size α≤i * ak.size α:=Nat.mul_le_mul_right _ ae;rw [Nat.succ_mul] at this;rw [if_neg (by omega)];congr 1;omega
   have:(i+1) * ak.size α≤k * ak.size α:=Nat.mul_le_mul_right _ ae;rw [Nat.succ_mul] at this;rw [if_pos (by omega),if_pos (by omega),if_pos (by omega)]
  rfl
 rw [this]
 simpa [List.getElem_set_ne e] using aa
def aL.idx {α:Type}[ak α][Inhabited α](n k:Nat)(aw:k<n):aL (Vector α n) α where
 off:=k * ak.size α
 get v:=bH v k
 set v x:=dD v k x
 gZ:=by
  show k * ak.size α+ak.size α≤n * ak.size α;rw [← Nat.succ_mul];exact Nat.mul_le_mul_right _ aw
 jh h:=by
  rename_i b;rw [Xm b aw];exact h.2 k (by simpa using aw)
 mf h hd:=by
  rename_i b ds g;have:=JN h (k:=k) (by simpa using aw) hd;show hr _ _ _ (dD b k g).toList;rw [show(dD b k g).toList=b.toList.set k g by simp [dD]];exact this
def idx (n:Nat)(i:Int):Option Nat:=if 0≤i∧i<n then some i.toNat else none
theorem cL {n:Nat}{i:Int}{k:Nat}(h:idx n i=some k):k<n∧i=k:=by
 unfold idx at h;split at h
 ·rename_i au;simp only [Option.some.injEq] at h;omega
 cases h
section
variable {c:dB} {E:List (Nat×I)} {L:List aQ} {ops:Array Oper} {Q:Exit→Act→World→Prop}
variable {d:Option Tmp} {ty:TypeId} {pos:String} {af:Array Edge} {g:Option (Nat×Bool)}
theorem cy {x:Operand}{τ:I}(h:ba c E L x τ):b9 c E L ⟨d,.move x,ty,pos,af,g⟩ τ:= .pure fun a W s=>⟨_,rfl,h a W s⟩
theorem ey {x:Operand}{τ:I}(h:ba c E L x τ):b9 c E L ⟨d,.assign x,ty,pos,af,g⟩ τ:= .pure fun a W s=>⟨_,rfl,h a W s⟩
theorem tG {x y:Operand}{b e:Bool}{p:Prop}(ar:ba c E L x (.of b))(a5:ba c E L y (.cond p (.of e)))(hp:b=false→p):
 b9 c E L ⟨d,.pick x (.const (.bool true)) y,ty,pos,af,g⟩ (.of (b||e)):= .pure fun a W s=>by
 have aa:=of_bool.1 (ar a W s)
 cases b with
 | true=>exact⟨.bool true,by simp only [execOp,aa,asBool];rfl,of_bool.2 rfl⟩
 | false=>
   have ae:=of_bool.1 ((a5 a W s).1 (hp rfl))
   exact⟨.bool e,by simp [execOp,asBool,aa,ae],of_bool.2 rfl⟩
theorem nh {x y:Operand}{b e:Bool}{p:Prop}(ar:ba c E L x (.of b))(a5:ba c E L y (.cond p (.of e)))(hp:b=true→p):
 b9 c E L ⟨d,.pick x y (.const (.bool false)),ty,pos,af,g⟩ (.of (b&&e)):= .pure fun a W s=>by
 have aa:=of_bool.1 (ar a W s)
 cases b with
 | false=>exact⟨.bool false,by simp only [execOp,aa,asBool];rfl,of_bool.2 rfl⟩
 | true=>
   have ae:=of_bool.1 ((a5 a W s).1 (hp rfl))
   exact⟨.bool e,by simp [execOp,asBool,aa,ae],of_bool.2 rfl⟩
theorem iA {x:Operand}{b:Bool}{t:TypeId}(ar:ba c E L x (.of b)):b9 c E L ⟨d,.unOp .not t x,ty,pos,af,g⟩ (.of (!b)):= .pure fun a W s=>
 ⟨.bool (!b),by simp [execOp,Op.unary,of_bool.1 (ar a W s)],of_bool.2 rfl⟩
theorem dJ {x:Operand}{t:TypeId}{i p o:Nat}{β γ:Type}[ak β][ak γ]{b:β}(l:aL β γ){r:γ}(eN:bF c.P t γ)(ar:ba c E L x (.eq (.pointer (some ⟨p,o,none⟩))))
 (al:L[i]? =some ⟨some p,.var b⟩) (bg:o=l.off) (aO:l.get b=r):b9 c E L ⟨d,.load t x,ty,pos,af,g⟩ (.of r):= .pure fun a W s=>by
 subst bg
 subst aO
 obtain⟨k3,fe,cs,T,rfl,gO⟩:=s.own _ (List.mem_of_getElem? al)
 have aa:cs.toList.length=ak.size β:=ak.len gO
 obtain⟨v,ae,aG⟩:=wK (A:=aU L++c.b7) eN fe (by have:=l.gZ;simp at aa;omega) (l.jh gO)
 refine⟨v,?_,aG⟩
 have a0:a.eval x=_:=ar a W s
 simp [execOp,Instr.loadAt,Instr.sureAddr,a0,ae]
theorem dw {x:Operand}{t:TypeId}{γ:Type}[ak γ]{r:γ}(eN:bF c.P t γ)(ar:ba c E L x (.ptr r)):b9 c E L ⟨d,.load t x,ty,pos,af,g⟩ (.of r):= .pure fun a W s=>by
 obtain⟨b,off,cur,T,hL,a0,hb,cA,hs,aO⟩:=ar a W s;obtain⟨v,ae,aG⟩:=wK eN cA hs aO;exact⟨v,by simp [execOp,Instr.loadAt,Instr.sureAddr,a0,ae],aG⟩
structure cw (P:Program)(s:TypeId)(f o:Nat):Prop where
 at_:∃ fs fd i,P.underlying s=some (.struct fs)∧fs[f]? =some fd∧fd.offset=o∧P.info? fd.type=some i∧i.size≠0
theorem OL {P:Program}{s:TypeId}{f o:Nat}(h:cw P s f o)(p off:Nat)(W:World):
 (Instr.fieldAt s (.pointer (some ⟨p,off,none⟩)) f).run P W= .ok (.pointer (some ⟨p,off+o,none⟩)) W:=by
 obtain⟨fs,fd,i,aa,ae,aG,a0,a7⟩:=h.at_
 simp [Instr.fieldAt,run_underlying aa,ae,Instr.sureAddr,fieldPlace,Go.sizeOf,typeInfo,a0,a7,ka,aG]
theorem aM {x:Operand}{s f o p off:Nat}(fd:cw c.P s f o)(ar:ba c E L x (.eq (.pointer (some ⟨p,off,none⟩)))):
 b9 c E L ⟨d,.fieldAddr s x f,ty,pos,af,g⟩ (.eq (.pointer (some ⟨p,off+o,none⟩))):= .pure fun a W st=>by
 have a0:a.eval x=_:=ar a W st
 exact⟨_,by simp [execOp,a0,OL fd],rfl⟩
theorem vm {x:Operand}{s f o:Nat}{β γ:Type}[ak β][ak γ]{b:β}(l:aL β γ){r:γ}(fd:cw c.P s f o)(ar:ba c E L x (.ptr b))(bg:l.off=o)(aO:l.get b=r):
 b9 c E L ⟨d,.fieldAddr s x f,ty,pos,af,g⟩ (.ptr r):= .pure fun a W st=>by
 subst bg
 subst aO
 obtain⟨q,off,cur,T,hL,a0,hb,cA,hs,gO⟩:=ar a W st
 refine⟨.pointer (some ⟨q,off+l.off,none⟩),by simp [execOp,a0,OL fd],q,off+l.off,cur,T,hL,rfl,hb,cA,by have:=l.gZ;omega,?_⟩
 have:=l.jh gO
 rwa [wP _ _ _ _ _ l.gZ] at this
structure qO (P:Program)(t:TypeId)(n s:Nat):Prop where
 at_:∃ e i,P.underlying t=some (.array n e)∧P.info? e=some i∧i.size=s
theorem WC {P:Program}{t n s:Nat}(h:qO P t n s)(p off:Nat)(k:Nat)(aw:k<n)(W:World):
 (Instr.indexAt t (.pointer (some ⟨p,off,none⟩)) (.int .i64 (k:Int))).run P W= .ok (.pointer (some ⟨p,off+k * s,none⟩)) W:=by
 obtain⟨e,i,aa,ae,aG⟩:=h.at_
 simp [Instr.indexAt,asIntOf,run_underlying aa,Instr.sureAddr,Go.sizeOf,typeInfo,ae,aG,aw,ka]
theorem fV {x y:Operand}{t n s p off:Nat}{i:Int}{k:Nat}(ahs:qO c.P t n s)(ar:ba c E L x (.eq (.pointer (some ⟨p,off,none⟩))))(a5:ba c E L y (.of i))(aw:k<n∧i=k):
 b9 c E L ⟨d,.indexAddr t x y,ty,pos,af,g⟩ (.eq (.pointer (some ⟨p,off+k * s,none⟩))):= .pure fun a W st=>by
 have a0:a.eval x=_:=ar a W st
 have a7:=of_int.1 (a5 a W st)
 obtain⟨bn,rfl⟩:=aw
 exact⟨_,by simp [execOp,a0,a7,WC ahs p off k bn],rfl⟩
theorem ah.alloc {t:TypeId}{rest:List Oper}{a9:Nat}{α:Type}[ak α]{z:α}(hz:cS c.P t z)(aR:Nat.blt a9 c.n=true)
 (k:∀ p,ah c ops Q rest ((a9,.eq (.pointer (some ⟨p,0,none⟩)))::E) (⟨some p,.var z⟩::L)):ah c ops Q (⟨some a9,.alloc t,ty,pos,af,none⟩::rest) E L:=fun a W s=>by
 obtain⟨i,eP,aa,ae,aG⟩:=hz.zero
 refine ik rfl (R:=fun v W'=>v= .pointer (some ⟨W.heap.size,0,none⟩)∧W'=W.alloc (.cells eP.cells t)) (.lv ?_ ⟨rfl,rfl⟩) fun v W' ⟨a6,hw⟩=>?_
 ·simp [execOp,Instr.alloc,zeroValue,typeInfo,aa,ae,newVar,newRow]
 subst a6
 subst hw
 exact k _ _ _ ((s.alloc (cp:= .var z) ⟨eP.cells,t,rfl,(aG _ _).2⟩).put (by simpa using aR) rfl)
theorem r4 {P:Program}{t:TypeId}{α:Type}[ak α]{z:α}(hz:cS P t z):Nv P ⟨d,.alloc t,ty,pos,af,none⟩ (.var z):=by
 obtain⟨i,eP,aa,ae,aG⟩:=hz.zero;refine⟨rfl,.cells eP.cells t,fun A W=>⟨eP.cells,t,rfl,(aG A W).2⟩,fun a W=>?_⟩;simp [execOp,Instr.alloc,zeroValue,typeInfo,aa,ae,newVar,newRow]
theorem u3 {x y:Operand}{t:TypeId}{i p o:Nat}{β γ:Type}[ak β][ak γ]{b b':β}{v:γ}(l:aL β γ)(eN:bF c.P t γ)(ar:ba c E L x (.eq (.pointer (some ⟨p,o,none⟩))))
 (a5:ba c E L y (.of v)) (al:L[i]? =some ⟨some p,.var b⟩) (bg:o=l.off) (hb:l.set b v=b'):EP c E L ⟨none,.store t x y,ty,pos,af,none⟩ p (.var b'):=⟨rfl,rfl,fun a W s=>by
 subst bg
 subst hb
 obtain⟨k3,fe,cs,T,rfl,gO⟩:=s.own _ (List.mem_of_getElem? al)
 have aa:cs.toList.length=ak.size β:=ak.len gO
 have fc:=l.gZ
 have a6:=a5 a W s
 have ae:=BV (A:=aU L++c.b7) eN fe (off:=l.off) (by simp at aa;omega) a6
 have a0:a.eval x=_:=ar a W s
 refine⟨cs,(gR cs.toList l.off (a.eval y).cells.toList).toArray,T,fe,?_,?_⟩
 ·simp [execOp,Instr.storeAt,Instr.sureAddr,a0,ae]
 refine⟨_,T,rfl,?_⟩
 have:=l.mf gO a6.2
 simpa [gR,ak.len a6.2] using this⟩
theorem ah.box {t:TypeId}{x:Operand}{rest:List Oper}{a9:Nat}{α:Type}[ak α]{z:α}(ar:ba c E L x (.of z))(aR:Nat.blt a9 c.n=true)
 (k:∀ p,ah c ops Q rest ((a9,.eq (.pointer (some ⟨p,0,none⟩)))::E) (⟨some p,.var z⟩::L)):ah c ops Q (⟨some a9,.box t x,ty,pos,af,none⟩::rest) E L:=fun a W s=>by
 refine ik rfl (R:=fun v W'=>v= .pointer (some ⟨W.heap.size,0,none⟩)∧W'=W.alloc (.cells (a.eval x).cells t)) (.lv ?_ ⟨rfl,rfl⟩) fun v W' ⟨a6,hw⟩=>?_
 ·simp [execOp,Instr.box,newVar,newRow]
 subst a6
 subst hw
 exact k _ _ _ ((s.alloc (cp:= .var z) ⟨_,t,rfl,(ar a W s).2⟩).put (by simpa using aR) rfl)
theorem ah.store {x y:Operand}{t:TypeId}{rest:List Oper}{i p o:Nat}{β γ:Type}[ak β][ak γ]{b b':β}{v:γ}(l:aL β γ)(eN:bF c.P t γ)(ar:ba c E L x (.eq (.pointer (some ⟨p,o,none⟩))))
 (a5:ba c E L y (.of v)) (al:L[i]? =some ⟨some p,.var b⟩) (bg:o=l.off) (hb:l.set b v=b')
 (k:ah c ops Q rest E (L.set i ⟨some p,.var b'⟩)):ah c ops Q (⟨none,.store t x y,ty,pos,af,none⟩::rest) E L:=fun a W s=>by
 subst bg
 subst hb
 obtain⟨k3,fe,cs,T,rfl,gO⟩:=s.own _ (List.mem_of_getElem? al)
 have aa:cs.toList.length=ak.size β:=ak.len gO
 have fc:=l.gZ
 have a6:=a5 a W s
 have ae:=BV (A:=aU L++c.b7) eN fe (off:=l.off) (by simp at aa;omega) a6
 have a0:a.eval x=_:=ar a W s
 refine ik rfl (R:=fun v W'=>W'=W.setRow p (gR cs.toList l.off (a.eval y).cells.toList).toArray) (.zB ?_ rfl) fun v W' hw=>?_
 ·simp [execOp,Instr.storeAt,Instr.sureAddr,a0,ae]
 subst hw
 refine k _ _ (s.store al fe ?_)
 refine⟨_,T,rfl,?_⟩
 have:=l.mf gO a6.2
 simpa [gR,ak.len a6.2] using this
def iM (c:dB)(E:List (Nat×I))(L:List aQ):List Operand→List I→Prop
 | [],[]=>True
 | x::xs,τ::τs=>ba c E L x τ∧iM c E L xs τs
 | _,_=>False
theorem iM.holds:∀ {xs:List Operand} {τs:List I},iM c E L xs τs→ ∀ a W,bL c E L a W→hk (aU L++c.b7) W τs (xs.map a.eval)
 | [],[],_,_,_,_=>.nil
 | x::xs,τ::τs,h,a,W,s=>.cons (h.1 a W s) (h.2.holds a W s)
 | [],_::_,h,_,_,_=>h.elim
 | _::_,[],h,_,_,_=>h.elim
structure bA (P:Program)(f:FuncId):Prop where
 at_:∃ fn,P.funcs[f]? =some fn∧fn.body.isNone=false∧ (fn.name== "runtime.NumGoroutine")=false
theorem bA.run {P:Program}{f:FuncId}(h:bA P f)(args:Array Value)(W:World):(callFunc f args).run P W= .ok (.enter f args) W:=by
 obtain⟨fn,aa,ae,aG⟩:=h.at_;simp only [callFunc,Sem.run_bind,run_program,Result.andThen_ok,aa,aG,ae];rfl
theorem iZ {f:FuncId}{xs:List Operand}{ats:Array TypeId}{τs:List I}{ρ:I}(e5:bA c.P f)(h:bK c.P f τs ρ)(ar:iM c E L xs τs):
 b9 c E L ⟨d,.call ⟨.value (.func f),xs.toArray,ats⟩,ty,pos,af,g⟩ ρ:=fun a W s=>by
 refine .w4 (f:=f) (args:=(xs.map a.eval).toArray) (W':=W) ?_ (h _ W _ s.GR (ar.holds a W s))
 simp [execOp,resolve,Deferred.ofValue,Act.eval,invoke,e5.run]
theorem r5 {P:Program}{W:World}{t off:Nat}{cs:Array Value}{α:Type}[ak α]{A:List Nat}{x:α}(ty:bF P t α)(hs:off+ak.size α≤cs.size)
 (aO:ak.rep A W ((cs.toList.drop off).take (ak.size α)) x):∃ v,(part t cs off).run P W= .ok v W∧ (I.of x).holds A W v:=by
 have an:=ak.len aO
 cases bb:ak.agg α with
 | true=>
   refine⟨.agg (cs.extract off (off+ak.size α)),?_,?_,?_⟩
   ·simp [part,ty.isAgg,ty.sizeOf,bb]
   ·simp [shaped,bb]
   simpa [Value.cells,List.extract,Array.toList_extract] using aO
 | false=>
   have aa:ak.size α=1:=ak.flat bb
   have cf:off<cs.size:=by omega
   have ae:(cs.toList.drop off).take (ak.size α)= [cs[off]]:=by
    rw [aa];apply List.ext_getElem?;intro j;rw [List.getElem?_take,List.getElem?_drop];cases j with
    | zero=>simp [cf]
    | succ j=>simp
   rw [ae] at aO
   have aG:cs[off].oneCell'=true:=ak.one aO _ (by simp)
   refine⟨cs[off],?_,?_,?_⟩
   ·simp [part,ty.isAgg,bb,cf]
   ·simp [shaped,bb,aG]
   rw [px aG];simpa using aO
structure Nw (P:Program)(s f t o:Nat):Prop where
 at_:∃ fs fd,P.underlying s=some (.struct fs)∧fs[f]? =some fd∧fd.offset=o∧fd.type=t
theorem J3 {x:Operand}{s f t o:Nat}{β γ:Type}[ak β][ak γ]{b:β}(l:aL β γ){r:γ}(aht:Nw c.P s f t o)(eN:bF c.P t γ)(bb:ak.agg β=true)(ar:ba c E L x (.of b))(bg:l.off=o)(aO:l.get b=r):
 b9 c E L ⟨d,.field s x f,ty,pos,af,g⟩ (.of r):= .pure fun a W st=>by
 subst bg
 subst aO
 obtain⟨aa,ae⟩:=ar a W st
 simp only [shaped,bb,if_true] at aa
 obtain⟨cs,ru⟩:=aa
 obtain⟨fs,fd,aG,a0,a7,bn⟩:=aht.at_
 rw [ru] at ae
 simp only [Value.cells] at ae
 have an:cs.toList.length=ak.size β:=ak.len ae
 obtain⟨v,dn,fh⟩:=r5 (A:=aU L++c.b7) (P:=c.P) (W:=W) (cs:=cs) (off:=l.off) eN (by have:=l.gZ;simp at an;omega) (l.jh ae)
 refine⟨v,?_,fh⟩
 simp [execOp,Instr.field,run_underlying aG,a0,ru,asAgg,a7,bn,dn]
theorem Qi {x y:Operand}{t e n:Nat}{i:Int}{k:Nat}{α:Type}[ak α][Inhabited α]{v:Vector α n}(hu:c.P.underlying t=some (.array n e))(eN:bF c.P e α)(ar:ba c E L x (.of v))(a5:ba c E L y (.of i))(aw:k<n∧i=k):
 b9 c E L ⟨d,.index t x y,ty,pos,af,g⟩ (.of (bH v k)):= .pure fun a W st=>by
 obtain⟨aa,ae⟩:=ar a W st
 obtain⟨cs,ru⟩:∃ cs,a.eval x= .agg cs:=by simpa [shaped,ak.agg] using aa
 have a7:=of_int.1 (a5 a W st)
 obtain⟨bn,rfl⟩:=aw
 rw [ru] at ae
 simp only [Value.cells] at ae
 have an:cs.toList.length=n * ak.size α:=ak.len ae
 have fc:=(aL.idx (α:=α) n k bn).gZ
 obtain⟨u,dn,fh⟩:=r5 (A:=aU L++c.b7) (P:=c.P) (W:=W) (cs:=cs) (off:=k * ak.size α) eN
  (by
   have:k * ak.size α+ak.size α≤n * ak.size α:=fc;simp at an;omega) ((aL.idx (α:=α) n k bn).jh ae)
 refine⟨u,?_,fh⟩
 simp [execOp,Instr.index,asIntOf,run_underlying hu,ru,a7,bn,eN.sizeOf,dn]
theorem kN {x:Operand}{i:Nat}{τs:List I}{τ:I}(ar:ba c E L x (.dZ τs))(au:τs[i]? =some τ):b9 c E L ⟨d,.extract x i,ty,pos,af,g⟩ τ:= .pure fun a W st=>by
 obtain⟨vs,aa,ae⟩:=ar a W st;have get:∀ {τs:List I} {vs:List Value},hk (aU L++c.b7) W τs vs→ ∀ (i:Nat) (τ:I),τs[i]? =some τ→ ∃ v,vs[i]? =some v∧τ.holds (aU L++c.b7) W v:=by
  intro τs vs h;induction h with
  | nil=>intro i τ h;simp at h
  | cons aa _ b6=>
    intro i τ h
    cases i with
    | zero=>simp only [List.getElem?_cons_zero,Option.some.injEq] at h;subst h;exact⟨_,rfl,aa⟩
    | succ i=>simp only [List.getElem?_cons_succ] at h ⊢;exact b6 i τ h
 obtain⟨v,aG,a0⟩:=get ae i τ au;refine⟨v,?_,a0⟩;have a7:vs[i]? =some v:=by simpa using aG
 simp [execOp,Instr.extract,aa,a7]
end
def bt (x:Int):Int:=IntKind.i64.wrap x
theorem ho {x:Int}(h: -9223372036854775808≤x)(de:x≤9223372036854775807):bt x=x:=by
 unfold bt;rw [IntKind.wrap_i64];omega
def vE (a b:Int):Option Int:=if b=0 then none else some (a.tmod b)
theorem Jv {a b r:Int}(h:vE a b=some r):b≠0∧a.tmod b=r:=by unfold vE at h;split at h <;> simp_all
theorem wrap_u8 (n:Int):IntKind.u8.wrap n=n % 256:=by simp [IntKind.wrap,IntKind.signed,IntKind.bits]
theorem wrap_u64 (n:Int):IntKind.u64.wrap n=n % 18446744073709551616:=by simp [IntKind.wrap,IntKind.signed,IntKind.bits]
theorem Z6 (P:Program)(W:World)(k Nx:IntKind)(a b:Int)(h:0≤b):(Op.shift .shl k a Nx b).run P W= .ok (.int k (k.wrap (a * 2 ^ min b.toNat k.bits))) W:=by
 unfold Op.shift;rw [if_neg (by omega)];rfl
theorem Z7 (P:Program)(W:World)(k Nx:IntKind)(a b:Int)(h:0≤b):(Op.shift .shr k a Nx b).run P W= .ok (.int k (a.fdiv (2 ^ min b.toNat k.bits))) W:=by
 unfold Op.shift;rw [if_neg (by omega)];rfl
section
variable {c:dB} {E:List (Nat×I)} {L:List aQ}
variable {d:Option Tmp} {ty:TypeId} {pos:String} {af:Array Edge} {g:Option (Nat×Bool)} {x y:Operand} {t t2:TypeId}
theorem du {a b:Int}(ar:ba c E L x (.of a))(a5:ba c E L y (.of b)):b9 c E L ⟨d,.binOp .add t x y t2,ty,pos,af,g⟩ (.of (bt (a+b))):= .pure fun A W s=>
 ⟨.int .i64 (bt (a+b)),by simp [execOp,eqGuard,binOp,Op.intArith,of_int.1 (ar A W s),of_int.1 (a5 A W s),bt],of_int.2 rfl⟩
theorem jv {a b:Int}(ar:ba c E L x (.of a))(a5:ba c E L y (.of b)):b9 c E L ⟨d,.binOp .sub t x y t2,ty,pos,af,g⟩ (.of (bt (a - b))):= .pure fun A W s=>
 ⟨.int .i64 (bt (a - b)),by simp [execOp,eqGuard,binOp,Op.intArith,of_int.1 (ar A W s),of_int.1 (a5 A W s),bt],of_int.2 rfl⟩
theorem abY {a b:Int}(ar:ba c E L x (.of a))(a5:ba c E L y (.of b)):b9 c E L ⟨d,.binOp .mul t x y t2,ty,pos,af,g⟩ (.of (bt (a * b))):= .pure fun A W s=>
 ⟨.int .i64 (bt (a * b)),by simp [execOp,eqGuard,binOp,Op.intArith,of_int.1 (ar A W s),of_int.1 (a5 A W s),bt],of_int.2 rfl⟩
theorem KU {a b r:Int}(ar:ba c E L x (.of a))(a5:ba c E L y (.of b))(h:b≠0∧a.tmod b=r):b9 c E L ⟨d,.binOp .rem t x y t2,ty,pos,af,g⟩ (.of r):= .pure fun A W s=>
 ⟨.int .i64 r,by obtain⟨aa,rfl⟩:=h;simp [execOp,eqGuard,binOp,Op.intDiv,of_int.1 (ar A W s),of_int.1 (a5 A W s),aa],of_int.2 rfl⟩
theorem ee {a b:Int}(ar:ba c E L x (.of a))(a5:ba c E L y (.of b)):b9 c E L ⟨d,.binOp .lss t x y t2,ty,pos,af,g⟩ (.of (decide (a<b))):= .pure fun A W s=>
 ⟨.bool (decide (a<b)),by simp only [execOp,eqGuard,binOp,of_int.1 (ar A W s),of_int.1 (a5 A W s)];rfl,of_bool.2 rfl⟩
theorem oY {a b:Int}(ar:ba c E L x (.of a))(a5:ba c E L y (.of b)):b9 c E L ⟨d,.binOp .leq t x y t2,ty,pos,af,g⟩ (.of (decide (a≤b))):= .pure fun A W s=>
 ⟨.bool (decide (a≤b)),by simp only [execOp,eqGuard,binOp,of_int.1 (ar A W s),of_int.1 (a5 A W s)];rfl,of_bool.2 rfl⟩
theorem ng {a b:Int}(ar:ba c E L x (.of a))(a5:ba c E L y (.of b)):b9 c E L ⟨d,.binOp .gtr t x y t2,ty,pos,af,g⟩ (.of (decide (a>b))):= .pure fun A W s=>
 ⟨.bool (decide (a>b)),by simp only [execOp,eqGuard,binOp,of_int.1 (ar A W s),of_int.1 (a5 A W s)];rfl,of_bool.2 rfl⟩
theorem kM {a b:Int}(ar:ba c E L x (.of a))(a5:ba c E L y (.of b)):b9 c E L ⟨d,.binOp .geq t x y t2,ty,pos,af,g⟩ (.of (decide (a≥b))):= .pure fun A W s=>
 ⟨.bool (decide (a≥b)),by simp only [execOp,eqGuard,binOp,of_int.1 (ar A W s),of_int.1 (a5 A W s)];rfl,of_bool.2 rfl⟩
theorem fA {a b:Int}(ar:ba c E L x (.of a))(a5:ba c E L y (.of b)):b9 c E L ⟨d,.binOp .eql t x y t2,ty,pos,af,g⟩ (.of (a==b)):= .pure fun A W s=>
 ⟨.bool (a==b),by simp only [execOp,eqGuard,binOp,of_int.1 (ar A W s),of_int.1 (a5 A W s)];rfl,of_bool.2 rfl⟩
theorem o0 {a b:Int}(ar:ba c E L x (.of a))(a5:ba c E L y (.of b)):b9 c E L ⟨d,.binOp .neq t x y t2,ty,pos,af,g⟩ (.of (a !=b)):= .pure fun A W s=>
 ⟨.bool (a !=b),by simp only [execOp,eqGuard,binOp,of_int.1 (ar A W s),of_int.1 (a5 A W s)];rfl,of_bool.2 rfl⟩
theorem C4 {a b:Bool}(hu:c.P.underlying t=some .bool)(ar:ba c E L x (.of a))(a5:ba c E L y (.of b)):b9 c E L ⟨d,.binOp .neq t x y t2,ty,pos,af,g⟩ (.of (a !=b)):= .pure fun A W s=>
 ⟨.bool (a !=b),by
   simp only [execOp,eqGuard,binOp,of_bool.1 (ar A W s),of_bool.1 (a5 A W s),Op.equal,Op.maxDepth];simp [run_equalIn_bool' W 9999 t a b hu,bne],of_bool.2 rfl⟩
theorem CT {a b:Int}{ats:Array TypeId}(ar:ba c E L x (.of a))(a5:ba c E L y (.of b)):b9 c E L ⟨d,.call ⟨.builtin .min,#[x,y],ats⟩,ty,pos,af,g⟩ (.of (min a b)):= .pure fun A W s=>
 ⟨.int .i64 (min a b),by
   simp [execOp,resolve,invoke,builtin,Builtin.min_,Builtin.min2,of_int.1 (ar A W s),of_int.1 (a5 A W s)];split <;> omega,of_int.2 rfl⟩
theorem CU {a b:Int}{ats:Array TypeId}(ar:ba c E L x (.of a))(a5:ba c E L y (.of b)):b9 c E L ⟨d,.call ⟨.builtin .max,#[x,y],ats⟩,ty,pos,af,g⟩ (.of (max a b)):= .pure fun A W s=>
 ⟨.int .i64 (max a b),by
   simp [execOp,resolve,invoke,builtin,Builtin.max_,Builtin.max2,of_int.1 (ar A W s),of_int.1 (a5 A W s)];split <;> omega,of_int.2 rfl⟩
theorem ac2 (a:BitVec 8):(a.toNat:Int)<256:=by have:=a.isLt;omega
theorem aaZ {a b:BitVec 8}(ar:ba c E L x (.of a))(a5:ba c E L y (.of b)):b9 c E L ⟨d,.binOp .gtr t x y t2,ty,pos,af,g⟩ (.of (decide (a>b))):= .pure fun A W s=>
 ⟨.bool (decide (a>b)),by
   simp only [execOp,eqGuard,binOp,qn.1 (ar A W s),qn.1 (a5 A W s)];have h:decide ((a.toNat:Int)>(b.toNat:Int))=decide (a>b):=by simp [BitVec.lt_def,BitVec.le_def]
   rw [← h];rfl,of_bool.2 rfl⟩
theorem Rg {a b:BitVec 8}(ar:ba c E L x (.of a))(a5:ba c E L y (.of b)):b9 c E L ⟨d,.binOp .eql t x y t2,ty,pos,af,g⟩ (.of (a==b)):= .pure fun A W s=>
 ⟨.bool (a==b),by
   simp only [execOp,eqGuard,binOp,qn.1 (ar A W s),qn.1 (a5 A W s)];have h:((a.toNat:Int)==(b.toNat:Int))=(a==b):=by
    rw [Bool.eq_iff_iff];simp [bne];exact⟨fun h=>BitVec.eq_of_toNat_eq (by omega),fun h=>by rw [h]⟩
   rw [← h];rfl,of_bool.2 rfl⟩
theorem RI {a:BitVec 8}{src dst:TypeId}{e:TypeDesc}(hs:c.P.underlying src=some e)(hd:c.P.underlying dst=some (.int .i64))(ar:ba c E L x (.of a)):b9 c E L ⟨d,.convert src dst x,ty,pos,af,g⟩ (.of (a.toNat:Int)):= .pure fun A W s=>
 ⟨.int .i64 a.toNat,by
   have h:IntKind.i64.wrap (a.toNat:Int)=(a.toNat:Int):=ho (by omega) (by have:=ac2 a;omega);simp only [execOp,convert,Sem.run_bind,run_underlying hs,run_underlying hd,qn.1 (ar A W s),Conv.intToInt,Result.andThen_ok,h];rfl,of_int.2 rfl⟩
theorem zL (a:BitVec 64):(a.toNat:Int)<18446744073709551616:=by have:=a.isLt;omega
theorem ofInt_u64 (a:BitVec 64):BitVec.ofInt 64 (a.toNat:Int)=a:=by simp
theorem Z8 (a b:BitVec 64):IntKind.u64.wrap ((a.toNat:Int)+(b.toNat:Int))=((a+b).toNat:Int):=by rw [wrap_u64,BitVec.toNat_add];omega
theorem ZW {a b:BitVec 64}(ar:ba c E L x (.of a))(a5:ba c E L y (.of b)):b9 c E L ⟨d,.binOp .add t x y t2,ty,pos,af,g⟩ (.of (a+b)):= .pure fun A W s=>
 ⟨.int .u64 (a+b).toNat,by simp [execOp,eqGuard,binOp,Op.intArith,gX.1 (ar A W s),gX.1 (a5 A W s),Z8],gX.2 rfl⟩
theorem Z9 (a b:BitVec 64):IntKind.u64.wrap ((a.toNat:Int) - (b.toNat:Int))=((a - b).toNat:Int):=by rw [wrap_u64,BitVec.toNat_sub];have:=zL a;have:=zL b;omega
theorem uV {a b:BitVec 64}(ar:ba c E L x (.of a))(a5:ba c E L y (.of b)):b9 c E L ⟨d,.binOp .sub t x y t2,ty,pos,af,g⟩ (.of (a - b)):= .pure fun A W s=>
 ⟨.int .u64 (a - b).toNat,by simp [execOp,eqGuard,binOp,Op.intArith,gX.1 (ar A W s),gX.1 (a5 A W s),Z9],gX.2 rfl⟩
theorem r7 {a b:BitVec 64}(ar:ba c E L x (.of a))(a5:ba c E L y (.of b)):b9 c E L ⟨d,.binOp .and t x y t2,ty,pos,af,g⟩ (.of (a&&&b)):= .pure fun A W s=>
 ⟨.int .u64 (a&&&b).toNat,by
   simp only [execOp,eqGuard,binOp,gX.1 (ar A W s),gX.1 (a5 A W s)];have h:IntKind.u64.wrap ((a&&&b).toNat:Int)=((a&&&b).toNat:Int):=by rw [wrap_u64];have:=zL (a&&&b);omega
   rw [← h];conv=>rhs;rw [← ofInt_u64 a,← ofInt_u64 b]
   rfl,gX.2 rfl⟩
theorem qf {a b:BitVec 64}(ar:ba c E L x (.of a))(a5:ba c E L y (.of b)):b9 c E L ⟨d,.binOp .or t x y t2,ty,pos,af,g⟩ (.of (a|||b)):= .pure fun A W s=>
 ⟨.int .u64 (a|||b).toNat,by
   simp only [execOp,eqGuard,binOp,gX.1 (ar A W s),gX.1 (a5 A W s)];have h:IntKind.u64.wrap ((a|||b).toNat:Int)=((a|||b).toNat:Int):=by rw [wrap_u64];have:=zL (a|||b);omega
   rw [← h];conv=>rhs;rw [← ofInt_u64 a,← ofInt_u64 b]
   rfl,gX.2 rfl⟩
theorem Qg {a b:BitVec 64}(ar:ba c E L x (.of a))(a5:ba c E L y (.of b)):b9 c E L ⟨d,.binOp .xor t x y t2,ty,pos,af,g⟩ (.of (a ^^^ b)):= .pure fun A W s=>
 ⟨.int .u64 (a ^^^ b).toNat,by
   simp only [execOp,eqGuard,binOp,gX.1 (ar A W s),gX.1 (a5 A W s)];have h:IntKind.u64.wrap ((a ^^^ b).toNat:Int)=((a ^^^ b).toNat:Int):=by rw [wrap_u64];have:=zL (a ^^^ b);omega
   rw [← h];conv=>rhs;rw [← ofInt_u64 a,← ofInt_u64 b]
   rfl,gX.2 rfl⟩
theorem OT {a b:BitVec 64}(ar:ba c E L x (.of a))(a5:ba c E L y (.of b)):b9 c E L ⟨d,.binOp .andNot t x y t2,ty,pos,af,g⟩ (.of (a&&& ~~~b)):= .pure fun A W s=>
 ⟨.int .u64 (a&&& ~~~b).toNat,by
   simp only [execOp,eqGuard,binOp,gX.1 (ar A W s),gX.1 (a5 A W s)];have h:IntKind.u64.wrap ((a&&& ~~~b).toNat:Int)=((a&&& ~~~b).toNat:Int):=by rw [wrap_u64];have:=zL (a&&& ~~~b);omega
   rw [← h];conv=>rhs;rw [← ofInt_u64 a,← ofInt_u64 b]
   rfl,gX.2 rfl⟩
theorem aaa (a:BitVec 64)(n:Nat):IntKind.u64.wrap ((a.toNat:Int) * 2 ^ min n 64)=((a <<< n).toNat:Int):=by
 rw [wrap_u64,BitVec.toNat_shiftLeft,Nat.shiftLeft_eq];rcases Nat.lt_or_ge n 64 with h | h
 ·rw [Nat.min_eq_left (by omega)];simp
 rw [Nat.min_eq_right h];have e:(a.toNat * 2 ^ n) % 2 ^ 64=0:=by
  rw [show n=64+(n - 64) by omega,Nat.pow_add];exact Nat.mod_eq_zero_of_dvd ⟨a.toNat * 2 ^ (n - 64),by rw [← Nat.mul_assoc,Nat.mul_comm a.toNat,Nat.mul_assoc]⟩
 rw [e];have aX:(2:Int) ^ 64=18446744073709551616:=by decide
 rw [aX];omega
theorem aab (a:BitVec 64)(n:Nat):(a.toNat:Int).fdiv (2 ^ min n 64)=((a >>> n).toNat:Int):=by
 rw [BitVec.toNat_ushiftRight,Nat.shiftRight_eq_div_pow];have e:∀ m:Nat,(a.toNat:Int).fdiv (2 ^ m)=((a.toNat / 2 ^ m:Nat):Int):=by
  intro m;rw [show((2:Int) ^ m)=((2 ^ m:Nat):Int) by simp];rw [Int.fdiv_eq_ediv_of_nonneg _ (Int.natCast_nonneg _)];exact(Int.natCast_ediv _ _).symm
 rw [e];rcases Nat.lt_or_ge n 64 with h | h
 ·rw [Nat.min_eq_left (by omega)]
 rw [Nat.min_eq_right h];have aa:a.toNat / 2 ^ 64=0:=Nat.div_eq_of_lt a.isLt;have ae:a.toNat / 2 ^ n=0:=Nat.div_eq_of_lt (Nat.lt_of_lt_of_le a.isLt (Nat.pow_le_pow_right (by omega) h));rw [aa,ae]
theorem nH {a:BitVec 64}{b:BitVec 64}(ar:ba c E L x (.of a))(a5:ba c E L y (.of b)):b9 c E L ⟨d,.binOp .shl t x y t2,ty,pos,af,g⟩ (.of (a <<< b.toNat)):= .pure fun A W s=>
 ⟨.int .u64 (a <<< b.toNat).toNat,by
   simp only [execOp,eqGuard,binOp,gX.1 (ar A W s),gX.1 (a5 A W s)];have h:=Z6 c.P W .u64 .u64 a.toNat b.toNat (by omega);simp only [Int.toNat_natCast,IntKind.bits,aaa] at h;exact congrArg (fun r:Result Value=>r.andThen fun v w=>.ok (Next.value v) w) h,gX.2 rfl⟩
theorem r9 {a:BitVec 64}{b:BitVec 64}(ar:ba c E L x (.of a))(a5:ba c E L y (.of b)):b9 c E L ⟨d,.binOp .shr t x y t2,ty,pos,af,g⟩ (.of (a >>> b.toNat)):= .pure fun A W s=>
 ⟨.int .u64 (a >>> b.toNat).toNat,by
   simp only [execOp,eqGuard,binOp,gX.1 (ar A W s),gX.1 (a5 A W s)];have h:=Z7 c.P W .u64 .u64 a.toNat b.toNat (by omega);simp only [Int.toNat_natCast,IntKind.bits,aab] at h;exact congrArg (fun r:Result Value=>r.andThen fun v w=>.ok (Next.value v) w) h,gX.2 rfl⟩
theorem Ql {a b:BitVec 64}(ar:ba c E L x (.of a))(a5:ba c E L y (.of b)):b9 c E L ⟨d,.binOp .lss t x y t2,ty,pos,af,g⟩ (.of (decide (a<b))):= .pure fun A W s=>
 ⟨.bool (decide (a<b)),by
   simp only [execOp,eqGuard,binOp,gX.1 (ar A W s),gX.1 (a5 A W s)];have h:decide ((a.toNat:Int)<(b.toNat:Int))=decide (a<b):=by simp [BitVec.lt_def,BitVec.le_def]
   rw [← h];rfl,of_bool.2 rfl⟩
theorem J4 {a b:BitVec 64}(ar:ba c E L x (.of a))(a5:ba c E L y (.of b)):b9 c E L ⟨d,.binOp .geq t x y t2,ty,pos,af,g⟩ (.of (decide (a≥b))):= .pure fun A W s=>
 ⟨.bool (decide (a≥b)),by
   simp only [execOp,eqGuard,binOp,gX.1 (ar A W s),gX.1 (a5 A W s)];have h:decide ((a.toNat:Int)≥ (b.toNat:Int))=decide (a≥b):=by simp [BitVec.lt_def,BitVec.le_def]
   rw [← h];rfl,of_bool.2 rfl⟩
theorem zy {a b:BitVec 64}(ar:ba c E L x (.of a))(a5:ba c E L y (.of b)):b9 c E L ⟨d,.binOp .eql t x y t2,ty,pos,af,g⟩ (.of (a==b)):= .pure fun A W s=>
 ⟨.bool (a==b),by
   simp only [execOp,eqGuard,binOp,gX.1 (ar A W s),gX.1 (a5 A W s)];have h:((a.toNat:Int)==(b.toNat:Int))=(a==b):=by
    rw [Bool.eq_iff_iff];simp [bne];exact⟨fun h=>BitVec.eq_of_toNat_eq (by omega),fun h=>by rw [h]⟩
   rw [← h];rfl,of_bool.2 rfl⟩
theorem Qh {a b:BitVec 64}(ar:ba c E L x (.of a))(a5:ba c E L y (.of b)):b9 c E L ⟨d,.binOp .neq t x y t2,ty,pos,af,g⟩ (.of (a !=b)):= .pure fun A W s=>
 ⟨.bool (a !=b),by
   simp only [execOp,eqGuard,binOp,gX.1 (ar A W s),gX.1 (a5 A W s)];have h:((a.toNat:Int) !=(b.toNat:Int))=(a !=b):=by
    rw [Bool.eq_iff_iff];simp [bne];exact⟨fun h=>fun e=>h (by rw [e]),fun h=>by intro e;exact h (BitVec.eq_of_toNat_eq (by omega))⟩
   rw [← h];rfl,of_bool.2 rfl⟩
theorem iL {a:Int}{src dst:TypeId}{e:TypeDesc}(hs:c.P.underlying src=some e)(hd:c.P.underlying dst=some (.int .u64))(ar:ba c E L x (.of a)):b9 c E L ⟨d,.convert src dst x,ty,pos,af,g⟩ (.of (BitVec.ofInt 64 a)):= .pure fun A W s=>
 ⟨.int .u64 (BitVec.ofInt 64 a).toNat,by
   have h:IntKind.u64.wrap a=((BitVec.ofInt 64 a).toNat:Int):=by rw [wrap_u64,BitVec.toNat_ofInt];omega
   simp [execOp,convert,run_underlying hs,run_underlying hd,of_int.1 (ar A W s),Conv.intToInt,h],gX.2 rfl⟩
theorem ZU {a:BitVec 64}{src dst:TypeId}{e:TypeDesc}(hs:c.P.underlying src=some e)(hd:c.P.underlying dst=some (.int .u8))(ar:ba c E L x (.of a)):b9 c E L ⟨d,.convert src dst x,ty,pos,af,g⟩ (.of (a.setWidth 8)):= .pure fun A W s=>
 ⟨.int .u8 (a.setWidth 8).toNat,by
   have h:IntKind.u8.wrap (a.toNat:Int)=((a.setWidth 8).toNat:Int):=by rw [wrap_u8,BitVec.toNat_setWidth];have:=a.isLt;omega
   simp only [execOp,convert,Sem.run_bind,run_underlying hs,run_underlying hd,gX.1 (ar A W s),Conv.intToInt,Result.andThen_ok,h];rfl,qn.2 rfl⟩
theorem aaN {a:BitVec 64}{src dst:TypeId}{e:TypeDesc}(hs:c.P.underlying src=some e)(hd:c.P.underlying dst=some (.int .i64))(ar:ba c E L x (.of a)):b9 c E L ⟨d,.convert src dst x,ty,pos,af,g⟩ (.of (bt a.toNat)):= .pure fun A W s=>
 ⟨.int .i64 (bt a.toNat),by
   simp only [execOp,convert,Sem.run_bind,run_underlying hs,run_underlying hd,gX.1 (ar A W s),Conv.intToInt,Result.andThen_ok];rfl,of_int.2 rfl⟩
end
def xg (tmps:Array Value):ResultVar→Sem Value
 | .tmp t=>pure (tmps.getD t undef)
 | .cell a t=>do loadVar t (← asAddr (tmps.getD a undef))
theorem wV (fn:Func)(tmps:Array Value):results fn tmps=(do
 let vs ← fn.results.mapM (xg tmps)
 pure (if h:vs.size=1 then vs[0] else .tuple vs)):=by
 unfold results
 congr 1
section
variable {c:dB} {E:List (Nat×I)} {L:List aQ} {ops:Array Oper} {Q:Exit→Act→World→Prop}
def uy (c:dB)(E:List (Nat×I))(L:List aQ)(r:ResultVar)(τ:I):Prop:=
 ∀ a W,bL c E L a W→ ∃ v,(xg a.tmps r).run c.P W= .ok v W∧τ.holds c.b7 W v
theorem vz {t:Nat}{τ:I}(h:look E t=some τ):uy c E L (.tmp t) τ:=fun a W s=>by
 obtain⟨v,aa,ae⟩:=s.env t τ h;exact⟨v,by simp [xg,aa],OV ae⟩
theorem afh {t:Nat}{ty:TypeId}{i p:Nat}{α:Type}[ak α]{x:α}(eN:bF c.P ty α)(h:look E t=some (.eq (.pointer (some ⟨p,0,none⟩))))(al:L[i]? =some ⟨some p,.var x⟩):uy c E L (.cell t ty) (.of x):=fun a W s=>by
 obtain⟨v,aa,ae⟩:=s.env t _ h;subst ae;obtain⟨k3,fe,cs,T,rfl,gO⟩:=s.own _ (List.mem_of_getElem? al);have an:cs.toList.length=ak.size α:=ak.len gO;have eL:cs.size=ak.size α:=by simpa using an
 obtain⟨v,aG,a0⟩:=wK (A:=aU L++c.b7) (off:=0) eN fe (by omega) (by rw [List.drop_zero,← an,List.take_length];exact gO);exact⟨v,by simp [xg,aa,asAddr,aG],OV a0⟩
def Ag (c:dB)(ρ:I):Ending→World→Prop:=fun e W'=> ∃ v,e= .returned v∧Fr c.X c.jB W'∧ρ.holds c.b7 W' v
theorem ad.jx {fn:Func}{r:ResultVar}{τ:I}(aO:fn.results= #[r])(h:uy c E L r τ)(h3:c.ds= []:=by rfl):ad c (bodyPost c.P fn (Ag c τ)) .ret E L:=fun a W s=>by
 obtain⟨v,aa,ae⟩:=h a W s;exact⟨s.w3 h3,v,by simp [wV,aO,aa],v,rfl,s.ej,ae⟩
theorem ad.Ds {fn:Func}{r gP:ResultVar}{τ nw:I}(aO:fn.results= #[r,gP])(h:uy c E L r τ)(ae:uy c E L gP nw)(h3:c.ds= []:=by rfl):ad c (bodyPost c.P fn (Ag c (.dZ [τ,nw]))) .ret E L:=fun a W s=>by
 obtain⟨v,aG,a0⟩:=h a W s;obtain⟨v2,a7,bn⟩:=ae a W s;exact⟨s.w3 h3,.tuple #[v,v2],by simp [wV,aO,aG,a7],_,rfl,s.ej,_,rfl,.cons a0 (.cons bn .nil)⟩
theorem ad.S2 {fn:Func}{r gP ph:ResultVar}{τ nw Eh:I}(aO:fn.results= #[r,gP,ph])(h:uy c E L r τ)(ae:uy c E L gP nw)(aG:uy c E L ph Eh)(h3:c.ds= []:=by rfl):ad c (bodyPost c.P fn (Ag c (.dZ [τ,nw,Eh]))) .ret E L:=fun a W s=>by
 obtain⟨v,a0,a7⟩:=h a W s;obtain⟨v2,bn,dn⟩:=ae a W s;obtain⟨Ny,fh,gh⟩:=aG a W s;exact⟨s.w3 h3,.tuple #[v,v2,Ny],by simp [wV,aO,a0,bn,fh],_,rfl,s.ej,_,rfl,.cons a7 (.cons dn (.cons gh .nil))⟩
theorem bK.of {P:Program}{f:FuncId}{fn:Func}{code:Code}{n:Nat}{τs:List I}{ρ:I}(a2:P.funcs[f]? =some fn)(hb:fn.body=some code)(aR:fn.ntmps=n)(hlen:Nat.ble τs.length n=true)
 (h:∀ W A,ag ⟨P,n,W,[],A,none,[]⟩ (bodyPost P fn (Ag ⟨P,n,W,[],A,none,[]⟩ ρ)) code (params 0 τs) []):bK P f τs ρ:=bK.enter a2 hb aR hlen h
end
structure nx (P:Program)(t:TypeId)(α:Type)[ak α][DecidableEq α](k:Nat):Prop where
 run:∀ d,k≤d→ ∀ A W u v (x y:α),(I.of x).holds A W u→ (I.of y).holds A W v→ (Op.equalIn d t u v).run P W= .ok (decide (x=y)) W
theorem Qq {P t K}(h:P.underlying t=some (.int K)):nx P t Int 1 where
 run d hd A W u v x y ar a5:=by
  obtain⟨d,rfl⟩:∃ e,d=e+1:=⟨d - 1,by omega⟩;rw [of_int.1 ar,of_int.1 a5,run_equalIn_int W d t .i64 K x y h];congr 1
theorem aac {P t K}(h:P.underlying t=some (.int K)):nx P t (BitVec 64) 1 where
 run d hd A W u v x y ar a5:=by
  obtain⟨d,rfl⟩:∃ e,d=e+1:=⟨d - 1,by omega⟩;rw [gX.1 ar,gX.1 a5,run_equalIn_int W d t .u64 K _ _ h];congr 1;rw [Bool.eq_iff_iff];simp only [beq_iff_eq,decide_eq_true_eq];exact⟨fun h=>BitVec.eq_of_toNat_eq (by omega),fun h=>by rw [h]⟩
theorem Zg {P t}(h:P.underlying t=some .bool):nx P t Bool 1 where
 run d hd A W u v x y ar a5:=by
  obtain⟨d,rfl⟩:∃ e,d=e+1:=⟨d - 1,by omega⟩;rw [of_bool.1 ar,of_bool.1 a5,run_equalIn_bool' W d t x y h];congr 1
theorem Ja {P:Program}{W:World}(f:Nat→Sem Bool)(p:Nat→Bool):∀ (l:List Nat),(∀ i∈l,(f i).run P W= .ok (p i) W)→
 (forIn (m:=Sem) l ((none,()):Option Bool×Unit) (fun i _=>do
  let __do_lift ← f i
  if (!__do_lift)=true then pure (ForInStep.done (some false,())) else
   pure (ForInStep.yield (none,())))).run P W= .ok (if l.all p then(none,()) else(some false,())) W
 | [],_=>by simp
 | i::r,h=>by
   have aa:=h i (by simp);have ae:=Ja (P:=P) (W:=W) f p r (fun j aH=>h j (by simp [aH]));cases hp:p i with
   | false=>simp [List.forIn_cons,aa,hp]
   | true=>
     rw [List.forIn_cons]
     simp only [Sem.run_bind,aa,hp,Result.andThen_ok,Bool.not_true,Bool.false_eq_true,if_false,Sem.run_pure]
     rw [ae]
     simp [hp]
theorem Qr {P t e n k}{α:Type}[ak α][Inhabited α][DecidableEq α](h:P.underlying t=some (.array n e))(fi:bF P e α)(he:nx P e α k):nx P t (Vector α n) (k+1) where
 run d hd A W u v x y ar a5:=by
  obtain⟨d,rfl⟩:∃ e,d=e+1:=⟨d - 1,by omega⟩;obtain⟨aa,ae⟩:=ar;obtain⟨aG,a0⟩:=a5;obtain⟨xs,rfl⟩:∃ cs,u= .agg cs:=by simpa [shaped,ak.agg] using aa
  obtain⟨ys,rfl⟩:∃ cs,v= .agg cs:=by simpa [shaped,ak.agg] using aG
  simp only [Value.cells] at ae a0;have uf:xs.toList.length=n * ak.size α:=ak.len ae;have Ei:ys.toList.length=n * ak.size α:=ak.len a0;have tA:∀ i∈List.range' 0 n,((do
   let a ← part e xs (i * ak.size α)
   let b ← part e ys (i * ak.size α)
   Op.equalIn d e a b):Sem Bool).run P W= .ok (decide (bH x i=bH y i)) W:=by
   intro i au
   have hE:i<n:=by simpa using au
   have fc:i * ak.size α+ak.size α≤n * ak.size α:=(aL.idx (α:=α) n i hE).gZ
   obtain⟨a,bb,ug⟩:=r5 (A:=A) (P:=P) (W:=W) (cs:=xs) (off:=i * ak.size α) fi (by simp at uf;omega) ((aL.idx (α:=α) n i hE).jh ae)
   obtain⟨b,hb,Ej⟩:=r5 (A:=A) (P:=P) (W:=W) (cs:=ys) (off:=i * ak.size α) fi (by simp at Ei;omega) ((aL.idx (α:=α) n i hE).jh a0)
   simp only [Sem.run_bind,bb,hb,Result.andThen_ok]
   exact he.run d (by omega) A W a b _ _ ug Ej
  have a2:=Ja (P:=P) (W:=W) _ _ _ tA;have kR:(List.range' 0 n).all (fun i=>decide (bH x i=bH y i))=decide (x=y):=by
   rw [Bool.eq_iff_iff,List.all_eq_true,decide_eq_true_eq];constructor
   ·intro h;apply Vector.ext;intro i au;have:=h i (by simpa using au);simpa [bH,au] using this
   rintro rfl i _;simp
  rw [kR] at a2;simp only [Op.equalIn,Sem.run_bind,run_underlying h,Result.andThen_ok,fi.sizeOf,Std.Legacy.Range.forIn_eq_forIn_range'];simp only [Std.Legacy.Range.size,Nat.sub_zero,Nat.add_one_sub_one,Nat.div_one] at a2 ⊢;simp only [bind_assoc] at a2;rw [a2];by_cases Ek:x=y
  ·simp [Ek]
  simp [Ek]
section
variable {c:dB} {E:List (Nat×I)} {L:List aQ} {ops:Array Oper} {Q:Exit→Act→World→Prop}
variable {d:Option Tmp} {ty:TypeId} {pos:String} {af:Array Edge} {g:Option (Nat×Bool)} {x y:Operand} {t t2:TypeId}
theorem vn {α:Type}[ak α][DecidableEq α]{k:Nat}{a b:α}(yt:nx c.P t α k)(aw:Nat.ble k 10000=true)(bD:c.P.eqGuardType c.P.depth t=false)(bb:ak.agg α=true)(ar:ba c E L x (.of a))(a5:ba c E L y (.of b)):
 b9 c E L ⟨d,.binOp .eql t x y t2,ty,pos,af,g⟩ (.of (decide (a=b))):= .pure fun A W s=>by
 have aa:=ar A W s
 have ae:=a5 A W s
 obtain⟨xs,iv⟩:∃ cs,A.eval x= .agg cs:=by simpa [shaped,bb] using aa.1
 obtain⟨ys,vU⟩:∃ cs,A.eval y= .agg cs:=by simpa [shaped,bb] using ae.1
 have aG:=yt.run 10000 (Nat.le_of_ble_eq_true aw) _ W _ _ a b aa ae
 rw [iv,vU] at aG
 refine⟨.bool (decide (a=b)),?_,of_bool.2 rfl⟩
 simp only [execOp,iv,vU,Sem.run_bind,run_eqGuard_agg W .eql t x y xs ys bD,Result.andThen_ok,run_eql_struct,aG,Sem.run_pure]
theorem G1 {α:Type}[ak α][DecidableEq α]{k:Nat}{a b:α}(yt:nx c.P t α k)(aw:Nat.ble k 10000=true)(bD:c.P.eqGuardType c.P.depth t=false)(bb:ak.agg α=true)(ar:ba c E L x (.of a))(a5:ba c E L y (.of b)):
 b9 c E L ⟨d,.binOp .neq t x y t2,ty,pos,af,g⟩ (.of (!decide (a=b))):= .pure fun A W s=>by
 have aa:=ar A W s
 have ae:=a5 A W s
 obtain⟨xs,iv⟩:∃ cs,A.eval x= .agg cs:=by simpa [shaped,bb] using aa.1
 obtain⟨ys,vU⟩:∃ cs,A.eval y= .agg cs:=by simpa [shaped,bb] using ae.1
 have aG:=yt.run 10000 (Nat.le_of_ble_eq_true aw) _ W _ _ a b aa ae
 rw [iv,vU] at aG
 refine⟨.bool (!decide (a=b)),?_,of_bool.2 rfl⟩
 simp only [execOp,iv,vU,Sem.run_bind,run_eqGuard_agg W .neq t x y xs ys bD,Result.andThen_ok,run_neq_struct,aG,Sem.run_pure]
end
theorem Qs {P:Program}{W:World}{d:Nat}{xs ys:Array Value} :(Op.eqFields d xs ys []).run P W= .ok true W:=rfl
theorem w5 {P:Program}{A:List Nat}{W:World}{d:Nat}{xs ys:Array Value}{β γ:Type}[ak β][ak γ][DecidableEq γ](l:aL β γ){Nz NA:β}{fd:Field}{fs:List Field}{k:Nat}{r:Bool}(fi:bF P fd.type γ)(bg:fd.offset=l.off)(aR:(fd.name== "_")=false)
 (yt:nx P fd.type γ k) (hd:k≤d) (ar:ak.rep A W xs.toList Nz) (a5:ak.rep A W ys.toList NA) (aO:(Op.eqFields d xs ys fs).run P W= .ok r W):
 (Op.eqFields d xs ys (fd::fs)).run P W= .ok (decide (l.get Nz=l.get NA)&&r) W:=by
 have uf:xs.toList.length=ak.size β:=ak.len ar
 have Ei:ys.toList.length=ak.size β:=ak.len a5
 have fc:=l.gZ
 obtain⟨a,bb,ug⟩:=r5 (A:=A) (P:=P) (W:=W) (cs:=xs) (off:=l.off) fi (by simp at uf;omega) (l.jh ar)
 obtain⟨b,hb,Ej⟩:=r5 (A:=A) (P:=P) (W:=W) (cs:=ys) (off:=l.off) fi (by simp at Ei;omega) (l.jh a5)
 have uh:fd.name≠ "_" :=fun e=>by rw [e] at aR;simp at aR
 simp only [Op.eqFields,if_pos uh,Sem.run_bind,bg,bb,hb,Result.andThen_ok,yt.run d hd A W a b _ _ ug Ej]
 by_cases h:l.get Nz=l.get NA
 ·simp [h,aO]
 simp [h]
theorem OX {P:Program}{t:TypeId}{β:Type}[ak β][DecidableEq β]{k:Nat}{fs:Array Field}(bb:ak.agg β=true)(hu:P.underlying t=some (.struct fs))(hp:P.stoodInHeld t=false)
 (h:∀ d,k≤d→ ∀ A W (xs ys:Array Value) (x y:β),ak.rep A W xs.toList x→ak.rep A W ys.toList y→ (Op.eqFields d xs ys fs.toList).run P W= .ok (decide (x=y)) W):nx P t β (k+1) where
 run d hd A W u v x y ar a5:=by
  obtain⟨d,rfl⟩:∃ e,d=e+1:=⟨d - 1,by omega⟩;obtain⟨xs,rfl⟩:∃ cs,u= .agg cs:=by simpa [shaped,bb] using ar.1
  obtain⟨ys,rfl⟩:∃ cs,v= .agg cs:=by simpa [shaped,bb] using a5.1
  have a2:P.fieldsOf t=fs:=by simp [Program.fieldsOf,hu]
  rw [run_equalIn_struct W d t xs ys (by rw [a2];exact hu) hp,a2];exact h d (by omega) A W xs ys x y (by simpa [Value.cells] using ar.2) (by simpa [Value.cells] using a5.2)
theorem Ov {P:Program}{W:World}(fs:Array Field)(h:fs.all (fun f=>(P.info? f.type).isSome)=true):
 (fs.mapM (m:=Sem) fun f=>do pure (f.offset,← Go.sizeOf f.type)).run P W= .ok (fs.map fun f=>(f.offset,P.cellsOf f.type)) W:=by
 obtain⟨l⟩:=fs
 have key:∀ (l:List Field),l.all (fun f=>(P.info? f.type).isSome)=true→ (l.mapM (m:=Sem) fun f=>do pure (f.offset,← Go.sizeOf f.type)).run P W= .ok (l.map fun f=>(f.offset,P.cellsOf f.type)) W:=by
  intro l;induction l with
  | nil=>intro _;rfl
  | cons f r b6=>
    intro h
    simp only [List.all_cons,Bool.and_eq_true] at h
    obtain⟨i,au⟩:=Option.isSome_iff_exists.1 h.1
    rw [List.mapM_cons]
    simp only [Sem.run_bind,Go.sizeOf,typeInfo,run_program,Result.andThen_ok,au,Sem.run_pure]
    have:=b6 h.2
    simp only [Sem.run_bind,Go.sizeOf,typeInfo] at this
    rw [this]
    simp [Program.cellsOf,au]
 have de:l.all (fun f=>(P.info? f.type).isSome)=true:=by simpa using h
 rw [List.mapM_toArray]
 simp only [Sem.run_map,key l de,Result.andThen_ok]
 simp
theorem Xn (ds:List Value)(off:Nat):∀ (j:Nat) (cs:Array Value),off+j+ds.length≤cs.size→
 (ds.zipIdx j).foldl (fun cs (c,j)=>cs.setIfInBounds (off+j) c) cs=(cs.toList.take (off+j)++ds++cs.toList.drop (off+j+ds.length)).toArray:=by
 induction ds with
 | nil=>intro j cs _;simp
 | cons v r b6=>
   intro j cs h
   simp only [List.length_cons] at h
   rw [List.zipIdx_cons,List.foldl_cons,b6 (j+1) _ (by simp;omega)]
   simp only [Array.toList_setIfInBounds]
   have:=list_seg_step cs.toList (off+j) v r (by simp;omega)
   rw [show off+(j+1)=off+j+1 by omega]
   simp only [List.length_cons]
   rw [this]
theorem Gm {place:Nat→Option (Nat×Nat)}{cs:Array Value}{i off sz:Nat}{v:Value}{rest:List (Nat×Value)}(hp:place i=some (off,sz))(a6:v.cells.size=sz)(hle:off+sz≤cs.size):
 Instr.fill place cs ((i,v)::rest)=Instr.fill place (gR cs.toList off v.cells.toList).toArray rest:=by
 simp only [Instr.fill,hp]
 rw [if_neg (by simp [a6];omega)]
 have:=Xn v.cells.toList off 0 cs (by simp [a6];omega)
 simp only [Nat.add_zero] at this
 congr 1
 rw [← Array.foldl_toList]
 have dI:(v.cells.zipIdx).toList=v.cells.toList.zipIdx:=by simp
 rw [dI,this]
 simp [gR]
section
variable {c:dB} {E:List (Nat×I)} {L:List aQ} {ops:Array Oper} {Q:Exit→Act→World→Prop}
variable {d:Option Tmp} {ty:TypeId} {pos:String} {af:Array Edge} {g:Option (Nat×Bool)} {x y:Operand} {t t2:TypeId}
inductive sr (c:dB)(E:List (Nat×I))(L:List aQ)(place:Nat→Option (Nat×Nat)){β:Type}[ak β]:β→List (Nat×Operand)→β→Prop
 | nil {b} :sr c E L place b [] b
 | cons {b dT b':β} {γ:Type} [ak γ] {v:γ} {i:Nat} {x:Operand} {r:List (Nat×Operand)} (l:aL β γ):place i=some (l.off,ak.size γ)→ba c E L x (.of v)→l.set b v=dT→sr c E L place dT r b'→sr c E L place b ((i,x)::r) b'
theorem sr.run {place:Nat→Option (Nat×Nat)}{β:Type}[ak β]{b b':β}{bw:List (Nat×Operand)}(h:sr c E L place b bw b'):∀ a W,bL c E L a W→ ∀ cs:Array Value,ak.rep (aU L++c.b7) W cs.toList b→
 ∃ eA,Instr.fill place cs (bw.map fun(i,x)=>(i,a.eval x))=some eA∧ak.rep (aU L++c.b7) W eA.toList b':=by
 induction h with
 | nil=>intro a W s cs aO;exact⟨cs,rfl,aO⟩
 | @cons b dT b' γ _ v i x r l aa ae aG _ b6=>
   intro a W s cs aO
   subst aG
   have a6:=ae a W s
   have eL:(a.eval x).cells.size=ak.size γ:=by have:=ak.len a6.2;simpa using this
   have an:cs.toList.length=ak.size β:=ak.len aO
   have fc:=l.gZ
   rw [List.map_cons,Gm aa eL (by simp at an;omega)]
   refine b6 a W s _ ?_
   have:=l.mf aO a6.2
   simpa [gR,ak.len a6.2] using this
structure ie (P:Program)(t:TypeId)(pl:Array (Nat×Nat)):Prop where
 at_:∃ fs,P.underlying t=some (.struct fs)∧fs.all (fun f=>(P.info? f.type).isSome)=true∧ (fs.map fun f=>(f.offset,P.cellsOf f.type))=pl
theorem dj {β:Type}[ak β]{z b:β}{bw:List (Nat×Operand)}{pl:Array (Nat×Nat)}(bb:ak.agg β=true)(ER:ie c.P t pl)(hz:cS c.P t z)
 (a2:sr c E L (pl[·]?) z bw b):b9 c E L ⟨d,.build t bw.toArray,ty,pos,af,g⟩ (.of b):= .pure fun a W s=>by
 obtain⟨fs,hu,hs,rfl⟩:=ER.at_
 obtain⟨i,eP,aa,ae,aG⟩:=hz.zero
 obtain⟨eA,a0,a7⟩:=a2.run a W s eP.cells (aG _ _).2
 refine⟨.agg eA,?_,by simp [shaped,bb],by simpa [Value.cells] using a7⟩
 have hm:(bw.toArray.map fun(x:Nat×Operand)=>(x.1,a.eval x.2)).toList=bw.map fun(i,x)=>(i,a.eval x):=by simp
 simp only [execOp,Instr.build,Sem.run_bind,zeroValue,typeInfo,run_program,Result.andThen_ok,aa,ae,Sem.run_pure,run_underlying hu,Ov fs hs]
 rw [hm,a0]
 rfl
theorem Y5 {β:Type}[ak β]{z b:β}{bw:List (Nat×Operand)}{n e sz:Nat}(bb:ak.agg β=true)(hu:c.P.underlying t=some (.array n e))(hs:(c.P.info? e).map (·.size)=some sz)(hz:cS c.P t z)
 (a2:sr c E L (fun i=>some (i * sz,sz)) z bw b):b9 c E L ⟨d,.build t bw.toArray,ty,pos,af,g⟩ (.of b):= .pure fun a W s=>by
 obtain⟨i,eP,aa,ae,aG⟩:=hz.zero
 obtain⟨gS,eY,eL⟩:∃ gS,c.P.info? e=some gS∧gS.size=sz:=by
  cases au:c.P.info? e with
  | none=>simp [au] at hs
  | some gS=>exact⟨gS,rfl,by simpa [au] using hs⟩
 obtain⟨eA,a0,a7⟩:=a2.run a W s eP.cells (aG _ _).2
 refine⟨.agg eA,?_,by simp [shaped,bb],by simpa [Value.cells] using a7⟩
 have hm:(bw.toArray.map fun(x:Nat×Operand)=>(x.1,a.eval x.2)).toList=bw.map fun(i,x)=>(i,a.eval x):=by simp
 simp only [execOp,Instr.build,Sem.run_bind,zeroValue,typeInfo,run_program,Result.andThen_ok,aa,ae,Sem.run_pure,run_underlying hu,Go.sizeOf,eY,eL]
 rw [hm,a0]
 rfl
end
def pj {α:Type}[ak α](A:List Nat)(W:World)(v:Value)(xs:List α):Prop:=
 (v= .slice none 0 0∧xs= [])∨
 ∃ b off cap cur T hL,v= .slice (some ⟨b,off,none⟩) xs.length cap∧b ∉ A∧W.heap[b]? =some (.cells cur T hL)∧xs.length≤cap∧xs.length≤maxLen∧off+xs.length * ak.size α≤cur.size∧
   hr A W ((cur.toList.drop off).take (xs.length * ak.size α)) xs
theorem pj.mono {α:Type}[ak α]{A W dy W' v}{xs:List α}(e:Ext A W dy W')(h:pj A W v xs):pj dy W' v xs:=by
 rcases h with h | ⟨b,off,cap,cur,T,hL,aa,ae,aG,a0,a7,bn,dn⟩
 ·exact .inl h
 have cf:b<W.heap.size:=(Array.getElem?_eq_some_iff.1 aG).1;exact .inr ⟨b,off,cap,cur,T,hL,aa,fun hm=>ae (e.new b hm cf),by rw [e.block b cf ae];exact aG,a0,a7,bn,dn.mono e⟩
instance ahM {α:Type} [ak α]:ak (List α) where
 size:=1
 agg:=false
 rep A W cs xs:= ∃ v,cs= [v]∧pj A W v xs
 len h:=by obtain⟨v,rfl,_⟩:=h;rfl
 one h:=by
  obtain⟨v,rfl,h⟩:=h;intro u hu;rw [List.mem_singleton.1 hu];rcases h with⟨rfl,_⟩ | ⟨b,off,cap,cur,T,hL,rfl,_⟩ <;> rfl
 flat _:=rfl
 mono e h:=let⟨v,aa,ae⟩:=h; ⟨v,aa,ae.mono e⟩
theorem pj.one {α:Type}[ak α]{A W v}{xs:List α}(h:pj A W v xs):v.oneCell'=true:=by
 rcases h with⟨rfl,_⟩ | ⟨b,off,cap,cur,T,hL,rfl,_⟩ <;> rfl
theorem oc {α:Type}[ak α]{A W v}{xs:List α} :(I.of xs).holds A W v↔pj A W v xs:=by
 constructor
 ·rintro ⟨aa,u,ae,aG⟩;have:v=u:=pw aa ae;rw [this];exact aG
 intro h;exact⟨h.one,v,by rw [px h.one],h⟩
def aF {α:Type}[Inhabited α](xs:List α)(k:Nat):α:=xs[k]?.getD default
theorem eO {α:Type}[Inhabited α](xs:List α){k:Nat}(h:k<xs.length):aF xs k=xs[k]:=by simp [aF,h]
def q1 {α:Type}(xs:List α)(lo au:Int):Option (List α):=if 0≤lo∧lo≤au∧au≤xs.length then some ((xs.drop lo.toNat).take (au.toNat - lo.toNat)) else none
theorem Xo {α:Type}{xs r:List α}{lo au:Int}(h:q1 xs lo au=some r):∃ a b:Nat,lo=a∧au=b∧a≤b∧b≤xs.length∧r=(xs.drop a).take (b - a):=by
 unfold q1 at h;split at h
 ·rename_i aj;simp only [Option.some.injEq] at h;exact⟨lo.toNat,au.toNat,by omega,by omega,by omega,by omega,h.symm⟩
 cases h
def g9 {α:Type}(bytes:Nat)(xs ys:List α):Option (List α):=if (xs.length+ys.length) * bytes≤140737488355328∧xs.length+ys.length≤maxLen then some (xs++ys) else none
theorem Pf {α:Type}{bytes:Nat}{xs ys r:List α}(h:g9 bytes xs ys=some r):(xs.length+ys.length) * bytes≤140737488355328∧xs.length+ys.length≤maxLen∧r=xs++ys:=by
 unfold g9 at h;split at h
 ·rename_i aj;simp only [Option.some.injEq] at h;exact⟨aj.1,aj.2,h.symm⟩
 cases h
section
variable {c:dB} {E:List (Nat×I)} {L:List aQ} {ops:Array Oper} {Q:Exit→Act→World→Prop}
variable {d:Option Tmp} {ty:TypeId} {pos:String} {af:Array Edge} {g:Option (Nat×Bool)} {x y:Operand} {t t2:TypeId}
theorem look_nil {α:Type}[ak α]:ba c E L (.const (.slice none 0 0)) (.of ([]:List α)):=fun _ _ _=>oc.2 (.inl ⟨rfl,rfl⟩)
theorem pj.len {α:Type}[ak α]{A W v}{xs:List α}(h:pj A W v xs):∃ a cap,v= .slice a xs.length cap:=by
 rcases h with⟨rfl,rfl⟩ | ⟨b,off,cap,cur,T,hL,rfl,_⟩
 ·exact⟨none,0,rfl⟩
 exact⟨_,_,rfl⟩
theorem eh {α:Type}[ak α]{xs:List α}{e:TypeId}(hu:c.P.underlying t=some (.slice e))(ar:ba c E L x (.of xs)):b9 c E L ⟨d,.call ⟨.builtin .len,#[x],#[t]⟩,ty,pos,af,g⟩ (.of (xs.length:Int)):= .pure fun a W s=>by
 obtain⟨b,cap,aa⟩:=(oc.1 (ar a W s)).len;exact⟨.int .i64 xs.length,by simp [execOp,resolve,invoke,builtin,Builtin.len_,aa,run_underlying hu,goInt],of_int.2 rfl⟩
theorem o1 {α:Type}[ak α][Inhabited α]{xs:List α}{e:TypeId}{i:Int}{k:Nat}(hu:c.P.underlying t=some (.slice e))(fi:bF c.P e α)(ar:ba c E L x (.of xs))(a5:ba c E L y (.of i))(aw:k<xs.length∧i=k):
 b9 c E L ⟨d,.indexAddr t x y,ty,pos,af,g⟩ (.ptr (aF xs k)):= .pure fun a W s=>by
 obtain⟨bn,rfl⟩:=aw
 have a7:=of_int.1 (a5 a W s)
 rcases oc.1 (ar a W s) with⟨_,rfl⟩ | ⟨b,off,cap,cur,T,hL,aa,ae,aG,a0,dn,fh,gh⟩
 ·simp at bn
 obtain⟨gS,eY,eL⟩:=fi.info
 have hle:(k+1) * ak.size α≤xs.length * ak.size α:=Nat.mul_le_mul_right _ bn
 rw [Nat.succ_mul] at hle
 refine⟨.pointer (some ⟨b,off+k * ak.size α,none⟩),?_,b,off+k * ak.size α,cur,T,hL,rfl,ae,aG,by omega,?_⟩
 ·simp [execOp,Instr.indexAt,asIntOf,run_underlying hu,aa,a7,bn,Go.sizeOf,typeInfo,eY,eL,ka]
 have:=gh.2 k bn
 rw [wP _ _ _ _ _ hle] at this
 rw [eO xs bn]
 exact this
theorem qa {P:Program}{W:World}{v:Value}{k:IntKind}{n m:Nat}{code:BoundsCode}(h:n≤m)(a6:v= .int k n):(Instr.sliceBound v m code).run P W= .ok n W:=by
 subst a6;have bO:(n:Int)≤ (m:Int):=by omega
 simp [Instr.sliceBound,asIntOf,h]
theorem aad {α:Type}[ak α]{A W}{xs:List α}{b off cap:Nat}{cur:Array Value}{T:TypeId}{hL:Nat×Nat}{lo au:Nat}(ae:b ∉ A)(aG:W.heap[b]? =some (.cells cur T hL))(a0:xs.length≤cap)(dn:xs.length≤maxLen)
 (fh:off+xs.length * ak.size α≤cur.size) (gh:hr A W ((cur.toList.drop off).take (xs.length * ak.size α)) xs) (h:lo≤au) (de:au≤xs.length):
 pj A W (.slice (some (if cap=lo then⟨b,off,none⟩ else⟨b,off+lo * ak.size α,none⟩)) (au - lo) (cap - lo)) ((xs.drop lo).take (au - lo)):=by
 have an:((xs.drop lo).take (au - lo)).length=au - lo:=by simp;omega
 have hm:au * ak.size α≤xs.length * ak.size α:=Nat.mul_le_mul_right _ de
 have rp:lo * ak.size α≤au * ak.size α:=Nat.mul_le_mul_right _ h
 have hd:(au - lo) * ak.size α=au * ak.size α - lo * ak.size α:=Nat.sub_mul _ _ _
 by_cases e:cap=lo
 ·subst e
  have bO:au=cap:=by omega
  subst bO
  refine .inr ⟨b,off,au - au,cur,T,hL,by simp,ae,aG,by simp,by simp,by simp;omega,?_⟩
  simp only [Nat.sub_self,List.take_zero,List.length_nil,Nat.zero_mul]
  exact⟨by simp,fun i au=>by simp at au⟩
 rw [if_neg e]
 refine .inr ⟨b,off+lo * ak.size α,cap - lo,cur,T,hL,by rw [an],ae,aG,by omega,by omega,by rw [an];omega,?_⟩
 rw [an]
 refine⟨by simp only [an,List.length_take,List.length_drop];simp;omega,fun i hE=>?_⟩
 rw [an] at hE
 have jM:=gh.2 (lo+i) (by omega)
 have hle:(lo+i+1) * ak.size α≤xs.length * ak.size α:=Nat.mul_le_mul_right _ (by omega)
 have Hy:(i+1) * ak.size α≤ (au - lo) * ak.size α:=Nat.mul_le_mul_right _ (by omega)
 rw [Nat.succ_mul] at hle Hy
 rw [wP _ _ _ _ _ hle] at jM
 rw [wP _ _ _ _ _ Hy]
 have:((xs.drop lo).take (au - lo))[i]'(by rw [an];exact hE)=xs[lo+i]:=by simp
 rw [this]
 rw [show off+lo * ak.size α+i * ak.size α=off+(lo+i) * ak.size α by rw [Nat.add_mul];omega]
 exact jM
inductive wg (c:dB)(E:List (Nat×I))(L:List aQ):Option Operand→Int→Int→Prop
 | none {n} :wg c E L .none n n
 | some {x i n} :ba c E L x (.of (i:Int))→wg c E L (.some x) i n
theorem Gq {α:Type}[ak α]{xs r:List α}{e:TypeId}{lo au:Option Operand}{i j:Int}(hu:c.P.underlying t=some (.slice e))(fi:bF c.P e α)(ar:ba c E L x (.of xs))(g1:wg c E L lo i 0)(eX:wg c E L au j xs.length)
 (h:q1 xs i j=some r):b9 c E L ⟨d,.slice t x lo au none,ty,pos,af,g⟩ (.of r):= .pure fun a W s=>by
 obtain⟨m,n,rfl,rfl,sC,aR,rfl⟩:=Xo h
 obtain⟨gS,eY,eL⟩:=fi.info
 rcases oc.1 (ar a W s) with⟨aa,rfl⟩ | ⟨b,off,cap,cur,T,hL,aa,ae,aG,a0,dn,fh,gh⟩
 ·have sH:n=0:=by simpa using aR
  have ha:m=0:=by omega
  subst sH
  subst ha
  refine⟨.slice none 0 0,?_,oc.2 (.inl ⟨rfl,by simp⟩)⟩
  have al:(match lo.map a.eval with | some v=>Instr.sliceBound v 0 .sliceB | none=>pure 0:Sem Nat).run c.P W= .ok 0 W:=by
   cases g1 with
   | none=>rfl
   | some an=>exact qa (Nat.le_refl _) (of_int.1 (an a W s))
  have kD:(match au.map a.eval,(none:Option Value) with | some v,some _=>Instr.sliceBound v 0 .slice3B | some v,none=>Instr.sliceBound v 0 .sliceAcap | none,none=>pure 0 | none,some _=>stuck "Slice: max without high" :Sem Nat).run c.P W= .ok 0 W:=by
   cases eX with
   | none=>rfl
   | some an=>exact qa (Nat.le_refl _) (of_int.1 (an a W s))
  cases g1 <;> cases eX
  all_goals
   simp only [execOp,Instr.sliceAt,Instr.slice,Instr.sliceBounds,aa,Sem.run_bind,run_underlying hu,Result.andThen_ok,Option.map_none,Option.map_some,Option.isSome_none,Bool.false_eq_true,if_false,if_true,Sem.run_pure] at al kD ⊢
   try simp only [al,kD,Result.andThen_ok,Go.sizeOf,typeInfo,Sem.run_bind,run_program,eY,Sem.run_pure]
   try simp [eY]
 refine⟨.slice (some (if cap=m then⟨b,off,none⟩ else⟨b,off+m * ak.size α,none⟩)) (n - m) (cap - m),?_,oc.2 (aad ae aG a0 dn fh gh sC aR)⟩
 have al:∀ v,v=Value.int .i64 m→ (Instr.sliceBound v n .sliceB).run c.P W= .ok m W:=fun v a6=>qa sC a6
 have kD:∀ v,v=Value.int .i64 n→ (Instr.sliceBound v cap .sliceAcap).run c.P W= .ok n W:=fun v a6=>qa (by omega) a6
 have DQ:(if cap=m then(some ⟨b,off,none⟩:Option Addr) else(some (Addr.add ⟨b,off,none⟩ (m * ak.size α))))=some (if cap=m then⟨b,off,none⟩ else⟨b,off+m * ak.size α,none⟩):=by
  split <;> simp [ka]
 generalize fc:(n:Int)=UE at eX
 generalize El:(m:Int)=UF at g1
 generalize Em:(xs.length:Int)=UG at eX
 generalize TX:(0:Int)=UH at g1
 cases g1 with
 | none=>
   have ha:m=0:=by omega
   cases eX with
   | none=>
     have l3:n=xs.length:=by omega
     subst l3
     subst ha
     simp [execOp,Instr.sliceAt,Instr.slice,Instr.sliceBounds,aa,run_underlying hu,Go.sizeOf,typeInfo,eY,eL,ka]
   | some an=>
     have a7:=of_int.1 (an a W s)
     rw [← fc] at a7
     have bn:=kD _ a7
     subst ha
     simp [execOp,Instr.sliceAt,Instr.slice,Instr.sliceBounds,aa,run_underlying hu,Go.sizeOf,typeInfo,eY,eL,ka,bn]
 | some an=>
   have a7:=of_int.1 (an a W s)
   rw [← El] at a7
   have bn:=al _ a7
   cases eX with
   | none=>
     have l3:n=xs.length:=by omega
     subst l3
     simp only [execOp,Instr.sliceAt,Instr.slice,Instr.sliceBounds,aa,Sem.run_bind,run_underlying hu,Result.andThen_ok,Option.map_none,Option.map_some,Option.isSome_none,Bool.false_eq_true,if_false,if_true,Sem.run_pure,bn,Go.sizeOf,typeInfo,run_program,eY,eL]
     rw [← DQ]
   | some lf=>
     have TY:=of_int.1 (lf a W s)
     rw [← fc] at TY
     have aga:=kD _ TY
     simp only [execOp,Instr.sliceAt,Instr.slice,Instr.sliceBounds,aa,Sem.run_bind,run_underlying hu,Result.andThen_ok,Option.map_none,Option.map_some,Option.isSome_none,Bool.false_eq_true,if_false,if_true,Sem.run_pure,bn,aga,Go.sizeOf,typeInfo,run_program,eY,eL]
     rw [← DQ]
end
def aV:Option Nat→Nat→Nat→Value
 | some p,n,cap=>.slice (some ⟨p,0,none⟩) n cap
 | none,_,_=>.slice none 0 0
theorem Xp {L:List aQ}{i:Nat}{cp:eg} :∀ k∈aU (L.set i ⟨none,cp⟩),∃ j e,j≠i∧L[j]? =some e∧e.key=some k:=by
 intro k aw;obtain⟨e,he,vS⟩:=mi.1 aw;obtain⟨j,aH⟩:=List.mem_iff_getElem?.1 he;rw [List.getElem?_set] at aH;split at aH
 ·split at aH
  ·simp only [Option.some.injEq] at aH;subst aH;cases vS
  cases aH
 rename_i db;exact⟨j,e,fun h=>db h.symm,aH,vS⟩
theorem y9 {L:List aQ}{i:Nat}{cp:eg} :aU (L.set i ⟨none,cp⟩) |>.Sublist (aU L):=by
 induction L generalizing i with
 | nil=>simp [aU]
 | cons x r b6=>
   cases i with
   | zero=>
     cases aw:x.key with
     | none=>simp [aU,aw]
     | some p=>simp [aU,aw]
   | succ i=>
     cases aw:x.key with
     | none=>simpa [aU,aw] using b6
     | some p=>simpa [aU,aw] using b6
theorem bL.kill {c E L a W}(h:bL c E L a W)(i:Nat):bL c E (L.set i ⟨none,.dead⟩) a W:=by
 have lU:=y9 (L:=L) (i:=i) (cp:= .dead);have aw:∀ k∈aU (L.set i ⟨none,.dead⟩),k∈aU L:=fun k aw=>lU.subset aw;have hZ:Ext (aU L++c.b7) W (aU (L.set i ⟨none,.dead⟩)++c.b7) W:= .drop fun k hm=>by
  rcases List.mem_append.1 hm with hm | hm
  ·exact List.mem_append.2 (.inl (aw k hm))
  exact List.mem_append.2 (.inr hm)
 exact
 {defers:=h.defers
  size:=h.size
  env:=fun t τ an=>let⟨v,aa,ae⟩:=h.env t τ an; ⟨v,aa,τ.mono hZ ae⟩
  ej:=h.ej
  own:=fun e he=>by
   obtain⟨j,aH⟩:=List.mem_iff_getElem?.1 he;rw [List.getElem?_set] at aH;split at aH
   ·split at aH
    ·simp only [Option.some.injEq] at aH;subst aH;trivial
    cases aH
   have aa:=h.own e (List.mem_of_getElem? aH);unfold aQ.ok at *;split at aa
   ·obtain⟨o',bg,cA⟩:=aa;exact⟨o',bg,eg.mono _ hZ cA⟩
   exact aa
  nodup:=h.nodup.sublist lU
  lt:=fun k hm=>h.lt k (aw k hm)
  gN:=fun k hm=>h.gN k (aw k hm)
  fb:=fun k hm=>⟨(h.fb k hm).1,fun ae=>(h.fb k hm).2 (aw k ae)⟩ }
theorem bL.Cp {c E L a W}(h:bL c E L a W){i p:Nat}{cp:eg}(au:L[i]? =some ⟨some p,cp⟩):p ∉ aU (L.set i ⟨none,.dead⟩)++c.b7:=by
 intro hm;rcases List.mem_append.1 hm with hm | hm
 ·obtain⟨j,e,db,aH,vS⟩:=Xp p hm;exact db (KG h.nodup aH au vS rfl)
 exact(h.fb p hm).2 (mi.2 ⟨_,List.mem_of_getElem? au,rfl⟩)
theorem Ji {α:Type}[ak α]{A W}{cs:Array Value}{xs:List α}{cap:Nat}(h:cs.size=cap * ak.size α)(aR:xs.length≤cap)(aO:hr A W (cs.toList.take (xs.length * ak.size α)) xs):
 0+xs.length * ak.size α≤cs.size∧hr A W ((cs.toList.drop 0).take (xs.length * ak.size α)) xs:=by
 refine⟨?_,by simpa using aO⟩
 rw [h,Nat.zero_add];exact Nat.mul_le_mul_right _ aR
section
variable {c:dB} {E:List (Nat×I)} {L:List aQ} {ops:Array Oper} {Q:Exit→Act→World→Prop}
variable {d:Option Tmp} {ty:TypeId} {pos:String} {af:Array Edge} {g:Option (Nat×Bool)} {x y:Operand} {t t2:TypeId}
theorem bL.freeze {a:Act}{W:World}{α:Type}[ak α]{i s cap T:Nat}{key:Option Nat}{xs:List α}(h:bL c E L a W)(an:look E s=some (.eq (aV key xs.length cap)))(al:L[i]? =some ⟨key,.row T xs cap⟩):
 bL c ((s,.of xs)::E) (L.set i ⟨none,.dead⟩) a W:=by
 have aw:=h.kill i
 refine { aw with env:=fun t τ fy=>?_ }
 simp only [look] at fy
 by_cases e:Nat.beq s t=true
 ·rw [e] at fy
  simp only [cond_true,Option.some.injEq] at fy
  subst fy
  have:=eQ.1 e
  subst this
  obtain⟨v,aa,ae⟩:=h.env s _ an
  refine⟨v,aa,oc.2 ?_⟩
  have l4:v=aV key xs.length cap:=ae
  subst l4
  have bg:=h.own _ (List.mem_of_getElem? al)
  cases key with
  | none=>exact .inl ⟨rfl,bg.1⟩
  | some p=>
    obtain⟨o,fe,cs,rfl,eL,aR,xS,aO⟩:=bg
    obtain⟨aG,a0⟩:=Ji eL aR aO
    refine .inr ⟨p,0,cap,cs,T,(0,0),rfl,h.Cp al,fe,aR,by omega,aG,?_⟩
    have lU:=y9 (L:=L) (i:=i) (cp:= .dead)
    exact a0.mono (.drop fun k hm=>by
     rcases List.mem_append.1 hm with hm | hm
     ·exact List.mem_append.2 (.inl (lU.subset hm))
     exact List.mem_append.2 (.inr hm))
 simp only [Bool.not_eq_true] at e
 rw [e] at fy
 exact aw.env t τ fy
theorem ag.freeze {code:Code}{α:Type}[ak α]{key:Option Nat}{xs:List α}{cap T:Nat}(i s:Nat)(an:look E s=some (.eq (aV key xs.length cap)))(al:L[i]? =some ⟨key,.row T xs cap⟩)
 (k:ag c Q code ((s,.of xs)::E) (L.set i ⟨none,.dead⟩)):ag c Q code E L:=fun a W st=>k a W (st.freeze an al)
theorem bL.aa3 {a:Act}{W:World}{α:Type}[ak α](T:TypeId)(h:bL c E L a W):bL c E (⟨none,.row T ([]:List α) 0⟩::L) a W:=
 {h with
  own:=fun e he=>by
   rcases List.mem_cons.1 he with rfl | he
   ·exact⟨rfl,rfl⟩
   exact h.own e he }
theorem ah.own {l:List Oper}{α:Type}[ak α](T:TypeId)(k:ah c ops Q l E (⟨none,.row T ([]:List α) 0⟩::L)):ah c ops Q l E L:=fun a W st=>k a W (st.aa3 T)
theorem s8:ba c E L (.const (.slice none 0 0)) (.eq (aV none 0 0)):=fun _ _ _=>rfl
theorem se {key:Option Nat}{n cap:Nat}{e i T:Nat}{α:Type}[ak α]{xs:List α}(hu:c.P.underlying t=some (.slice e))(ar:ba c E L x (.eq (aV key n cap)))(aR:n=xs.length)(al:L[i]? =some ⟨key,.row T xs cap⟩):b9 c E L ⟨d,.call ⟨.builtin .len,#[x],#[t]⟩,ty,pos,af,g⟩ (.of (n:Int)):= .pure fun a W s=>by
 subst aR;have aa:a.eval x=_:=ar a W s;have bg:=s.own _ (List.mem_of_getElem? al);cases key with
 | none=>
   have:xs= []:=bg.1
   subst this
   exact⟨.int .i64 0,by simp [execOp,resolve,invoke,builtin,Builtin.len_,aa,aV,run_underlying hu,goInt],of_int.2 rfl⟩
 | some p=>exact⟨.int .i64 xs.length,by simp [execOp,resolve,invoke,builtin,Builtin.len_,aa,aV,run_underlying hu,goInt],of_int.2 rfl⟩
theorem hr.one {α:Type}[ak α]{A W}{cs:List Value}{xs:List α}(h:hr A W cs xs):∀ u∈cs,u.oneCell'=true:=by
 intro u hu;obtain⟨j,aH⟩:=List.mem_iff_getElem?.1 hu;have cf:=(List.getElem?_eq_some_iff.1 aH).1;have aa:=h.1;by_cases hs:ak.size α=0
 ·rw [hs,Nat.mul_zero] at aa;omega
 have hp:0<ak.size α:=Nat.pos_of_ne_zero hs;have au:j / ak.size α<_:=(Nat.div_lt_iff_lt_mul hp).2 (by rw [aa] at cf;exact cf);refine ak.one (h.2 _ au) u (List.mem_iff_getElem?.2 ⟨j % ak.size α,?_⟩);rw [List.getElem?_take,if_pos (Nat.mod_lt _ hp),List.getElem?_drop,Nat.mul_comm,Nat.div_add_mod];exact aH
theorem uR {α:Type}[ak α]{A W}{cs ds:List Value}{xs ys:List α}(h:hr A W cs xs)(de:hr A W ds ys):hr A W (cs++ds) (xs++ys):=by
 refine⟨by rw [List.length_append,h.1,de.1,List.length_append,Nat.add_mul],fun i au=>?_⟩;rw [List.length_append] at au;by_cases cf:i<xs.length
 ·have aa:=h.2 i cf;have hle:(i+1) * ak.size α≤xs.length * ak.size α:=Nat.mul_le_mul_right _ cf;rw [Nat.succ_mul] at hle;have mx:=h.1;rw [List.drop_append_of_le_length (by omega),List.take_append_of_le_length (by simp;omega)];rw [List.getElem_append_left cf];exact aa
 have aa:=de.2 (i - xs.length) (by omega);have e:i * ak.size α=cs.length+(i - xs.length) * ak.size α:=by
  rw [h.1,← Nat.add_mul];congr 1;omega
 rw [e,List.drop_append,List.drop_of_length_le (by omega),List.nil_append,show cs.length+(i - xs.length) * ak.size α - cs.length=(i - xs.length) * ak.size α by omega];rw [List.getElem_append_right (by omega)];exact aa
theorem pj.cells {α:Type}[ak α]{A W v}{ys:List α}(h:pj A W v ys):
 (v= .slice none 0 0∧ys= [])∨ ∃ (b off cap:Nat) (news:List Value),v= .slice (some ⟨b,off,none⟩) ys.length cap∧news.length=ys.length * ak.size α∧ (∀ (j:Nat) (u:Value),news[j]? =some u→W.cell? ((⟨b,off,none⟩:Addr).add j)=some u)∧
  (∀ u∈news,u.oneCell'=true)∧hr A W news ys:=by
 rcases h with h | ⟨b,off,cap,cur,T,hL,aa,ae,aG,a0,a7,bn,dn⟩
 ·exact .inl h
 refine .inr ⟨b,off,cap,_,aa,dn.1,fun j u hu=>?_,fun u hu=>?_,dn⟩
 ·rw [List.getElem?_take] at hu
  split at hu
  ·rw [ka,cell_of_row W b (off+j) cur T hL aG]
   rw [List.getElem?_drop] at hu
   simpa using hu
  cases hu
 exact dn.one u hu
theorem bL.grow {a:Act}{W:World}(h:bL c E L a W){i:Nat}{jC:aQ}(au:L[i]? =some jC){o:Obj}{cp:eg}(aj:cp.holds (aU L++c.b7) W o):
 bL c E (L.set i ⟨some W.heap.size,cp⟩) a (W.alloc o):=by
 have aa:=h.alloc aj
 refine aa.sub (fun e he=>?_) ?_
 ·obtain⟨j,aH⟩:=List.mem_iff_getElem?.1 he
  rw [List.getElem?_set] at aH
  split at aH
  ·split at aH
   ·simp only [Option.some.injEq] at aH;subst aH;simp
   cases aH
  exact List.mem_cons_of_mem _ (List.mem_of_getElem? aH)
 have qu:W.heap.size ∉ aU L:=fun hm=>Nat.lt_irrefl _ (h.lt _ hm)
 have key:∀ (L:List aQ) (i:Nat) (q:Nat),q ∉ aU L→ (aU L).Nodup→ (aU (L.set i ⟨some q,cp⟩)).Nodup∧ ∀ k∈aU (L.set i ⟨some q,cp⟩),k=q∨k∈aU L:=by
  intro L;induction L with
  | nil=>intro i q _ aR;exact⟨by simpa using aR,by simp [aU]⟩
  | cons x r b6=>
    intro i q hq aR
    cases ar:x.key with
    | none=>
      have kA:q ∉ aU r:=by simpa [aU,ar] using hq
      have uh:(aU r).Nodup:=by simpa [aU,ar] using aR
      cases i with
      | zero=>exact⟨by simp only [List.set_cons_zero,aU];exact List.nodup_cons.2 ⟨kA,uh⟩,fun k aw=>by
       simp only [List.set_cons_zero,aU,List.mem_cons] at aw;rcases aw with rfl | aw
       ·exact .inl rfl
       exact .inr (by simpa [aU,ar] using aw)⟩
      | succ i=>
        obtain⟨aa,ae⟩:=b6 i q kA uh
        exact⟨by simpa [aU,ar] using aa,fun k aw=>by have:=ae k (by simpa [aU,ar] using aw);simpa [aU,ar] using this⟩
    | some p=>
      simp only [aU,ar,List.mem_cons,not_or] at hq
      simp only [aU,ar] at aR
      obtain⟨hp,uh⟩:=List.nodup_cons.1 aR
      cases i with
      | zero=>exact⟨by simp only [List.set_cons_zero,aU];exact List.nodup_cons.2 ⟨hq.2,uh⟩,fun k aw=>by
       simp only [List.set_cons_zero,aU,List.mem_cons] at aw;rcases aw with rfl | aw
       ·exact .inl rfl
       exact .inr (by simp [aU,ar,aw])⟩
      | succ i=>
        obtain⟨aa,ae⟩:=b6 i q hq.2 uh
        refine⟨?_,fun k aw=>?_⟩
        ·simp only [List.set_cons_succ,aU,ar]
         refine List.nodup_cons.2 ⟨fun hm=>?_,aa⟩
         rcases ae p hm with e | Az
         ·exact hq.1 e.symm
         exact hp Az
        simp only [List.set_cons_succ,aU,ar,List.mem_cons] at aw
        rcases aw with rfl | aw
        ·exact .inr (by simp [aU,ar])
        rcases ae k aw with e | Az
        ·exact .inl e
        exact .inr (by simp [aU,ar,Az])
 exact(key L i _ qu h.nodup).1
theorem Ke {α:Type}[ak α]{A W}{cs ds:List Value}{xs:List α}{T cap:Nat}(h:hr A W cs xs)(dI:ds.length=(cap - xs.length) * ak.size α)(aR:xs.length≤cap)(hm:cap≤maxLen){arr:Array Value}(bb:arr.toList=cs++ds):
 (eg.row T xs cap).holds A W (.cells arr T (0,0)):=by
 refine⟨arr,rfl,?_,aR,hm,?_⟩
 ·have:arr.size=(cs++ds).length:=by rw [← bb];simp
  rw [this,List.length_append,h.1,dI,← Nat.add_mul];congr 1;omega
 rw [bb,← h.1,List.take_left];exact h
theorem ah.app {α:Type}[ak α]{rest:List Oper}{a9 i e bytes cap:Nat}{key:Option Nat}{xs ys r:List α}{z:α}(hu:c.P.underlying t=some (.slice e))(fi:bF c.P e α)(hz:cS c.P e z)
 (x7:(c.P.info? e).map (·.bytes)=some bytes) (hs:ba c E L x (.eq (aV key xs.length cap))) (al:L[i]? =some ⟨key,.row e xs cap⟩) (a5:ba c E L y (.of ys)) (h:g9 bytes xs ys=some r) (aR:Nat.blt a9 c.n=true)
 (k:∀ rh cap',ah c ops Q rest ((a9,.eq (aV rh r.length cap'))::E) (L.set i ⟨rh,.row e r cap'⟩)):
 ah c ops Q (⟨some a9,.call ⟨.builtin .append,#[x,y],#[t,t]⟩,ty,pos,af,none⟩::rest) E L:=fun a W s=>by
 obtain⟨nt,nu,rfl⟩:=Pf h
 obtain⟨gS,eP,eY,dI,sI⟩:=hz.zero
 have oo:gS.size=ak.size α:=by
  obtain⟨i2,aa,ae⟩:=fi.info;rw [eY] at aa;cases aa;exact ae
 have KI:gS.bytes=bytes:=by simpa [eY] using x7
 have x8:eP.cells.size=ak.size α:=by have:=ak.len (sI [] W).2;simpa using this
 subst KI
 have aa:a.eval x=_:=hs a W s
 have bg:=s.own _ (List.mem_of_getElem? al)
 have k4:a9<c.n:=by simpa using aR
 have wc:=(oc.1 (a5 a W s)).cells
 have rp:maxLen=9223372036854775807:=rfl
 have main:∃ rh cap' W',(Builtin.append_ #[t,t] ty #[a.eval x,a.eval y]).run c.P W= .ok (aV rh (xs++ys).length cap') W'∧bL c E (L.set i ⟨rh,.row e (xs++ys) cap'⟩) a W':=by
  cases key with
  | none=>
    obtain⟨vV,x9⟩:xs= []∧cap=0:=bg
    subst vV
    subst x9
    have z1:L.set i ⟨none,.row e ([]:List α) 0⟩=L:=by
     obtain⟨cf,he⟩:=List.getElem?_eq_some_iff.1 al;rw [← he];exact List.set_getElem_self cf
    rcases wc with⟨a6,rfl⟩ | ⟨b,off,cp,news,a6,nX,Hg,AA,gO⟩
    ·refine⟨none,0,W,?_,by simpa [z1] using s⟩
     simp [aa,a6,aV,Builtin.append_,run_underlying hu,Go.sizeOf,typeInfo,eY,Builtin.lenOf,Builtin.firstCells]
    by_cases hm:ys.length=0
    ·have:ys= []:=List.eq_nil_of_length_eq_zero hm
     subst this
     refine⟨none,0,W,?_,by simpa [z1] using s⟩
     simp [aa,a6,aV,Builtin.append_,run_underlying hu,Go.sizeOf,typeInfo,eY,Builtin.lenOf,Builtin.firstCells,loadCells,loadCellsFrom]
    simp only [List.length_nil,Nat.zero_add] at nt nu
    have aO:=run_append_nil (P:=c.P) W t ty e gS eP hu eY dI ⟨b,off,none⟩ ys.length cp news (by rw [oo];exact nX) Hg (by omega) (by omega) (by omega)
    refine⟨some W.heap.size,grownCap W ys.length 0 e,_,by rw [aa,a6];simpa [aV] using aO,?_⟩
    have rv:=grownCap_ge W ys.length 0 e
    have hle:=grownCap_le_maxLen W ys.length 0 e nu
    have:=(s.world (Fr.drew W)).grow al (o:= .cells (news.toArray++Builtin.zeroCells eP.cells (grownCap W ys.length 0 e - ys.length)) e) (cp:= .row e ([]++ys) (grownCap W ys.length 0 e))
     (Ke (T:=e) (gO.mono (Ext.ej (Fr.drew W))) (ds:=(Builtin.zeroCells eP.cells (grownCap W ys.length 0 e - ys.length)).toList) (by rw [Array.length_toList,size_zeroCells,x8]) rv hle (by simp))
    simpa using this
  | some p=>
    obtain⟨k3,fe,cs,rfl,eL,agb,xS,HW⟩:=bg
    have kW:a.eval x= .slice (some ⟨p,0,none⟩) xs.length cap:=aa
    rcases wc with⟨a6,rfl⟩ | ⟨b,off,cp,news,a6,nX,Hg,AA,gO⟩
    ·refine⟨some p,cap,W,?_,?_⟩
     ·simp [kW,a6,aV,Builtin.append_,run_underlying hu,Go.sizeOf,typeInfo,eY,Builtin.lenOf,Builtin.firstCells,storeCells,agb]
     have:L.set i ⟨some p,.row e (xs++[]) cap⟩=L:=by
      obtain⟨cf,he⟩:=List.getElem?_eq_some_iff.1 al;rw [List.append_nil,← he];exact List.set_getElem_self cf
     rw [this];exact s
    by_cases zY:xs.length+ys.length≤cap
    ·have Hz:xs.length * gS.size+news.length≤cs.size:=by rw [oo,nX,eL,← Nat.add_mul];exact Nat.mul_le_mul_right _ zY
     have aO:=run_append_room (P:=c.P) W t ty e gS hu eY p xs.length cap cs fe ⟨b,off,none⟩ ys.length cp news (by rw [oo];exact nX) Hg AA zY Hz
     refine⟨some p,cap,_,by rw [kW,a6];simpa [aV] using aO,?_⟩
     refine s.store al fe ⟨_,rfl,?_,by simpa using zY,xS,?_⟩
     ·simp only [List.size_toArray,List.length_append,List.length_take,List.length_drop,Array.length_toList];omega
     have an:(cs.toList.take (xs.length * gS.size)).length=xs.length * ak.size α:=by rw [oo];exact HW.1
     have Ah:=uR HW gO
     rw [oo]
     have hlen:(xs++ys).length * ak.size α=(cs.toList.take (xs.length * ak.size α)++news).length:=by rw [Ah.1]
     have UI:((cs.toList.take (xs.length * ak.size α)++news++cs.toList.drop (xs.length * ak.size α+news.length)).toArray).toList.take ((xs++ys).length * ak.size α)=cs.toList.take (xs.length * ak.size α)++news:=by
      rw [hlen];exact List.take_left
     rw [List.append_assoc] at UI
     rw [UI]
     exact Ah
    have holds:∀ (j:Nat) u,(cs.toList.take (xs.length * ak.size α))[j]? =some u→W.cell? ((⟨p,0,none⟩:Addr).add j)=some u:=by
     intro j u ny;rw [List.getElem?_take] at ny;split at ny
     ·rw [ka,Nat.zero_add,cell_of_row W p j cs e (0,0) fe];simpa using ny
     cases ny
    have aO:=run_append_grow (P:=c.P) W t ty e gS eP hu eY dI ⟨p,0,none⟩ xs.length cap _ (by rw [oo];exact HW.1) holds ⟨b,off,none⟩ ys.length cp news (by rw [oo];exact nX) Hg (by omega) (by omega) (growslice_fits (by omega) nt)
    have rv:=grownCap_ge W (xs.length+ys.length) cap e
    have hle:=grownCap_le_maxLen W (xs.length+ys.length) cap e nu
    refine⟨some W.heap.size,grownCap W (xs.length+ys.length) cap e,_,by rw [kW,a6];simpa [aV] using aO,?_⟩
    have Ah:=(uR HW gO).mono (Ext.ej (Fr.drew W))
    have:=(s.world (Fr.drew W)).grow al (o:= .cells ((cs.toList.take (xs.length * ak.size α)).toArray++news.toArray++Builtin.zeroCells eP.cells (grownCap W (xs.length+ys.length) cap e - (xs.length+ys.length))) e)
     (cp:= .row e (xs++ys) (grownCap W (xs.length+ys.length) cap e))
     (Ke (T:=e) Ah (ds:=(Builtin.zeroCells eP.cells (grownCap W (xs.length+ys.length) cap e - (xs.length+ys.length))).toList) (by rw [Array.length_toList,size_zeroCells,x8,List.length_append]) (by rw [List.length_append];exact rv) hle (by simp))
    simpa using this
 obtain⟨rh,cap',W',ja,eu⟩:=main
 refine ik rfl (R:=fun v h4=>v=aV rh (xs++ys).length cap'∧h4=W') (.lv ?_ ⟨rfl,rfl⟩) fun v h4 ⟨a6,hw⟩=>?_
 ·simp only [execOp,resolve,invoke,builtin,Sem.run_bind,Sem.run_pure,Result.andThen_ok]
  have aq:(#[x,y]:Array Operand).map a.eval= #[a.eval x,a.eval y]:=by simp
  rw [aq,ja]
  rfl
 subst a6
 subst hw
 exact k rh cap' _ _ (eu.put k4 rfl)
inductive oV (c:dB)(E:List (Nat×I))(L:List aQ){α:Type}[ak α]:List α→List (Nat×Operand)→List α→Prop
 | nil {b} :oV c E L b [] b
 | cons {b b':List α} {v:α} {i:Nat} {x:Operand} {r:List (Nat×Operand)} :i<b.length→ba c E L x (.of v)→oV c E L (b.set i v) r b'→oV c E L b ((i,x)::r) b'
theorem oV.run {α:Type}[ak α]{b b':List α}{bw:List (Nat×Operand)}(h:oV c E L b bw b'):∀ a W,bL c E L a W→ ∀ cs:Array Value,hr (aU L++c.b7) W cs.toList b→
 ∃ eA,Instr.fill (fun i=>some (i * ak.size α,ak.size α)) cs (bw.map fun(i,x)=>(i,a.eval x))=some eA∧hr (aU L++c.b7) W eA.toList b'∧b'.length=b.length:=by
 induction h with
 | nil=>intro a W s cs aO;exact⟨cs,rfl,aO,rfl⟩
 | @cons b b' v i x r au ae _ b6=>
   intro a W s cs aO
   have a6:=ae a W s
   have eL:(a.eval x).cells.size=ak.size α:=by have:=ak.len a6.2;simpa using this
   have an:=aO.1
   have hle:(i+1) * ak.size α≤b.length * ak.size α:=Nat.mul_le_mul_right _ au
   rw [Nat.succ_mul] at hle
   rw [List.map_cons,Gm rfl eL (by simp at an;omega)]
   obtain⟨eA,aG,a0,a7⟩:=b6 a W s (gR cs.toList (i * ak.size α) (a.eval x).cells.toList).toArray (by
    have:=JN aO au a6.2;simpa [gR,ak.len a6.2] using this)
   exact⟨eA,aG,a0,by rw [a7,List.length_set]⟩
theorem Ci {α:Type}[ak α]{A W}{z:α}{eP:Value}(h:(I.of z).holds A W eP)(n:Nat)(hs:ak.size α≠0):hr A W ((Array.range (n * ak.size α)).map (eP.cells[· % eP.cells.size]!)).toList (List.replicate n z):=by
 have an:eP.cells.size=ak.size α:=by have:=ak.len h.2;simpa using this
 have hp:0<ak.size α:=Nat.pos_of_ne_zero hs;refine⟨by simp,fun i au=>?_⟩;have hE:i<n:=by simpa using au
 have hle:(i+1) * ak.size α≤n * ak.size α:=Nat.mul_le_mul_right _ hE;rw [Nat.succ_mul] at hle;have:((((Array.range (n * ak.size α)).map (eP.cells[· % eP.cells.size]!)).toList.drop (i * ak.size α)).take (ak.size α))=eP.cells.toList:=by
  apply List.ext_getElem?;intro j;rw [List.getElem?_take];split
  ·rename_i aH;rw [List.getElem?_drop];have cf:i * ak.size α+j<n * ak.size α:=by omega
   have DR:(i * ak.size α+j) % ak.size α=j:=by rw [Nat.mul_comm,Nat.mul_add_mod];exact Nat.mod_eq_of_lt aH
   simp only [Array.getElem?_toList,Array.getElem?_map,Array.getElem?_range,cf,if_true,Option.map_some,an,DR];rw [getElem!_pos eP.cells j (by omega)];simp [an,aH]
  rename_i aH;symm;simp only [Array.getElem?_toList];exact Array.getElem?_eq_none (by omega)
 rw [this];simpa using h.2
theorem jw {α:Type}[ak α]{e n:Nat}{z:α}{r:List α}{bw:List (Nat×Operand)}(hu:c.P.underlying t=some (.slice e))(fi:bF c.P e α)(hz:cS c.P e z)(hs:Nat.beq (ak.size α) 0=false)(aR:Nat.ble (n * ak.size α) 16777216=true)
 (a2:oV c E L (List.replicate n z) bw r):b9 c E L ⟨d,.buildSlice t n bw.toArray,ty,pos,af,g⟩ (.of r):=fun a W s=>by
 obtain⟨gS,eP,eY,dI,sI⟩:=hz.zero
 have oo:gS.size=ak.size α:=by
  obtain⟨i2,aa,ae⟩:=fi.info;rw [eY] at aa;cases aa;exact ae
 have fI:ak.size α≠0:=fun h=>by rw [h] at hs;cases hs
 have ry:=Ci (sI (aU L++c.b7) W) n fI
 obtain⟨eA,aG,a0,a7⟩:=a2.run a W s _ ry
 have hlen:r.length=n:=by rw [a7];simp
 have hm:(bw.toArray.map fun(x:Nat×Operand)=>(x.1,a.eval x.2)).toList=bw.map fun(i,x)=>(i,a.eval x):=by simp
 have afi:=Nat.le_of_ble_eq_true aR
 refine .lv (v:= .slice (some ⟨W.heap.size,0,none⟩) n n) (W':=W.alloc (.cells eA e)) ?_ ⟨Fr.alloc W _,oc.2 ?_⟩
 ·simp only [execOp,Instr.buildSlice,Sem.run_bind,run_underlying hu,Result.andThen_ok,Go.sizeOf,typeInfo,run_program,eY,Sem.run_pure,oo]
  rw [if_neg (by omega)]
  try simp only [Sem.run_pure,Result.andThen_ok,Sem.run_bind]
  by_cases bO:n * ak.size α=0
  ·have sH:n=0:=by
    rcases Nat.mul_eq_zero.1 bO with h | h
    ·exact h
    exact absurd h fI
   subst sH
   simp only [Nat.zero_mul,if_true,Sem.run_pure,Result.andThen_ok]
   try simp only [Nat.zero_mul] at aG
   have jC:((Array.range 0).map (fun x=>(#[]:Array Value)[x % (#[]:Array Value).size]!))=((Array.range 0).map (eP.cells[· % eP.cells.size]!)):=by simp
   simp only [pure_bind]
   rw [jC,hm,aG]
   simp [newRow]
  simp only [bO,if_false,Sem.run_bind,zeroValue,typeInfo,run_program,Result.andThen_ok,eY,dI,Sem.run_pure]
  rw [hm,aG]
  simp [newRow]
 have hZ:Ext (aU L++c.b7) W (aU L++c.b7) (W.alloc (.cells eA e)):=Ext.ej (Fr.alloc W _)
 refine .inr ⟨W.heap.size,0,n,eA,e,(0,0),by rw [hlen],fun vH=>Nat.lt_irrefl _ (s.GR _ vH),KF W _,by omega,?_,?_,?_⟩
 ·have:r.length * 1≤n * ak.size α:=by rw [hlen];exact Nat.mul_le_mul_left _ (by omega)
  have:maxLen=9223372036854775807:=rfl
  omega
 ·have:=a0.1;simp at this;omega
 have bn:=a0.1
 rw [List.drop_zero,← bn,List.take_length]
 exact a0.mono hZ
end
theorem GC {cs:List Value}{o s:Nat}{u:Value}(h:u∈cs.drop o):u∈ (cs.drop o).take s∨u∈cs.drop (o+s):=by
 rw [← List.take_append_drop s (cs.drop o)] at h;rcases List.mem_append.1 h with h | h
 ·exact .inl h
 rw [List.drop_drop] at h;exact .inr h
theorem Qt {cs:List Value}{n o:Nat}{u:Value}{p:Prop}(an:cs.length=n)(bg:o=n)(h:u∈cs.drop o):p:=by
 rw [List.drop_of_length_le (by omega)] at h;cases h
theorem aa4 {cs ds:List Value}{o s n:Nat}(an:cs.length=n)(hd:ds.length=s)(h:o+s≤n):(cs.take o++ds++cs.drop (o+s)).length=n:=by
 simp only [List.length_append,List.length_take,List.length_drop];omega
theorem Qu {cs ds:List Value}{o s n:Nat}(an:cs.length=n)(hd:ds.length=s)(h:o+s≤n):((cs.take o++ds++cs.drop (o+s)).drop o).take s=ds:=by
 have aa:(cs.take o).length=o:=by simp;omega
 rw [List.append_assoc,List.drop_append,aa,List.drop_of_length_le (by omega),List.nil_append,Nat.sub_self,List.drop_zero,List.take_append_of_le_length (by omega),List.take_of_length_le (by omega)]
theorem JO {cs ds:List Value}{o s n cR s2:Nat}(an:cs.length=n)(hd:ds.length=s)(h:o+s≤n)(db:cR+s2≤o∨o+s≤cR):((cs.take o++ds++cs.drop (o+s)).drop cR).take s2=(cs.drop cR).take s2:=by
 apply List.ext_getElem?;intro i;simp only [List.getElem?_take,List.getElem?_drop];split
 ·rename_i au;simp only [List.getElem?_append,List.length_append,List.length_take,List.getElem?_take,List.getElem?_drop];have aa:min o cs.length=o:=by omega
  rw [aa,hd];rcases db with ae | ae
  ·rw [if_pos (by omega),if_pos (by omega),if_pos (by omega)]
  rw [if_neg (by omega)];congr 1;omega
 rfl
structure vW (P:Type) where
 size:Nat
 rep:List Nat→World→List Value→Nat→P→Prop
 one:∀ {A W cs o x n},rep A W cs o x→cs.length=n→o+size=n→ ∀ u∈cs.drop o,u.oneCell'=true
 mono:∀ {A W dy W' cs o x},Ext A W dy W'→rep A W cs o x→rep dy W' cs o x
 ra:∀ {A W cs o x n ds p s},rep A W cs o x→cs.length=n→ds.length=s→p+s≤n→p+s≤o→rep A W (cs.take p++ds++cs.drop (p+s)) o x
@[reducible] def iE (B:Type) [ak B]:vW B where
  size:=ak.size B
  rep A W cs o x:=ak.rep A W ((cs.drop o).take (ak.size B)) x
  one h an bg u hu:=by
   rcases GC (s:=ak.size B) hu with aa | bO
   ·exact ak.one h u aa
   exact Qt an bg bO
  mono e h:=ak.mono e h
  ra h an hd aR hp:=by rw [JO an hd aR (.inr hp)];exact h
@[reducible] def dR (B:Type) [ak B] {P:Type} (S:vW P):vW (B×P) where
  size:=ak.size B+S.size
  rep A W cs o x:=ak.rep A W ((cs.drop o).take (ak.size B)) x.1∧S.rep A W cs (o+ak.size B) x.2
  one h an bg u hu:=by
   rcases GC (s:=ak.size B) hu with aa | bO
   ·exact ak.one h.1 u aa
   exact S.one h.2 an (by omega) u bO
  mono e h:=⟨ak.mono e h.1,S.mono e h.2⟩
  ra h an hd aR hp:=⟨by rw [JO an hd aR (.inr hp)];exact h.1,S.ra h.2 an hd aR (by omega)⟩
@[reducible] def ak.str {T P:Type} (S:vW P) (to:T→P) (N:Nat) (k4:S.size=N:=by rfl):ak T where
  size:=N
  agg:=true
  rep A W cs x:=cs.length=N∧S.rep A W cs 0 (to x)
  len h:=h.1
  one h:=fun u hu=>S.one h.2 h.1 (by omega) u (by simpa using hu)
  flat h:=by cases h
  mono e h:=⟨h.1,S.mono e h.2⟩
structure En {P:Type}(S:vW P)(G:Type)[ak G] where
 off:Nat
 get:P→G
 set:P→G→P
 gZ:off+ak.size G≤S.size
 jh:∀ {A W cs o b},S.rep A W cs o b→ak.rep A W ((cs.drop (o+off)).take (ak.size G)) (get b)
 mf:∀ {A W cs n o b ds g},cs.length=n→o+S.size≤n→S.rep A W cs o b→ak.rep A W ds g→S.rep A W (cs.take (o+off)++ds++cs.drop (o+off+ak.size G)) o (set b g)
def jc {B:Type}[ak B]:En (iE B) B where
 off:=0
 get b:=b
 set _ g:=g
 gZ:=by show 0+ak.size B≤ak.size B;omega
 jh h:=h
 mf an bg _ bD:=by
  have h:=Qu an (ak.len bD) bg;show ak.rep _ _ ((List.drop _ _).take _) _;rw [Nat.add_zero,h];exact bD
def ea {B:Type}[ak B]{P:Type}{S:vW P} :En (dR B S) B where
 off:=0
 get b:=b.1
 set b g:=(g,b.2)
 gZ:=by show 0+ak.size B≤ak.size B+S.size;omega
 jh h:=h.1
 mf {A W cs n o b ds g} an bg h bD:=by
  have bg:o+(ak.size B+S.size)≤n:=bg;refine⟨?_,S.ra h.2 an (ak.len bD) (by omega) (by omega)⟩;rw [Nat.add_zero,Qu an (ak.len bD) (by omega)];exact bD
def bJ {B:Type}[ak B]{P:Type}{S:vW P}{G:Type}[ak G](l:En S G):En (dR B S) G where
 off:=ak.size B+l.off
 get b:=l.get b.2
 set b g:=(b.1,l.set b.2 g)
 gZ:=by have:=l.gZ;show ak.size B+l.off+ak.size G≤ak.size B+S.size;omega
 jh h:=by rw [← Nat.add_assoc];exact l.jh h.2
 mf {A W cs n o b ds g} an bg h bD:=by
  have bg:o+(ak.size B+S.size)≤n:=bg;have au:=l.gZ;have ae:=l.mf an (by omega) h.2 bD;rw [Nat.add_assoc o] at ae;exact⟨by rw [JO an (ak.len bD) (by omega) (.inl (by omega))];exact h.1,ae⟩
def aL.str {T P G:Type}[ak G]{S:vW P}{to:T→P}{N:Nat}(l:En S G)(off:Nat)(get:T→G)(set:T→G→T)(k4:S.size=N:=by rfl)(bg:l.off=off:=by rfl)(aa:∀ b,l.get (to b)=get b:=by intro b;rfl)(ae:∀ b g,l.set (to b) g=to (set b g):=by intro b g;rfl): @aL T G (ak.str S to N k4) _:=
 @aL.mk T G (ak.str S to N k4) _ off get set (by have:=l.gZ;show off+ak.size G≤N;omega)
  (fun {A W cs b} h=>by have:=l.jh h.2;rw [Nat.zero_add,bg,aa] at this;exact this)
  (fun {A W cs b ds g} h bD=>by
   have aG:=l.mf h.1 (by omega) h.2 bD;rw [Nat.zero_add,bg,ae] at aG;have a0:=l.gZ;exact⟨aa4 h.1 (ak.len bD) (by omega),aG⟩)
class bh (α:Type) [ak α] [Inhabited α] where
 cells:List Value
 ok:∀ A W,ak.rep A W cells (default:α)
instance:bh Bool:=⟨[.bool false],fun _ _=>rfl⟩
instance:bh Int:=⟨[.int .i64 0],fun _ _=>rfl⟩
instance:bh (BitVec 64):=⟨[.int .u64 0],fun _ _=>rfl⟩
instance:bh (BitVec 32):=⟨[.int .u32 0],fun _ _=>rfl⟩
instance:bh (BitVec 16):=⟨[.int .u16 0],fun _ _=>rfl⟩
instance:bh (BitVec 8):=⟨[.int .u8 0],fun _ _=>rfl⟩
instance:bh ByteArray:=⟨[.string ByteArray.empty],fun _ _=>rfl⟩
instance {α:Type} [ak α]:bh (List α):=⟨[.slice none 0 0],fun _ _=>⟨_,rfl,.inl ⟨rfl,rfl⟩⟩⟩
theorem PF {α:Type}[ak α]{A W}{lL:List Value}{z:α}(h:ak.rep A W lL z):∀ n,hr A W (List.replicate n lL).flatten (List.replicate n z)
 | 0=>⟨by simp,fun i au=>by simp at au⟩
 | n+1=>by
   have aa:=PF h n;have ae:hr A W lL [z]:=⟨by simp [ak.len h],fun i au=>by
    have:i=0:=by simpa using au
    subst this;rw [Nat.zero_mul,List.drop_zero,← ak.len h,List.take_length];exact h⟩
   have:=uR ae aa;simpa [List.replicate_succ] using this
instance {α:Type} [ak α] [Inhabited α] [bh α] {n:Nat} :bh (Vector α n):=⟨(List.replicate n (bh.cells α)).flatten,fun A W=>by
 have:=PF (bh.ok (α:=α) A W) n;show hr A W _ (Vector.replicate n default).toList;simpa using this⟩
def LX (α:Type)[ak α][Inhabited α][bh α]:Value:=if ak.agg α=true then .agg (bh.cells α).toArray else(bh.cells α).headD undef
theorem cS.of {P:Program}{t:TypeId}{α:Type}[ak α][Inhabited α][bh α](h:(P.info? t).bind (·.zero)=some (LX α)):cS P t (default:α) where
 zero:=by
  cases au:P.info? t with
  | none=>simp [au] at h
  | some i=>
    refine⟨i,LX α,rfl,by simpa [au] using h,fun A W=>?_⟩
    have ok:=bh.ok (α:=α) A W
    unfold LX
    cases bb:ak.agg α with
    | true=>simp only [if_true];exact⟨by simp [shaped,bb],by simpa [Value.cells] using ok⟩
    | false=>
      have aa:=ak.len ok
      rw [ak.flat bb] at aa
      obtain⟨v,a6⟩:=List.length_eq_one_iff.1 aa
      have aG:v.oneCell'=true:=ak.one ok v (by rw [a6];simp)
      simp only [Bool.false_eq_true,if_false,a6,List.headD_cons]
      exact⟨by simp [shaped,bb,aG],by rw [px aG];rw [a6] at ok;exact ok⟩
theorem bF.of {P:Program}{t:TypeId}{α:Type}[ak α]{d:TypeDesc}(bb:(match d with | .struct _ | .array _ _=>true | _=>false)=ak.agg α)(hu:P.underlying t=some d)(hs:(P.info? t).map (·.size)=some (ak.size α)):bF P t α:=⟨hs,d,hu,bb⟩
theorem cw.of {P:Program}{s f o:Nat}{fs:Array Field}{fd:Field}{γ:Type}[ak γ](hu:P.underlying s=some (.struct fs))(a2:fs[f]? =some fd)(bg:fd.offset=o)(eN:bF P fd.type γ)(hs:Nat.beq (ak.size γ) 0=false):cw P s f o:=by
 obtain⟨i,aa,ae⟩:=eN.info;exact⟨fs,fd,i,hu,a2,bg,aa,fun h=>by rw [← ae,h] at hs;cases hs⟩
theorem qO.of {P:Program}{t n e s:Nat}{γ:Type}[ak γ](hu:P.underlying t=some (.array n e))(eN:bF P e γ)(hs:ak.size γ=s):qO P t n s:=by
 obtain⟨i,aa,ae⟩:=eN.info;exact⟨e,i,hu,aa,by rw [ae,hs]⟩
theorem bind_some {α β:Type}{m:Option α}{f:α→Option β}{r:β}(h:m.bind f=some r):∃ y,m=some y∧f y=some r:=Option.bind_eq_some_iff.1 h
theorem gV {α:Type}{b:Bool}{p q:Option α}{r:α}(hb:b=true)(h:cond b p q=some r):p=some r:=by rw [hb] at h;exact h
theorem gW {α:Type}{b:Bool}{p q:Option α}{r:α}(hb:b=false)(h:cond b p q=some r):q=some r:=by rw [hb] at h;exact h
theorem dC {α:Type}{a b:α}(h:some a=some b):a=b:=Option.some.inj h
def cu {α:Type}[Inhabited α](b want:Bool)(m:Option α):Option α:=if b=want then m else some default
theorem fj {α:Type}[Inhabited α]{b want:Bool}{m:Option α}{y:α}(h:cu b want m=some y)(hb:b=want):m=some y:=by unfold cu at h;rw [if_pos hb] at h;exact h
def ei:Nat:=2 ^ 80
theorem bL.pD {c E L a W}(h:bL c E L a W)(n:Nat):bL c E (L.drop n) a W:=
 h.sub (fun e he=>List.mem_of_mem_drop he) (by
   have:(aU (L.drop n)).Sublist (aU L):=by
    induction L generalizing n with
    | nil=>simp
    | cons x r b6=>
      cases n with
      | zero=>simp
      | succ n=>
        have aO:∀ n,(aU (r.drop n)).Sublist (aU r):=by
         intro n;have key:∀ (r:List aQ) n,(aU (r.drop n)).Sublist (aU r):=by
          intro r;induction r with
          | nil=>intro n;simp
          | cons y r TZ=>
            intro n
            cases n with
            | zero=>simp
            | succ n=>
              simp only [List.drop_succ_cons]
              cases aw:y.key with
              | none=>simpa [aU,aw] using TZ n
              | some p=>simp only [aU,aw];exact(TZ n).cons _
         exact key r n
        simp only [List.drop_succ_cons]
        cases aw:x.key with
        | none=>simpa [aU,aw] using aO n
        | some p=>simp only [aU,aw];exact(aO n).cons _
   exact h.nodup.sublist this)
section
variable {c:dB} {E:List (Nat×I)} {L:List aQ} {ops:Array Oper} {Q:Exit→Act→World→Prop}
theorem ag.cu {γ:Type}{x:Operand}{b:Bool}{y z:Code}(E':γ→List (Nat×I))(L':γ→List aQ)(an:ba c E L x (.of b))(wh:∀ g,ad c Q .normal (E' g) (L' g))
 (bM:(∀ g,ad c Q .normal (E' g) (L' g))→b=true→ag c Q y E L) (a2:(∀ g,ad c Q .normal (E' g) (L' g))→b=false→ag c Q z E L):ag c Q (.cond x y z) E L:=
 ag.cond an (bM wh) (a2 wh)
theorem ad.meet {x:Exit}{E':List (Nat×I)}{L':List aQ}(n:Nat)(al:L.drop n=L')(h:g4 E E')(k:ad c Q x E' L'):ad c Q x E L:=fun a W s=>k a W (by rw [← al];exact(s.pD n).less h.look)
def AB {σ ε γ δ:Type}(c:dB)(E:σ→γ→List (Nat×I))(L:σ→γ→List aQ)(xs:ε→Exit)(hc:ε→δ→List (Nat×I))(Lx:ε→δ→List aQ):σ ⊕ ε→Exit→Act→World→Prop
 | .inl s,x,a,W=>x= .normal∧ ∃ g,bL c (E s g) (L s g) a W
 | .inr e,x,a,W=>x≠ .normal∧x=xs e∧ ∃ g,bL c (hc e g) (Lx e g) a W
theorem ad.aa5 {σ ε γ δ:Type}{E':σ→γ→List (Nat×I)}{L':σ→γ→List aQ}{xs:ε→Exit}{hc:ε→δ→List (Nat×I)}{Lx:ε→δ→List aQ}{s:σ}(g:γ)(n:Nat)
 (al:L.drop n=L' s g) (h:g4 E (E' s g)):ad c (AB c E' L' xs hc Lx (.inl s)) .normal E L:=fun a W st=>⟨rfl,g,by rw [← al];exact(st.pD n).less h.look⟩
theorem ad.aa6 {σ ε γ δ:Type}{E':σ→γ→List (Nat×I)}{L':σ→γ→List aQ}{xs:ε→Exit}{hc:ε→δ→List (Nat×I)}{Lx:ε→δ→List aQ}{e:ε}{x:Exit}(g:δ)(n:Nat)
 (ar:x=xs e) (aR:x≠ .normal) (al:L.drop n=Lx e g) (h:g4 E (hc e g)):ad c (AB c E' L' xs hc Lx (.inr e)) x E L:=fun a W st=>⟨aR,ar,g,by rw [← al];exact(st.pD n).less h.look⟩
theorem ag.xv {σ ε γ δ:Type}{body:Code}{N:Nat}{b:σ→Option (σ ⊕ ε)}{cE:σ}{e:ε}(an:et N b cE=some e)
 (E':σ→γ→List (Nat×I)) (L':σ→γ→List aQ) (xs:ε→Exit) (hc:ε→δ→List (Nat×I)) (Lx:ε→δ→List aQ) (g0:γ) (al:L=L' cE g0) (aA:g4 E (E' cE g0))
 (xA:∀ s r,b s=some r→ ∀ g,ag c (AB c E' L' xs hc Lx r) body (E' s g) (L' s g))
 (q2:∀ g,ad c Q (xs e) (hc e g) (Lx e g)):ag c Q (.loop body) E L:=fun a W st=>by
 subst al
 exact Yr b (fun s a W=> ∃ g,bL c (E' s g) (L' s g) a W) (fun e x a W=>x=xs e∧ ∃ g,bL c (hc e g) (Lx e g) a W)
  (fun s r hs a W ⟨g,lK⟩=>wpIn_mono (xA s r hs g a W lK) (fun x a W h=>by
   cases r with
   | inl cr=>exact h
   | inr e'=>exact⟨h.1,h.2⟩)) Q e (fun x a W ⟨ar,g,hs⟩=>by subst ar;exact q2 g a W hs) an ⟨g0,st.less aA.look⟩
end
theorem b9.as {c E L o}{α:Type}[ak α]{a b:α}(h:b9 c E L o (.of a))(e:a=b):b9 c E L o (.of b):=by subst e;exact h
def I.xQ {α β:Type}[ak α][ak β](P:Program)(F:α→Option β):I where
 holds A W v:= ∃ f fst cap,v= .func (.func f) fst cap∧bA P f∧ ∀ dy W',Ext A W dy W'→ (∀ k∈dy,k<W'.heap.size)→ ∀ x r pY,F x=some r→ (I.of x).holds dy W' pY→
  Calls P f (fst++ #[pY]++cap) W' fun e Eo=> ∃ v,e= .returned v∧Fr [] W' Eo∧ (I.of r).holds dy Eo v
 mono e h:=let⟨f,fst,cap,aa,ae,aG⟩:=h; ⟨f,fst,cap,aa,ae,fun dy W' e'=>aG dy W' (e.trans e')⟩
def I.sD {α β γ:Type}[ak α][ak β][ak γ](P:Program)(F:α→β→Option γ):I where
 holds A W v:= ∃ f fst cap,v= .func (.func f) fst cap∧bA P f∧ ∀ dy W',Ext A W dy W'→ (∀ k∈dy,k<W'.heap.size)→ ∀ x y r pY AN,F x y=some r→ (I.of x).holds dy W' pY→ (I.of y).holds dy W' AN→
  Calls P f (fst++ #[pY,AN]++cap) W' fun e Eo=> ∃ v,e= .returned v∧Fr [] W' Eo∧ (I.of r).holds dy Eo v
 mono e h:=let⟨f,fst,cap,aa,ae,aG⟩:=h; ⟨f,fst,cap,aa,ae,fun dy W' e'=>aG dy W' (e.trans e')⟩
section
variable {c:dB} {E:List (Nat×I)} {L:List aQ} {d:Option Tmp} {ty:TypeId} {pos:String} {af:Array Edge} {g:Option (Nat×Bool)}
theorem Y8 {α β:Type}[ak α][ak β]{F:α→Option β}{f:FuncId}(e5:bA c.P f)(h:∀ x r,F x=some r→bK c.P f [.of x] (.of r)):ba c E L (.func f) (.xQ c.P F):=fun a W s=>
 ⟨f,#[],#[],rfl,e5,fun dy W' _ hf x r pY mC ar=>by simpa using h x r mC dy W' [pY] hf (.cons ar .nil)⟩
theorem JK {α β γ:Type}[ak α][ak β][ak γ]{F:α→β→Option γ}{f:FuncId}(e5:bA c.P f)(h:∀ x y r,F x y=some r→bK c.P f [.of x,.of y] (.of r)):ba c E L (.func f) (.sD c.P F):=fun a W s=>
 ⟨f,#[],#[],rfl,e5,fun dy W' _ hf x y r pY AN mC ar a5=>by simpa using h x y r mC dy W' [pY,AN] hf (.cons ar (.cons a5 .nil))⟩
theorem Gk {α β:Type}[ak α][ak β]{F:α→Option β}{pk x:Operand}{ats:Array TypeId}{ES:α}{r:β}(a2:ba c E L pk (.xQ c.P F))(ar:ba c E L x (.of ES))(h:F ES=some r):
 b9 c E L ⟨d,.call ⟨.value pk,#[x],ats⟩,ty,pos,af,g⟩ (.of r):=fun a W s=>by
 obtain⟨f,fst,cap,aa,e5,ae⟩:=a2 a W s
 refine .w4 (f:=f) (args:=fst++ #[a.eval x]++cap) (W':=W) ?_ (ae _ W (Ext.refl _ _) s.GR _ _ _ h (ar a W s))
 simp [execOp,resolve,Deferred.ofValue,aa,invoke,e5.run]
theorem Cn {α β γ:Type}[ak α][ak β][ak γ]{F:α→β→Option γ}{pk x y:Operand}{ats:Array TypeId}{ES:α}{UJ:β}{r:γ}(a2:ba c E L pk (.sD c.P F))(ar:ba c E L x (.of ES))(a5:ba c E L y (.of UJ))(h:F ES UJ=some r):
 b9 c E L ⟨d,.call ⟨.value pk,#[x,y],ats⟩,ty,pos,af,g⟩ (.of r):=fun a W s=>by
 obtain⟨f,fst,cap,aa,e5,ae⟩:=a2 a W s
 refine .w4 (f:=f) (args:=fst++ #[a.eval x,a.eval y]++cap) (W':=W) ?_ (ae _ W (Ext.refl _ _) s.GR _ _ _ _ _ h (ar a W s) (a5 a W s))
 simp [execOp,resolve,Deferred.ofValue,aa,invoke,e5.run]
end
end Gv
namespace Gv
open Go Go.ChangeShapes Go.WideShapes Go.RowKit
structure Arg (P:Program)(t:TypeId)(α:Type)[ak α]:Prop where
 cells:P.cellsOf t=ak.size α
 read:∀ {H:Type} {enc:TypeId×Value→H} {W:World} {n:Nat} {cs:List Value} {x:DataW H×List MemPlace},DataW.trod enc P W 0 (fun _=>true) true n t cs=some x→ ∃ a:α,ak.rep [] W cs a
 form:∀ {W:World} {b:Nat} {v:Value},Value.okWide P W .any b t v→shaped (ak.agg α) v
variable {P:Program} {t e:TypeId}
theorem Yu (hu:P.underlying t=some .bool){H:Type}{enc:TypeId×Value→H}{W:World}{n:Nat}{cs:List Value}{x:DataW H×List MemPlace}(h:DataW.trod enc P W 0 (fun _=>true) true n t cs=some x):
 ∃ b:Bool,cs= [.bool b]:=by
 cases n with
 | zero=>simp [DataW.trod] at h
 | succ n=>
   unfold DataW.trod at h
   rw [hu] at h
   split at h <;> first | exact⟨_,rfl⟩ | (simp at h)
   all_goals simp_all
theorem Arg.bool (hu:P.underlying t=some .bool)(aj:P.cellsOf t=1):Arg P t Bool where
 cells:=aj
 read {H enc W n cs x} h:=by
  obtain⟨b,rfl⟩:=Yu hu h;exact⟨b,rfl⟩
 form {W b v} h:=by
  unfold Value.okWide Cell.okWide at h;simp only [hu] at h;unfold Cell.ok at h;rw [hu] at h;cases v <;> first | rfl | simp at h
theorem Cq {k:IntKind}(hu:P.underlying t=some (.int k)){H:Type}{enc:TypeId×Value→H}{W:World}{n:Nat}{cs:List Value}{x:DataW H×List MemPlace}(h:DataW.trod enc P W 0 (fun _=>true) true n t cs=some x):
 ∃ z:Int,cs= [.int k z]∧k.min≤z∧z≤k.max:=by
 cases n with
 | zero=>simp [DataW.trod] at h
 | succ n=>
   unfold DataW.trod at h
   rw [hu] at h
   split at h <;> simp_all [Lit.wf]
theorem Cr {k:IntKind}(hu:P.underlying t=some (.int k)){W:World}{b:Nat}{v:Value}(h:Value.okWide P W .any b t v):v.oneCell'=true:=by
 unfold Value.okWide Cell.okWide at h;simp only [hu] at h;unfold Cell.ok at h;rw [hu] at h;cases v <;> first | rfl | simp at h
theorem Arg.int (hu:P.underlying t=some (.int .i64))(aj:P.cellsOf t=1):Arg P t Int where
 cells:=aj
 read h:=by obtain⟨z,rfl,_⟩:=Cq hu h;exact⟨z,rfl⟩
 form h:=Cr hu h
theorem Arg.u64 (hu:P.underlying t=some (.int .u64))(aj:P.cellsOf t=1):Arg P t (BitVec 64) where
 cells:=aj
 read h:=by
  obtain⟨z,rfl,aa,ae⟩:=Cq hu h;simp [IntKind.min,IntKind.max,IntKind.signed,IntKind.bits] at aa ae;exact⟨BitVec.ofInt 64 z,by show [_]= [_];simp;omega⟩
 form h:=Cr hu h
theorem Arg.u32 (hu:P.underlying t=some (.int .u32))(aj:P.cellsOf t=1):Arg P t (BitVec 32) where
 cells:=aj
 read h:=by
  obtain⟨z,rfl,aa,ae⟩:=Cq hu h;simp [IntKind.min,IntKind.max,IntKind.signed,IntKind.bits] at aa ae;exact⟨BitVec.ofInt 32 z,by show [_]= [_];simp;omega⟩
 form h:=Cr hu h
theorem Arg.u16 (hu:P.underlying t=some (.int .u16))(aj:P.cellsOf t=1):Arg P t (BitVec 16) where
 cells:=aj
 read h:=by
  obtain⟨z,rfl,aa,ae⟩:=Cq hu h;simp [IntKind.min,IntKind.max,IntKind.signed,IntKind.bits] at aa ae;exact⟨BitVec.ofInt 16 z,by show [_]= [_];simp;omega⟩
 form h:=Cr hu h
theorem Arg.u8 (hu:P.underlying t=some (.int .u8))(aj:P.cellsOf t=1):Arg P t (BitVec 8) where
 cells:=aj
 read h:=by
  obtain⟨z,rfl,aa,ae⟩:=Cq hu h;simp [IntKind.min,IntKind.max,IntKind.signed,IntKind.bits] at aa ae;exact⟨BitVec.ofInt 8 z,by show [_]= [_];simp;omega⟩
 form h:=Cr hu h
theorem Zh (hs:(∃ fs,P.underlying t=some (.struct fs))∨ (∃ n e,P.underlying t=some (.array n e))){W:World}{b:Nat}{v:Value}(h:Value.okWide P W .any b t v):shaped true v:=by
 unfold Value.okWide at h;rcases hs with⟨fs,hu⟩ | ⟨n,e,hu⟩ <;> rw [hu] at h <;> exact⟨h.choose,h.choose_spec.1⟩
theorem Arg.arr {α:Type}[ak α][Inhabited α]{n:Nat}(hu:P.underlying t=some (.array n e))(he:Arg P e α)(aj:P.cellsOf t=n * ak.size α):Arg P t (Vector α n) where
 cells:=aj
 read {H enc W m cs x} h:=by
  obtain⟨xs,q,_,_,an,hlen,a2⟩:=DataW.trod_array hu h;have aO:∀ i,i<n→ ∃ a:α,ak.rep [] W ((cs.drop (i * ak.size α)).take (ak.size α)) a:=by
   intro i au;have aa:=a2 i au;rw [List.getElem?_eq_getElem (by omega)] at aa;rw [← he.cells];exact he.read aa
  refine⟨Vector.ofFn fun i=>(aO i.1 i.2).choose,by rw [an,aj];simp,fun i au=>?_⟩;have hE:i<n:=by simpa using au
  have:=(aO i hE).choose_spec;simpa using this
 form h:=Zh (.inr ⟨_,_,hu⟩) h
theorem Pg {H:Type}{enc:TypeId×Value→H}{W W':World}(an:laidOutB P=true){sp:Nat→Bool} :∀ {ig:List TypeId} {vs:List Value} {ds:List (DataW H)} {bw:List MemPlace},
 (∀ t∈ig,P.readableRec t=true∧t<P.types.size)→DataW.TrodAll enc P W 0 (fun _=>true) true ig vs ds bw→ (∀ p∈bw,W.sameAt W' p)→ (∀ p∈bw,sp p.block=true)→DataW.TrodAll enc P W' 0 sp true ig vs ds bw
 | [],_,_,_,_,h,_,_=>by
   obtain⟨rfl,rfl,rfl⟩:=trodAll_nil h;exact rfl
 | _::_,_,_,_,bM,h,hs,hp=>by
   obtain⟨v,Mu,d,Mv,p,q,rfl,rfl,rfl,aa,ae⟩:=trodAll_cons h;have bO:=bM _ (List.mem_cons_self ..);exact⟨p,q,WideElems.Trod_stays an bO.1 bO.2 aa (fun x ar=>hs x (by simp [ar])) (fun x ar=>hp x (by simp [ar])),
    Pg an (fun t rr=>bM t (List.mem_cons_of_mem _ rr)) ae (fun x ar=>hs x (by simp [ar])) (fun x ar=>hp x (by simp [ar])),rfl⟩
theorem Fr.below {W W':World}(h:Fr [] W W'):Below W.heap.size W W':=⟨h.os,h.tape,h.output,h.size,fun k aw=>h.block k aw (by simp)⟩
theorem Zi {H:Type}{enc:TypeId×Value→H}{f:Func}{s:ChangeSpec}{W W':World}{args:Array Value}{ds gs:List (DataW H)}{before:List MemPlace}{eT:TypeId}
 (an:laidOutB P=true) (hp:∀ t∈f.params.toList,P.readableRec t=true∧t<P.types.size) (aO:f.resultTypes= #[eT]) (hb:P.underlying eT=some .bool) (a6:s.vars= [])
 (hs:s.fn H ds= { results:= [.lit (.bool true)],args:=ds })
 (AO:DataW.Whole enc P f.params.toList s.vars false W args.toList ds gs before) (mC:Fr [] W W'):
 s.post enc P f false true false false W args (.bool true) W':=by
 have agc:=AO
 obtain⟨p,q,hf,NB,rfl,dI,aR⟩:=agc
 rw [a6] at NB
 obtain⟨rfl,rfl⟩:=trodVars_none NB
 have cf:∀ x∈p,x.block<W.heap.size:=fun x ar=>AO.lt x (by simpa using ar)
 have pc:=mC.below
 have ac3:∀ x∈p,W.sameAt W' x:=fun x ar=>pc.same (cf x ar)
 have afj:∀ (b:Nat) (sp:Nat→Bool) (hd:Bool),DataW.TrodAll enc P W' b sp hd f.resultTypes.toList ((Value.bool true).resultList f.resultTypes.size) [.lit (.bool true)] []:=by
  intro b sp hd;rw [aO];exact⟨[],[],shut_bool hb true,rfl,rfl⟩
 refine⟨ds,[],p++[],[],p,[],AO,?_,?_,?_,World.keptBut_mono (fun x ar=>?_) (pc.frame fun _=>False),fun h=>by cases h⟩
 ·rw [List.append_nil,hs];exact afj _ _ _
 ·rw [List.append_nil,hs];exact Pg an hp hf ac3 (fun x ar=>by simpa using cf x ar)
 ·rw [List.append_nil,hs,a6];rfl
 exact ar.elim
end Gv
namespace Gv
open Go Go.ChangeShapes Go.WideShapes Go.RowKit
theorem Zj {P:Program}{fits:TypeId→Bool}{d:Nat}{e:TypeId}{count off n:Nat}(h:rowAt P fits d e count off n=true):off≤count * P.cellsOf e:=by
 cases d with
 | zero=>cases h
 | succ d=>
   unfold rowAt at h
   simp only at h
   split at h
   ·cases h
   rename_i hs
   have hp:0<P.cellsOf e:=Nat.pos_of_ne_zero hs
   have aif:=Nat.div_add_mod off (P.cellsOf e)
   rw [Bool.or_eq_true] at h
   rcases h with h | h
   ·simp only [Bool.and_eq_true,beq_iff_eq,decide_eq_true_eq] at h
    have:P.cellsOf e * (off / P.cellsOf e)≤P.cellsOf e * count:=Nat.mul_le_mul_left _ (by omega)
    rw [Nat.mul_comm count];omega
   simp only [Bool.and_eq_true,decide_eq_true_eq] at h
   have hm:=Nat.mod_lt off hp
   have:P.cellsOf e * (off / P.cellsOf e+1)≤P.cellsOf e * count:=Nat.mul_le_mul_left _ (by omega)
   rw [Nat.mul_add] at this
   rw [Nat.mul_comm count];omega
theorem Ph {P:Program} :∀ {d:Nat} {e:TypeId} {count off:Nat} {u:TypeId} {n:Nat},liesAt P d e count off u n=true→off≤count * P.cellsOf e
 | 0,_,_,_,_,_,h=>by cases h
 | d+1,e,count,off,u,n,h=>by
   unfold liesAt at h;rw [Bool.or_eq_true] at h;rcases h with h | h
   ·exact Zj h
   split at h
   ·exact Ph h
   cases h
structure vI (P:Program)(t:TypeId)(α:Type)[ak α]:Prop where
 top:∀ {H:Type} {enc:TypeId×Value→H} {W:World} {n b:Nat} {v:Value} {x:DataW H×List MemPlace},DataW.trod enc P W 0 (fun _=>true) true n t v.cells.toList=some x→Value.okWide P W .any b t v→ ∃ a:α,(I.of a).holds [] W v
variable {P:Program} {t e:TypeId}
theorem vI.of {α:Type}[ak α](h:Arg P t α):vI P t α where
 top aa ae:=let⟨a,aG⟩:=h.read aa; ⟨a,h.form ae,aG⟩
theorem Zk {α:Type}[ak α](hu:P.underlying t=some (.slice e))(he:Arg P e α)(dI:Nat.beq (ak.size α) 0=false){H:Type}{enc:TypeId×Value→H}{W:World}{n b:Nat}{v:Value}{x:DataW H×List MemPlace}
 (h:DataW.trod enc P W 0 (fun _=>true) true n t [v]=some x) (jz:Cell.okWide P W .any b t v):∃ a:List α,(I.of a).holds [] W v:=by
 have lE:ak.size α≠0:=fun h=>by rw [h] at dI;cases dI
 rcases DataW.trod_slice hu h with⟨aa,_⟩ | ⟨a,len,cap,elems,rest,m,_,aa,_,_,aih,xS,Ep,afk,ahS,_⟩
 ·have:=List.singleton_inj.1 aa
  subst this
  exact⟨[],oc.2 (.inl ⟨rfl,rfl⟩)⟩
 have:=List.singleton_inj.1 aa
 subst this
 unfold Cell.okWide at jz
 simp only [hu] at jz
 unfold Cell.ok at jz
 rw [hu] at jz
 obtain⟨_,_,_,SB,row,cells,AD,afl⟩:=jz
 obtain⟨UK,uz,aii⟩:=a
 simp only at SB
 subst SB
 unfold World.shape? at AD
 cases fe:W.heap[UK]? with
 | none=>rw [fe] at AD;cases AD
 | some k3=>
   rw [fe] at AD
   cases k3 <;> simp at AD
   rename_i sJ T hL
   obtain⟨yu,eL⟩:=AD
   have ahW:uz≤sJ.size:=by
    have a7:uz≤_:=Ph afl;have bn:=Nat.div_mul_le_self cells (P.cellsOf row);omega
   have Di:=he.cells
   have gO:∀ i,i<len→ ∃ a:α,ak.rep [] W ((sJ.toList.drop (uz+i * ak.size α)).take (ak.size α)) a∧uz+(i+1) * ak.size α≤sJ.size:=fun i au=>by
    have a7:=afk i au;rw [List.getElem?_eq_getElem (by omega)] at a7;obtain⟨eA,bn,dn⟩:=Option.bind_eq_some_iff.1 a7;obtain⟨_,an,aj⟩:=World.cells?_some bn;rw [Di] at an aj bn;have tz:∀ j,j<ak.size α→sJ[uz+i * ak.size α+j]? =eA[j]? :=fun j aH=>by
     rw [← aj j aH,ka,ka];unfold World.cell?;simp [fe]
    have heq:(sJ.toList.drop (uz+i * ak.size α)).take (ak.size α)=eA:=by
     apply List.ext_getElem?;intro j;rw [List.getElem?_take];by_cases aH:j<ak.size α
     ·rw [if_pos aH,List.getElem?_drop,Array.getElem?_toList];exact tz j aH
     rw [if_neg aH];symm;exact List.getElem?_eq_none (by omega)
    obtain⟨a,bb⟩:=he.read dn;refine⟨a,by rw [heq];exact bb,?_⟩;have fh:=tz (ak.size α - 1) (by omega);rw [List.getElem?_eq_getElem (show ak.size α - 1<eA.length by omega)] at fh;have:=(Array.getElem?_eq_some_iff.1 fh).1;rw [Nat.add_mul];omega
   have hex:∃ xs:List α,xs.length=len∧ ∀ i (h:i<xs.length),ak.rep [] W ((sJ.toList.drop (uz+i * ak.size α)).take (ak.size α)) xs[i]:=by
    refine⟨List.ofFn fun i:Fin len=>(gO i.1 i.2).choose,by simp,fun i au=>?_⟩;have hE:i<len:=by simpa using au
    rw [List.getElem_ofFn];exact(gO i hE).choose_spec.1
   obtain⟨xs,Em,agd⟩:=hex
   have hbound:uz+xs.length * ak.size α≤sJ.size:=by
    rw [Em];rcases Nat.eq_zero_or_pos len with bO | bO
    ·rw [bO];omega
    have:=(gO (len - 1) (by omega)).choose_spec.2;rw [show len - 1+1=len by omega] at this;exact this
   refine⟨xs,oc.2 (.inr ⟨UK,uz,cap,sJ,T,hL,by rw [Em],by simp,fe,by omega,by omega,hbound,?_,fun i au=>?_⟩)⟩
   ·rw [List.length_take,List.length_drop];simp;omega
   have hle:(i+1) * ak.size α≤xs.length * ak.size α:=Nat.mul_le_mul_right _ au
   rw [Nat.succ_mul] at hle
   rw [wP _ _ _ _ _ hle]
   exact agd i au
theorem vI.age {α:Type}[ak α](hu:P.underlying t=some (.slice e))(he:Arg P e α)(dI:Nat.beq (ak.size α) 0=false):vI P t (List α) where
 top {H enc W n b v x} h jz:=by
  have Ai:Cell.okWide P W .any b t v:=by
   unfold Value.okWide at jz;simp only [hu] at jz;exact jz
  have afm:v.oneCell'=true:=by
   unfold Cell.okWide at Ai;simp only [hu] at Ai;unfold Cell.ok at Ai;rw [hu] at Ai;cases v <;> first | rfl | simp at Ai
  rw [px afm] at h;exact Zk hu he dI h Ai
theorem Js {H:Type}{enc:TypeId×Value→H}{W:World}{ig:List TypeId}{vs:List Value}{ds:List (DataW H)}{bw:List MemPlace}{α:Type}[ak α]{b:Nat}(bb:vI P t α)
 (h:DataW.TrodAll enc P W 0 (fun _=>true) true (t::ig) vs ds bw) (jz:∀ (j:Nat) u v,(t::ig)[j]? =some u→vs[j]? =some v→Value.okWide P W .any b u v):
 ∃ (a:α) (v:Value) (Mw:List Value) (T0:List (DataW H)) (oB:List MemPlace) (d:DataW H),vs=v::Mw∧ds=d::T0∧ (I.of a).holds [] W v∧DataW.TrodAll enc P W 0 (fun _=>true) true ig Mw T0 oB∧
   (∀ (j:Nat) u w,ig[j]? =some u→Mw[j]? =some w→Value.okWide P W .any b u w):=by
 obtain⟨v,Mu,d,Mv,p,q,rfl,rfl,rfl,⟨n,aa⟩,ae⟩:=trodAll_cons h
 obtain⟨a,aG⟩:=bb.top aa (jz 0 t v rfl rfl)
 exact⟨a,v,Mu,Mv,q,d,rfl,rfl,aG,ae,fun j u w aH hw=>jz (j+1) u w (by simpa using aH) (by simpa using hw)⟩
end Gv
namespace Gv
open Go
theorem XK {L' L:List aQ}(h:L'.Sublist L):(aU L').Sublist (aU L):=by
 induction h with
 | slnil=>simp [aU]
 | cons e _ b6=>cases aw:e.key <;> simp only [aU,aw] <;> first | exact b6 | exact b6.cons _
 | cons_cons e _ b6=>cases aw:e.key <;> simp only [aU,aw] <;> first | exact b6 | exact b6.cons_cons _
theorem aQ.uX {e:aQ}{A dy W W'}(h:e.ok A W)(x:Ext A W dy W')(hb:∀ p,e.key=some p→W'.heap[p]? =W.heap[p]?):e.ok dy W':=by
 unfold aQ.ok at *;cases aw:e.key with
 | none=>rw [aw] at h;exact h
 | some p=>
   rw [aw] at h
   obtain⟨o,aa,ae⟩:=h
   exact⟨o,by rw [hb p aw];exact aa,eg.mono _ x ae⟩
def kQ (X b7:List Nat)(jB:World){δ:Type}(ρ:δ→I)(Lo:δ→List aQ):Ending→World→Prop:=fun e W'=>
 ∃ v d,e= .returned v∧Fr X jB W'∧ (aU (Lo d)).Nodup∧ (∀ k∈aU (Lo d),k<W'.heap.size∧ (k<jB.heap.size→k∈X)∧k ∉ b7)∧ (∀ e∈Lo d,e.ok (aU (Lo d)++b7) W')∧ (ρ d).holds (aU (Lo d)++b7) W' v
def bC (P:Program)(f:FuncId)(τs:List I)(Lin:List aQ){δ:Type}(ρ:δ→I)(Lo:δ→List aQ):Prop:=
 ∀ (A:List Nat) (W:World) (vs:List Value),(∀ k∈A,k<W.heap.size∧k ∉ aU Lin)→ (aU Lin).Nodup→ (∀ k∈aU Lin,k<W.heap.size)→ (∀ e∈Lin,e.ok (aU Lin++A) W)→hk (aU Lin++A) W τs vs→
   Calls P f vs.toArray W (kQ (aU Lin) A W ρ Lo)
theorem bC.of {P:Program}{f:FuncId}{fn:Func}{code:Code}{n:Nat}{τs:List I}{Lin:List aQ}{δ:Type}{ρ:δ→I}{Lo:δ→List aQ}(a2:P.funcs[f]? =some fn)(hb:fn.body=some code)(aR:fn.ntmps=n)(hlen:Nat.ble τs.length n=true)
 (h:∀ W A,ag ⟨P,n,W,aU Lin,A,none,[]⟩ (bodyPost P fn (kQ (aU Lin) A W ρ Lo)) code (params 0 τs) Lin):bC P f τs Lin ρ Lo:=by
 intro A W vs hf iD cf jz a6
 refine calls_of_wp a2 hb (wpIn_wide.1 (h W A _ _ ?_))
 have an:=a6.length
 have hle:τs.length≤n:=Nat.le_of_ble_eq_true hlen
 exact
 {defers:=rfl
  size:=by simp [aR,an];omega
  env:=fun t τ lf=>by
   obtain⟨_,v,ae,aG⟩:=wT a6 0 t τ lf;refine⟨v,?_,aG⟩;have cf:t<vs.length:=(List.getElem?_eq_some_iff.1 ae).1;rw [Array.getElem?_append_left (by simpa using cf)];simpa using ae
  ej:= .refl _ _
  own:=jz
  nodup:=iD
  lt:=cf
  gN:=fun k aw _=>aw
  fb:=hf }
section
variable {c:dB} {E:List (Nat×I)} {L:List aQ} {ops:Array Oper} {Q:Exit→Act→World→Prop}
variable {d:Option Tmp} {ty:TypeId} {pos:String} {af:Array Edge} {g:Option (Nat×Bool)} {x y:Operand} {t t2:TypeId}
def vX (c:dB)(E:List (Nat×I))(L:List aQ)(r:ResultVar)(τ:I):Prop:=
 ∀ a W,bL c E L a W→ ∃ v,(xg a.tmps r).run c.P W= .ok v W∧τ.holds (aU L++c.b7) W v
theorem c3 {t:Nat}{τ:I}(h:look E t=some τ):vX c E L (.tmp t) τ:=fun a W s=>by
 obtain⟨v,aa,ae⟩:=s.env t τ h;exact⟨v,by simp [xg,aa],ae⟩
theorem im {t:Nat}{ty:TypeId}{i p:Nat}{α:Type}[ak α]{x:α}(eN:bF c.P ty α)(h:look E t=some (.eq (.pointer (some ⟨p,0,none⟩))))(al:L[i]? =some ⟨some p,.var x⟩):vX c E L (.cell t ty) (.of x):=fun a W s=>by
 obtain⟨v,aa,ae⟩:=s.env t _ h;subst ae;obtain⟨k3,fe,cs,T,rfl,gO⟩:=s.own _ (List.mem_of_getElem? al);have an:cs.toList.length=ak.size α:=ak.len gO;have eL:cs.size=ak.size α:=by simpa using an
 obtain⟨v,aG,a0⟩:=wK (A:=aU L++c.b7) (off:=0) eN fe (by omega) (by rw [List.drop_zero,← an,List.take_length];exact gO);exact⟨v,by simp [xg,aa,asAddr,aG],a0⟩
theorem bL.ends {a:Act}{W:World}(s:bL c E L a W){δ:Type}{ρ:δ→I}{Lo:δ→List aQ}(a9:δ)(hs:(Lo a9).Sublist L){v:Value}(a6:(ρ a9).holds (aU L++c.b7) W v):kQ c.X c.b7 c.jB ρ Lo (.returned v) W:=by
 have lU:=XK hs;have aw:∀ k∈aU (Lo a9),k∈aU L:=fun k aw=>lU.subset aw;have hZ:Ext (aU L++c.b7) W (aU (Lo a9)++c.b7) W:= .drop fun k hm=>by
  rcases List.mem_append.1 hm with hm | hm
  ·exact List.mem_append.2 (.inl (aw k hm))
  exact List.mem_append.2 (.inr hm)
 exact⟨v,a9,rfl,s.ej,s.nodup.sublist lU,fun k hm=>⟨s.lt k (aw k hm),s.gN k (aw k hm),fun bb=>(s.fb k bb).2 (aw k hm)⟩,
  fun e he=>aQ.uX (s.own e (hs.subset he)) hZ fun _ _=>rfl,I.mono _ hZ a6⟩
theorem eK {L L':List aQ}(n:Nat)(h:L.drop n=L':=by rfl):L'.Sublist L:=h ▸ List.drop_sublist n L
theorem ad.e3 {fn:Func}{r:ResultVar}{τ:I}{δ:Type}{ρ:δ→I}{Lo:δ→List aQ}(a9:δ)(hs:(Lo a9).Sublist L)(aO:fn.results= #[r])(rz:ρ a9=τ)(h:vX c E L r τ)(h3:c.ds= []:=by rfl):ad c (bodyPost c.P fn (kQ c.X c.b7 c.jB ρ Lo)) .ret E L:=fun a W s=>by
 subst rz;obtain⟨v,aa,ae⟩:=h a W s;exact⟨s.w3 h3,v,by simp [wV,aO,aa],s.ends a9 hs ae⟩
theorem ad.h9 {fn:Func}{r gP:ResultVar}{τ nw:I}{δ:Type}{ρ:δ→I}{Lo:δ→List aQ}(a9:δ)(hs:(Lo a9).Sublist L)(aO:fn.results= #[r,gP])(rz:ρ a9= .dZ [τ,nw])(h:vX c E L r τ)(ae:vX c E L gP nw)(h3:c.ds= []:=by rfl):ad c (bodyPost c.P fn (kQ c.X c.b7 c.jB ρ Lo)) .ret E L:=fun a W s=>by
 obtain⟨v,aG,a0⟩:=h a W s;obtain⟨v2,a7,bn⟩:=ae a W s;exact⟨s.w3 h3,.tuple #[v,v2],by simp [wV,aO,aG,a7],s.ends a9 hs (by rw [rz];exact⟨_,rfl,.cons a0 (.cons bn .nil)⟩)⟩
theorem ad.Lc {fn:Func}{r gP ph:ResultVar}{τ nw Eh:I}{δ:Type}{ρ:δ→I}{Lo:δ→List aQ}(a9:δ)(hs:(Lo a9).Sublist L)(aO:fn.results= #[r,gP,ph])(rz:ρ a9= .dZ [τ,nw,Eh])(h:vX c E L r τ)(ae:vX c E L gP nw)(aG:vX c E L ph Eh)(h3:c.ds= []:=by rfl):ad c (bodyPost c.P fn (kQ c.X c.b7 c.jB ρ Lo)) .ret E L:=fun a W s=>by
 obtain⟨v,aq,f1⟩:=h a W s;obtain⟨v2,aX,f2⟩:=ae a W s;obtain⟨Ny,dd,f3⟩:=aG a W s;exact⟨s.w3 h3,.tuple #[v,v2,Ny],by simp [wV,aO,aq,aX,dd],s.ends a9 hs (by rw [rz];exact⟨_,rfl,.cons f1 (.cons f2 (.cons f3 .nil))⟩)⟩
theorem uT:∀ {L:List aQ} {i:Nat} {e:aQ},L[i]? =some e→L.Perm (e::L.eraseIdx i)
 | [],i,e,h=>by simp at h
 | x::r,0,e,h=>by simp only [List.getElem?_cons_zero,Option.some.injEq] at h;subst h;exact .refl _
 | x::r,i+1,e,h=>by
   simp only [List.getElem?_cons_succ] at h;exact((uT h).cons x).trans (.swap e x _)
theorem bL.bB {a:Act}{W:World}(s:bL c E L a W){i:Nat}{e:aQ}(h:L[i]? =some e):bL c E (e::L.eraseIdx i) a W:=s.perm (uT h)
theorem ah.bB {l:List Oper}(i:Nat){e:aQ}(h:L[i]? =some e)(k:ah c ops Q l E (e::L.eraseIdx i)):ah c ops Q l E L:=fun a W s=>k a W (s.bB h)
theorem ad.bB {z:Exit}(i:Nat){e:aQ}(h:L[i]? =some e)(k:ad c Q z E (e::L.eraseIdx i)):ad c Q z E L:=fun a W s=>k a W (s.bB h)
theorem bL.after {a:Act}{W W':World}{Lin Lr:List aQ}(s:bL c E (Lin++Lr) a W){Lo:List aQ}(a2:Fr (aU Lin) W W')(iD:(aU Lo).Nodup)
 (aw:∀ k∈aU Lo,k<W'.heap.size∧ (k<W.heap.size→k∈aU Lin)∧k ∉ aU Lr++c.b7) (jz:∀ e∈Lo,e.ok (aU Lo++(aU Lr++c.b7)) W'):bL c E (Lo++Lr) a W':=by
 have hZ:Ext (aU (Lin++Lr)++c.b7) W (aU (Lo++Lr)++c.b7) W':=
  ⟨a2.size,fun k cf bb=>a2.block k cf fun hm=>bb (by rw [ft];simp [hm]),fun k hm cf=>by
   rw [ft] at hm ⊢;simp only [List.mem_append] at hm ⊢;rcases hm with(hm | hm) | hm
   ·exact .inl (.inl ((aw k hm).2.1 cf))
   ·exact .inl (.inr hm)
   exact .inr hm⟩
 have nr:=s.nodup
 rw [ft] at nr
 obtain⟨l5,nY,rA⟩:=List.nodup_append.1 nr
 have Ao:∀ k∈aU Lr,k<W.heap.size∧k ∉ aU Lin:=fun k hm=>⟨s.lt k (by rw [ft];exact List.mem_append.2 (.inr hm)),fun h=>rA k h k hm rfl⟩
 exact
 {defers:=s.defers
  size:=s.size
  env:=fun t τ an=>let⟨v,aa,ae⟩:=s.env t τ an; ⟨v,aa,τ.mono hZ ae⟩
  ej:=⟨a2.os.trans s.ej.os,a2.tape.trans s.ej.tape,a2.output.trans s.ej.output,Nat.le_trans s.ej.size a2.size,fun k cf ar=>
   (a2.block k (Nat.lt_of_lt_of_le cf s.ej.size) fun hm=>ar (s.gN k (by rw [ft];exact List.mem_append.2 (.inl hm)) cf)).trans (s.ej.block k cf ar)⟩
  own:=fun e he=>by
   rcases List.mem_append.1 he with he | he
   ·have:=jz e he;refine aQ.uX this (.drop fun k hm=>?_) fun _ _=>rfl;rw [ft] at hm;simp only [List.mem_append] at hm ⊢;rcases hm with(hm | hm) | hm
    ·exact .inl hm
    ·exact .inr (.inl hm)
    exact .inr (.inr hm)
   exact aQ.uX (s.own e (List.mem_append.2 (.inr he))) hZ fun p hp=>by
    have:=Ao p (mi.2 ⟨e,he,hp⟩);exact a2.block p this.1 this.2
  nodup:=by
   rw [ft];exact List.nodup_append.2 ⟨iD,nY,fun k aa j ae e=>by subst e;exact(aw k aa).2.2 (List.mem_append.2 (.inl ae))⟩
  lt:=fun k hm=>by
   rw [ft] at hm;rcases List.mem_append.1 hm with hm | hm
   ·exact(aw k hm).1
   exact Nat.lt_of_lt_of_le (Ao k hm).1 a2.size
  gN:=fun k hm bO=>by
   rw [ft] at hm;have cf:k<W.heap.size:=Nat.lt_of_lt_of_le bO s.ej.size;rcases List.mem_append.1 hm with hm | hm
   ·exact s.gN k (by rw [ft];exact List.mem_append.2 (.inl ((aw k hm).2.1 cf))) bO
   exact s.gN k (by rw [ft];exact List.mem_append.2 (.inr hm)) bO
  fb:=fun k hm=>by
   obtain⟨aa,ae⟩:=s.fb k hm;refine⟨Nat.lt_of_lt_of_le aa a2.size,fun h=>?_⟩;rw [ft] at h ae;rcases List.mem_append.1 h with h | h
   ·exact(aw k h).2.2 (List.mem_append.2 (.inr hm))
   exact ae (List.mem_append.2 (.inr h)) }
theorem iM.Rj {xs:List Operand}{τs:List I}(h:iM c E L xs τs){a:Act}{W:World}(s:bL c E L a W):hk (aU L++c.b7) W τs (xs.map a.eval):=h.holds a W s
theorem Cc {a:Act}{W:World}{f:FuncId}{xs:List Operand}{ats:Array TypeId}{τs:List I}{Lin Lr:List aQ}{δ:Type}{ρ:δ→I}{Lo:δ→List aQ}(e5:bA c.P f)(h:bC c.P f τs Lin ρ Lo)
 (s:bL c E (Lin++Lr) a W) (ar:hk (aU (Lin++Lr)++c.b7) W τs (xs.map a.eval)):
 hC c.P ⟨d,.call ⟨.value (.func f),xs.toArray,ats⟩,ty,pos,af,g⟩ a W fun v W'=> ∃ a9,bL c E (Lo a9++Lr) a W'∧ (ρ a9).holds (aU (Lo a9++Lr)++c.b7) W' v:=by
 have nr:=s.nodup
 rw [ft] at nr
 obtain⟨l5,nY,rA⟩:=List.nodup_append.1 nr
 have lV:Ext (aU (Lin++Lr)++c.b7) W (aU Lin++(aU Lr++c.b7)) W:= .drop fun k hm=>by
  rw [ft];simp only [List.mem_append] at hm ⊢;rcases hm with hm | hm | hm
  ·exact .inl (.inl hm)
  ·exact .inl (.inr hm)
  exact .inr hm
 have hf:∀ k∈aU Lr++c.b7,k<W.heap.size∧k ∉ aU Lin:=fun k hm=>by
  rcases List.mem_append.1 hm with hm | hm
  ·exact⟨s.lt k (by rw [ft];exact List.mem_append.2 (.inr hm)),fun h=>rA k h k hm rfl⟩
  obtain⟨aa,ae⟩:=s.fb k hm;exact⟨aa,fun h=>ae (by rw [ft];exact List.mem_append.2 (.inl h))⟩
 have cf:∀ k∈aU Lin,k<W.heap.size:=fun k hm=>s.lt k (by rw [ft];exact List.mem_append.2 (.inl hm))
 refine .w4 (f:=f) (args:=(xs.map a.eval).toArray) (W':=W) (by simp [execOp,resolve,Deferred.ofValue,Act.eval,invoke,e5.run]) ?_
 refine(h (aU Lr++c.b7) W (xs.map a.eval) hf l5 cf (fun e he=>aQ.uX (s.own e (List.mem_append.2 (.inl he))) lV fun _ _=>rfl) (ar.mono lV)).mono fun e W' ⟨v,a9,he,a2,aa,ae,aG,a0⟩=>?_
 refine⟨v,he,a9,s.after a2 aa ae aG,(ρ a9).mono (.drop fun k hm=>?_) a0⟩
 rw [ft] at hm
 simp only [List.mem_append] at hm ⊢
 rcases hm with(hm | hm) | hm
 ·exact .inl hm
 ·exact .inr (.inl hm)
 exact .inr (.inr hm)
theorem ah.kO {rest:List Oper}{a9:Nat}{f:FuncId}{xs:List Operand}{ats:Array TypeId}{τs:List I}{Lin Lr:List aQ}{δ:Type}{ρ:δ→I}{Lo:δ→List aQ}(e5:bA c.P f)(h:bC c.P f τs Lin ρ Lo)
 (ar:iM c E (Lin++Lr) xs τs) (aR:Nat.blt a9 c.n=true) (k:∀ q,ah c ops Q rest ((a9,ρ q)::E) (Lo q++Lr)):
 ah c ops Q (⟨some a9,.call ⟨.value (.func f),xs.toArray,ats⟩,ty,pos,af,none⟩::rest) E (Lin++Lr):=fun a W s=>
 ik rfl (Cc e5 h s (ar.holds a W s)) fun v W' ⟨q,cr,a6⟩=>k q _ _ (cr.put (by simpa using aR) a6)
end
def eV {α:Type}(xs:List α)(k:Nat)(v:α):List α:=xs.set k v
section
variable {c:dB} {E:List (Nat×I)} {L:List aQ} {ops:Array Oper} {Q:Exit→Act→World→Prop}
variable {d:Option Tmp} {ty:TypeId} {pos:String} {af:Array Edge} {g:Option (Nat×Bool)} {x y:Operand} {t t2:TypeId}
theorem bL.rowAt {a:Act}{W:World}(s:bL c E L a W){i:Nat}{key:Option Nat}{T cap:Nat}{α:Type}[ak α]{xs:List α}(al:L[i]? =some ⟨key,.row T xs cap⟩)(ar:0<xs.length):
 ∃ p cs,key=some p∧W.heap[p]? =some (.cells cs T (0,0))∧cs.size=cap * ak.size α∧xs.length≤cap∧cap≤maxLen∧hr (aU L++c.b7) W (cs.toList.take (xs.length * ak.size α)) xs:=by
 have bg:=s.own _ (List.mem_of_getElem? al)
 cases key with
 | none=>have:xs= []:=bg.1;subst this;simp at ar
 | some p=>
   obtain⟨o,fe,cs,rfl,aa,ae,aG,a0⟩:=bg
   exact⟨p,cs,rfl,fe,aa,ae,aG,a0⟩
theorem mL {e i k T cap:Nat}{key:Option Nat}{α:Type}[ak α]{xs:List α}{z:Int}(hu:c.P.underlying t=some (.slice e))(fi:bF c.P e α)(ar:ba c E L x (.eq (aV key xs.length cap)))(a5:ba c E L y (.of z))
 (al:L[i]? =some ⟨key,.row T xs cap⟩) (aw:k<xs.length∧z=k):b9 c E L ⟨d,.indexAddr t x y,ty,pos,af,g⟩ (.eq (.pointer (some ⟨key.getD 0,k * ak.size α,none⟩))):= .pure fun a W s=>by
 obtain⟨bn,rfl⟩:=aw
 obtain⟨p,cs,rfl,_⟩:=s.rowAt al (by omega)
 have aa:a.eval x=_:=ar a W s
 have a7:=of_int.1 (a5 a W s)
 obtain⟨gS,eY,eL⟩:=fi.info
 exact⟨_,by simp [execOp,Instr.indexAt,asIntOf,run_underlying hu,aa,a7,bn,Go.sizeOf,typeInfo,eY,eL,ka,aV];rfl,by simp [I.eq]⟩
theorem zM {k n s:Nat}(h:k<n):k * s+s≤n * s:=by rw [← Nat.succ_mul];exact Nat.mul_le_mul_right _ h
theorem qW {i k T cap o:Nat}{key:Option Nat}{α γ:Type}[ak α][Inhabited α][ak γ]{xs:List α}(l:aL α γ){r:γ}(eN:bF c.P t γ)(ar:ba c E L x (.eq (.pointer (some ⟨key.getD 0,o,none⟩))))
 (al:L[i]? =some ⟨key,.row T xs cap⟩) (aw:k<xs.length) (bg:o=k * ak.size α+l.off) (aO:l.get (aF xs k)=r):b9 c E L ⟨d,.load t x,ty,pos,af,g⟩ (.of r):= .pure fun a W s=>by
 subst bg;subst aO
 obtain⟨p,cs,rfl,fe,aa,ae,aG,a0⟩:=s.rowAt al (by omega)
 have fc:=zM (s:=ak.size α) aw
 have an:=l.gZ
 have hle:xs.length * ak.size α≤cap * ak.size α:=Nat.mul_le_mul_right _ ae
 have gO:=l.jh (a0.2 k aw)
 rw [wP _ _ _ _ _ l.gZ,List.drop_take,List.take_take,Nat.min_eq_left (by omega)] at gO
 rw [eO xs aw]
 obtain⟨v,a7,bn⟩:=wK (A:=aU L++c.b7) eN fe (off:=k * ak.size α+l.off) (by omega) gO
 have dn:a.eval x=_:=ar a W s
 simp only [Option.getD_some] at dn
 exact⟨v,by simp [execOp,Instr.loadAt,Instr.sureAddr,dn,a7],bn⟩
theorem ah.xe {rest:List Oper}{i k T cap o:Nat}{key:Option Nat}{α γ:Type}[ak α][Inhabited α][ak γ]{xs r:List α}{v:γ}(l:aL α γ)(eN:bF c.P t γ)(ar:ba c E L x (.eq (.pointer (some ⟨key.getD 0,o,none⟩))))(a5:ba c E L y (.of v))
 (al:L[i]? =some ⟨key,.row T xs cap⟩) (aw:k<xs.length) (bg:o=k * ak.size α+l.off) (aO:eV xs k (l.set (aF xs k) v)=r)
 (k':ah c ops Q rest E (L.set i ⟨key,.row T r cap⟩)):ah c ops Q (⟨none,.store t x y,ty,pos,af,none⟩::rest) E L:=fun a W s=>by
 subst bg;subst aO
 obtain⟨p,cs,rfl,fe,aa,ae,aG,a0⟩:=s.rowAt al (by omega)
 have fc:=zM (s:=ak.size α) aw
 have an:=l.gZ
 have hle:xs.length * ak.size α≤cap * ak.size α:=Nat.mul_le_mul_right _ ae
 have a6:=a5 a W s
 have rB:(a.eval y).cells.toList.length=ak.size γ:=ak.len a6.2
 have a7:=BV (A:=aU L++c.b7) eN fe (off:=k * ak.size α+l.off) (by omega) a6
 have dn:a.eval x=_:=ar a W s
 simp only [Option.getD_some] at dn
 refine ik rfl (R:=fun v W'=>W'=W.setRow p (gR cs.toList (k * ak.size α+l.off) (a.eval y).cells.toList).toArray) (.zB ?_ rfl) fun u W' hw=>?_
 ·simp [execOp,Instr.storeAt,Instr.sureAddr,dn,a7]
 subst hw
 refine k' _ _ (s.store al fe ?_)
 have mx:cs.toList.length=cap * ak.size α:=by simpa using aa
 have pQ:(gR cs.toList (k * ak.size α+l.off) (a.eval y).cells.toList).length=cs.toList.length:=by
  simp only [gR,List.length_append,List.length_take,List.length_drop,rB];omega
 refine⟨_,rfl,by simpa [mx] using pQ,by simpa [eV] using ae,aG,?_⟩
 have ao:=a0.2 k aw
 have a3:=l.mf ao a6.2
 have bx:=JN a0 aw a3
 have nX:(cs.toList.take (xs.length * ak.size α)).length=xs.length * ak.size α:=by rw [List.length_take];omega
 rw [Pe _ _ _ _ _ _ l.gZ (by omega)] at bx
 have hlen:(eV xs k (l.set (aF xs k) v)).length=xs.length:=by simp [eV]
 rw [hlen,List.toList_toArray]
 have e:(gR cs.toList (k * ak.size α+l.off) (a.eval y).cells.toList).take (xs.length * ak.size α)=
  (cs.toList.take (xs.length * ak.size α)).take (k * ak.size α+l.off)++(a.eval y).cells.toList++(cs.toList.take (xs.length * ak.size α)).drop (k * ak.size α+l.off+ak.size γ):=by
  have aq:(cs.toList.take (k * ak.size α+l.off)).length=k * ak.size α+l.off:=by rw [List.length_take];omega
  have aX:(cs.toList.take (k * ak.size α+l.off)++(a.eval y).cells.toList).length=k * ak.size α+l.off+ak.size γ:=by rw [List.length_append,aq,rB]
  rw [gR,rB,List.take_append,aX,List.take_of_length_le (by omega),List.take_take,Nat.min_eq_left (by omega),List.drop_take]
 rw [e,show eV xs k (l.set (aF xs k) v)=xs.set k (l.set xs[k] v) by rw [eV,eO xs aw]]
 exact bx
def iO (key:Option Nat)(lo n cap size:Nat):Value:=match key with
 | some p=>.slice (some (if cap=lo then⟨p,0,none⟩ else⟨p,lo * size,none⟩)) n (cap - lo)
 | none=>.slice none 0 0
theorem Cg {key:Option Nat}{n cap size:Nat} :iO key 0 n cap size=aV key n cap:=by
 cases key <;> simp [iO,aV]
theorem Gl {i T cap:Nat}{key:Option Nat}{α:Type}[ak α]{xs:List α}{e:TypeId}{lo au:Option Operand}{m n:Nat}{ET EU:Int}(hu:c.P.underlying t=some (.slice e))(fi:bF c.P e α)(ar:ba c E L x (.eq (aV key xs.length cap)))
 (al:L[i]? =some ⟨key,.row T xs cap⟩) (g1:wg c E L lo ET 0) (eX:wg c E L au EU xs.length) (hm:ET=m) (aR:EU=n) (h:m≤n∧n≤xs.length):
 b9 c E L ⟨d,.slice t x lo au none,ty,pos,af,g⟩ (.eq (iO key m (n - m) cap (ak.size α))):= .pure fun a W s=>by
 subst hm;subst aR
 obtain⟨sC,l3⟩:=h
 obtain⟨gS,eY,eL⟩:=fi.info
 have aa:a.eval x=_:=ar a W s
 have bg:=s.own _ (List.mem_of_getElem? al)
 cases key with
 | none=>
   have iv:xs= []:=bg.1
   subst iv
   have sH:n=0:=by simpa using l3
   have ha:m=0:=by omega
   subst sH
   subst ha
   refine⟨.slice none 0 0,?_,rfl⟩
   have al:(match lo.map a.eval with | some v=>Instr.sliceBound v 0 .sliceB | none=>pure 0:Sem Nat).run c.P W= .ok 0 W:=by
    cases g1 with
    | none=>rfl
    | some an=>exact qa (Nat.le_refl _) (of_int.1 (an a W s))
   have kD:(match au.map a.eval,(none:Option Value) with | some v,some _=>Instr.sliceBound v 0 .slice3B | some v,none=>Instr.sliceBound v 0 .sliceAcap | none,none=>pure 0 | none,some _=>stuck "Slice: max without high" :Sem Nat).run c.P W= .ok 0 W:=by
    cases eX with
    | none=>rfl
    | some an=>exact qa (Nat.le_refl _) (of_int.1 (an a W s))
   cases g1 <;> cases eX
   all_goals
    simp only [aV,execOp,Instr.sliceAt,Instr.slice,Instr.sliceBounds,aa,Sem.run_bind,run_underlying hu,Result.andThen_ok,Option.map_none,Option.map_some,Option.isSome_none,Bool.false_eq_true,if_false,if_true,Sem.run_pure] at al kD ⊢
    try simp only [al,kD,Result.andThen_ok,Go.sizeOf,typeInfo,Sem.run_bind,run_program,eY,Sem.run_pure]
    try simp [eY]
 | some p=>
   obtain⟨o,fe,cs,rfl,ao,a3,bx,c0⟩:=bg
   refine⟨_,?_,rfl⟩
   simp only [iO]
   have al:∀ v,v=Value.int .i64 m→ (Instr.sliceBound v n .sliceB).run c.P W= .ok m W:=fun v a6=>qa sC a6
   have kD:∀ v,v=Value.int .i64 n→ (Instr.sliceBound v cap .sliceAcap).run c.P W= .ok n W:=fun v a6=>qa (by omega) a6
   generalize fc:(n:Int)=UE at eX
   generalize El:(m:Int)=UF at g1
   generalize Em:(xs.length:Int)=UG at eX
   generalize TX:(0:Int)=UH at g1
   cases g1 with
   | none=>
     have ha:m=0:=by omega
     cases eX with
     | none=>
       have l3:n=xs.length:=by omega
       subst l3
       subst ha
       simp [execOp,Instr.sliceAt,Instr.slice,Instr.sliceBounds,aa,aV,run_underlying hu,Go.sizeOf,typeInfo,eY,eL,ka]
     | some cA=>
       subst fc
       subst ha
       simp [execOp,Instr.sliceAt,Instr.slice,Instr.sliceBounds,aa,aV,run_underlying hu,Go.sizeOf,typeInfo,eY,eL,ka,kD _ (of_int.1 (cA a W s))]
   | some an=>
     subst El
     cases eX with
     | none=>
       have l3:n=xs.length:=by omega
       subst l3
       simp [execOp,Instr.sliceAt,Instr.slice,Instr.sliceBounds,aa,aV,run_underlying hu,Go.sizeOf,typeInfo,eY,eL,ka,al _ (of_int.1 (an a W s))]
       split <;> rfl
     | some cA=>
       subst fc
       simp [execOp,Instr.sliceAt,Instr.slice,Instr.sliceBounds,aa,aV,run_underlying hu,Go.sizeOf,typeInfo,eY,eL,ka,al _ (of_int.1 (an a W s)),kD _ (of_int.1 (cA a W s))]
       split <;> rfl
theorem bL.again {a:Act}{W:World}(s:bL c E L a W){i:Nat}{key:Option Nat}{cp cp':eg}(al:L[i]? =some ⟨key,cp⟩)(h:∀ A W o,cp.holds A W o→cp'.holds A W o)(aR:cp.nL→cp'.nL):bL c E (L.set i ⟨key,cp'⟩) a W:=by
 have h2:aU (L.set i ⟨key,cp'⟩)=aU L:=zK (e:=⟨key,cp⟩) (cp:=cp') al;exact
 {defers:=s.defers
  size:=s.size
  env:=fun t τ an=>by rw [h2];exact s.env t τ an
  ej:=s.ej
  own:=fun e he=>by
   rw [h2];obtain⟨j,aH⟩:=List.mem_iff_getElem?.1 he;rw [List.getElem?_set] at aH;split at aH
   ·split at aH
    ·simp only [Option.some.injEq] at aH;subst aH;have bg:=s.own _ (List.mem_of_getElem? al);cases key with
     | none=>exact aR bg
     | some p=>obtain⟨o,aa,ae⟩:=bg;exact⟨o,aa,h _ _ _ ae⟩
    cases aH
   exact s.own e (List.mem_of_getElem? aH)
  nodup:=by rw [h2];exact s.nodup
  lt:=by rw [h2];exact s.lt
  gN:=by rw [h2];exact s.gN
  fb:=by rw [h2];exact s.fb }
theorem JH {T cap n:Nat}{α:Type}[ak α]{xs:List α}(aR:n≤xs.length){A W o}(h:(eg.row T xs cap).holds A W o):(eg.row T (xs.take n) cap).holds A W o:=by
 obtain⟨cs,rfl,aa,ae,aG,a0⟩:=h;have an:(xs.take n).length=n:=by rw [List.length_take];omega
 have hle:n * ak.size α≤xs.length * ak.size α:=Nat.mul_le_mul_right _ aR;have Hy:xs.length * ak.size α≤cap * ak.size α:=Nat.mul_le_mul_right _ ae;refine⟨cs,rfl,aa,by omega,aG,?_⟩;rw [an];have mx:cs.toList.length=cap * ak.size α:=by simpa using aa
 refine⟨by rw [List.length_take,an];omega,fun i au=>?_⟩;have hE:i<n:=by omega
 have fc:=zM (s:=ak.size α) hE;have:=a0.2 i (by omega);rw [List.drop_take,List.take_take,Nat.min_eq_left (by omega)] at this ⊢;rw [List.getElem_take];exact this
end
def sf {α:Type}[Inhabited α](xs:List α)(lo n:Nat):List α:=xs.take lo++List.replicate n default++xs.drop (lo+n)
theorem Pj {α:Type}[ak α]{A W}{cs ds:List Value}{xs ys:List α}{lo:Nat}(h:hr A W cs xs)(de:hr A W ds ys)(aw:lo+ys.length≤xs.length):
 hr A W (cs.take (lo * ak.size α)++ds++cs.drop (lo * ak.size α+ds.length)) (xs.take lo++ys++xs.drop (lo+ys.length)):=by
 have an:=h.1
 have hle:lo * ak.size α≤xs.length * ak.size α:=Nat.mul_le_mul_right _ (by omega)
 have t1:hr A W (cs.take (lo * ak.size α)) (xs.take lo):=by
  have e:(xs.take lo).length=lo:=by rw [List.length_take];omega
  refine⟨by rw [List.length_take,e];omega,fun i au=>?_⟩;have hE:i<lo:=by omega
  have:=h.2 i (by omega);have fc:=zM (s:=ak.size α) hE;rw [List.drop_take,List.take_take,Nat.min_eq_left (by omega),List.getElem_take];exact this
 have t3:hr A W (cs.drop (lo * ak.size α+ds.length)) (xs.drop (lo+ys.length)):=by
  have e:lo * ak.size α+ds.length=(lo+ys.length) * ak.size α:=by rw [de.1,Nat.add_mul]
  rw [e];refine⟨by rw [List.length_drop,List.length_drop,an,← Nat.sub_mul],fun i au=>?_⟩;rw [List.length_drop] at au;have:=h.2 (lo+ys.length+i) (by omega);rw [List.drop_drop,← Nat.add_mul,List.getElem_drop];exact this
 exact uR (uR t1 de) t3
section
variable {c:dB} {E:List (Nat×I)} {L:List aQ} {ops:Array Oper} {Q:Exit→Act→World→Prop}
variable {d:Option Tmp} {ty:TypeId} {pos:String} {af:Array Edge} {g:Option (Nat×Bool)} {x y:Operand} {t t2:TypeId}
theorem ah.clear {rest:List Oper}{i e T cap lo n:Nat}{key:Option Nat}{α:Type}[ak α][Inhabited α]{xs r:List α}(hu:c.P.underlying t=some (.slice e))(fi:bF c.P e α)(hz:cS c.P e (default:α))(eL:Nat.beq (ak.size α) 0=false)
 (ar:ba c E L x (.eq (iO key lo n cap (ak.size α)))) (al:L[i]? =some ⟨key,.row T xs cap⟩) (aR:lo+n≤xs.length) (aO:sf xs lo n=r)
 (k:ah c ops Q rest E (L.set i ⟨key,.row T r cap⟩)):ah c ops Q (⟨none,.call ⟨.builtin .clear,#[x],#[t]⟩,ty,pos,af,none⟩::rest) E L:=fun a W s=>by
 subst aO
 have aa:a.eval x=_:=ar a W s
 have bg:=s.own _ (List.mem_of_getElem? al)
 have lV:∀ cp,L.set i ⟨key,cp⟩=L.set i ⟨key,cp⟩:=fun _=>rfl
 by_cases bO:n=0∨key=none
 ·have iv:sf xs lo n=xs:=by
   rcases bO with bO | bO
   ·subst bO;simp [sf]
   subst bO;have:xs= []:=bg.1;subst this;have:n=0:=by simp at aR;omega
   subst this;simp [sf]
  have ja:(execOp a.eval ⟨none,.call ⟨.builtin .clear,#[x],#[t]⟩,ty,pos,af,none⟩).run c.P W= .ok (.value (.tuple #[])) W:=by
   rcases bO with bO | bO
   ·subst bO;cases key <;> simp [execOp,resolve,invoke,builtin,Builtin.clear_,aa,iO,run_underlying hu]
   subst bO;simp [execOp,resolve,invoke,builtin,Builtin.clear_,aa,iO,run_underlying hu]
  refine ik rfl (R:=fun v W'=>W'=W) (.lv ja rfl) fun v W' hw=>?_
  subst hw
  rw [iv] at k
  have:L.set i ⟨key,.row T xs cap⟩=L:=by
   apply List.ext_getElem?;intro j;rw [List.getElem?_set];split
   ·rename_i gd;subst gd;have:=(List.getElem?_eq_some_iff.1 al).1;rw [if_pos this,al]
   rfl
  rw [this] at k
  exact k _ _ s
 have sH:0<n:=by
  rcases Nat.eq_zero_or_pos n with h | h
  ·exact absurd (.inl h) bO
  exact h
 obtain⟨p,cs,rfl,fe,ao,a3,bx,c0⟩:=s.rowAt al (by omega)
 obtain⟨gS,eP,eY,dI,Mx⟩:=hz.zero
 have HX:=Mx (aU L++c.b7) W
 have T1:eP.cells.toList.length=ak.size α:=ak.len HX.2
 have lE:ak.size α≠0:=fun h=>by rw [h] at eL;cases eL
 have Er:=Ci HX n lE
 have x8:eP.cells.size=ak.size α:=by simpa using T1
 have My:Builtin.zeroCells eP.cells n=(Array.range (n * ak.size α)).map (eP.cells[· % eP.cells.size]!):=by rw [Builtin.zeroCells,x8]
 rw [← My] at Er
 generalize mb:(Builtin.zeroCells eP.cells n).toList=D at Er
 have aij:D.length=n * ak.size α:=by rw [Er.1];simp
 have g1:cap≠lo:=by omega
 have hle:(lo+n) * ak.size α≤cap * ak.size α:=Nat.mul_le_mul_right _ (by omega)
 rw [Nat.add_mul] at hle
 have eu:=run_storeCells_at (P:=c.P) p (lo * ak.size α) _ D 0 cs W fe (by omega) Er.one
 have ja:(execOp a.eval ⟨none,.call ⟨.builtin .clear,#[x],#[t]⟩,ty,pos,af,none⟩).run c.P W= .ok (.value (.tuple #[])) (W.setRow p (gR cs.toList (lo * ak.size α) D).toArray):=by
  obtain⟨m,rfl⟩:∃ m,n=m+1:=⟨n - 1,by omega⟩;simp only [Nat.add_zero] at eu;simp [execOp,resolve,invoke,builtin,Builtin.clear_,aa,iO,run_underlying hu,g1,zeroValue,typeInfo,run_program,eY,dI,mb,eu,gR]
 refine ik rfl (R:=fun v W'=>W'=W.setRow p (gR cs.toList (lo * ak.size α) D).toArray) (.lv ja rfl) fun v W' hw=>?_
 subst hw
 refine k _ _ (s.store al fe ?_)
 have mx:cs.toList.length=cap * ak.size α:=by simpa using ao
 have hlen:(sf xs lo n).length=xs.length:=by simp [sf];omega
 have nX:(cs.toList.take (xs.length * ak.size α)).length=xs.length * ak.size α:=by
  rw [List.length_take];have:xs.length * ak.size α≤cap * ak.size α:=Nat.mul_le_mul_right _ a3;omega
 have afn:(lo+n) * ak.size α≤xs.length * ak.size α:=Nat.mul_le_mul_right _ aR
 rw [Nat.add_mul] at afn
 have ahX:xs.length * ak.size α≤cap * ak.size α:=Nat.mul_le_mul_right _ a3
 refine⟨_,rfl,?_,by rw [hlen];exact a3,bx,?_⟩
 ·simp only [List.size_toArray,gR,List.length_append,List.length_take,List.length_drop];omega
 rw [hlen,List.toList_toArray]
 have hx:=Pj (lo:=lo) c0 Er (by simpa using aR)
 have e:(gR cs.toList (lo * ak.size α) D).take (xs.length * ak.size α)=(cs.toList.take (xs.length * ak.size α)).take (lo * ak.size α)++D++(cs.toList.take (xs.length * ak.size α)).drop (lo * ak.size α+D.length):=by
  have aq:(cs.toList.take (lo * ak.size α)).length=lo * ak.size α:=by rw [List.length_take];omega
  have aX:(cs.toList.take (lo * ak.size α)++D).length=lo * ak.size α+D.length:=by rw [List.length_append,aq]
  rw [gR,List.take_append,aX,List.take_of_length_le (by omega),List.take_take,Nat.min_eq_left (by omega),List.drop_take]
 rw [e]
 simpa [sf] using hx
theorem bL.share {a:Act}{W:World}(s:bL c E L a W){i g5 p:Nat}{α:Type}[ak α]{z:α}(an:look E g5=some (.eq (.pointer (some ⟨p,0,none⟩))))(al:L[i]? =some ⟨some p,.var z⟩):bL c ((g5,.ptr z)::E) (L.set i ⟨none,.dead⟩) a W:=by
 have aw:=s.kill i;refine { aw with env:=fun t τ fy=>?_ };simp only [look] at fy;by_cases e:Nat.beq g5 t=true
 ·rw [e] at fy;simp only [cond_true,Option.some.injEq] at fy;subst fy;have:=eQ.1 e;subst this;obtain⟨v,aa,ae⟩:=s.env g5 _ an;have l4:v=_:=ae;subst l4;obtain⟨o,fe,cs,T,rfl,aO⟩:=s.own _ (List.mem_of_getElem? al);have hlen:cs.toList.length=ak.size α:=ak.len aO;refine⟨_,aa,p,0,cs,T,(0,0),rfl,s.Cp al,fe,by simp at hlen;omega,?_⟩;rw [List.drop_zero,← hlen,List.take_length];have lU:=y9 (L:=L) (i:=i) (cp:= .dead);exact ak.mono (.drop fun k hm=>by
   rcases List.mem_append.1 hm with hm | hm
   ·exact List.mem_append.2 (.inl (lU.subset hm))
   exact List.mem_append.2 (.inr hm)) aO
 simp only [Bool.not_eq_true] at e;rw [e] at fy;exact aw.env t τ fy
theorem ah.share {l:List Oper}{p:Nat}{α:Type}[ak α]{z:α}(i g5:Nat)(an:look E g5=some (.eq (.pointer (some ⟨p,0,none⟩))))(al:L[i]? =some ⟨some p,.var z⟩)(k:ah c ops Q l ((g5,.ptr z)::E) (L.set i ⟨none,.dead⟩)):ah c ops Q l E L:=
 fun a W s=>k a W (s.share an al)
theorem GN {α β:Type}[ak α][ak β]{F:α→Option β}{f:FuncId}{xs:List Operand}{τs:List I}(e5:bA c.P f)(ar:iM c E L xs τs)(h:∀ x r,F x=some r→bK c.P f (.of x::τs) (.of r)):
 b9 c E L ⟨d,.makeFunc (.func f) #[] xs.toArray,ty,pos,af,g⟩ (.xQ c.P F):= .pure fun a W s=>by
 have cA:=ar.holds a W s
 refine⟨.func (.func f) #[] (xs.map a.eval).toArray,by simp [execOp,Instr.makeFunc],f,_,_,rfl,e5,fun dy W' e hf x r pY mC a6=>?_⟩
 simpa using h x r mC dy W' (pY::xs.map a.eval) hf (.cons a6 (cA.mono e))
def I.Flat (τ:I):Prop:= ∀ A W dy W' v,τ.holds A W v→τ.holds dy W' v
theorem F7 {b:Bool} :(I.of b).Flat:=fun _ _ _ _ _ h=>h
theorem w1 {b:Int} :(I.of b).Flat:=fun _ _ _ _ _ h=>h
theorem b9.aeq {o:Oper}{τ:I}{T cap:Nat}{key:Option Nat}{α:Type}[ak α]{xs:List α}(i s:Nat)(an:look E s=some (.eq (aV key xs.length cap)))(al:L[i]? =some ⟨key,.row T xs cap⟩)(a2:τ.Flat)
 (h:b9 c ((s,.of xs)::E) (L.set i ⟨none,.dead⟩) o τ):b9 c E L o τ:=fun a W st=>by
 have:=h a W (st.freeze an al)
 unfold hC at this ⊢
 exact Oper.wp_mono (fun hM W' ⟨v,aa,ae,aG⟩=>⟨v,aa,ae,a2 _ _ _ _ _ aG⟩) this
def I.Tw {α:Type}(xs:List α):I where
 holds _ _ v:= ∃ b:Bool,v= .bool b∧ (b=true→xs= [])
 mono _ h:=h
theorem OY {P:Program}{e:TypeId}(W:World)(d:Nat){t:TypeId}(a:Option Addr)(l cp:Nat)(h:P.underlying t=some (.slice e)):(Op.equalIn (d+1) t (.slice a l cp) (.slice none 0 0)).run P W= .ok a.isNone W:=by
 cases a <;> simp [Op.equalIn,run_underlying h]
theorem RJ {α:Type}[ak α]{xs:List α}{e:TypeId}(hu:c.P.underlying t=some (.slice e))(ar:ba c E L x (.of xs)):b9 c E L ⟨d,.binOp .eql t x (.const (.slice none 0 0)) t2,ty,pos,af,g⟩ (.Tw xs):= .pure fun a W s=>by
 have aR:a.eval (.const (.slice none 0 0))= .slice none 0 0:=rfl;rcases oc.1 (ar a W s) with⟨aa,rfl⟩ | ⟨b,off,cap,cur,T,hL,aa,ae⟩
 ·exact⟨.bool true,by
   simp only [execOp,eqGuard,binOp,aa,aR,Op.equal,Op.maxDepth];simp [OY W 9999 none 0 0 hu],true,rfl,fun _=>rfl⟩
 exact⟨.bool false,by
  simp only [execOp,eqGuard,binOp,aa,aR,Op.equal,Op.maxDepth];simp [OY W 9999 (some ⟨b,off,none⟩) xs.length cap hu],false,rfl,fun h=>by cases h⟩
theorem ag.RK {α:Type}{y z:Code}{xs:List α}(an:ba c E L x (.Tw xs))(bM:xs= []→ag c Q y E L)(a2:ag c Q z E L):ag c Q (.cond x y z) E L:=fun a W s=>by
 obtain⟨b,aa,ae⟩:=an a W s;exact wpIn_cond_split aa (fun h=>bM (ae h) a W s) (fun _=>a2 a W s)
end
def cB (c:dB)(ops:Array Oper)(Q:Exit→Act→World→Prop)(f:Nat)(bo:Array Bool)(E:List (Nat×I))(L:List aQ):Prop:=
 ∀ a W,bL c E L a W→wpAnyIn c.F 9 c.P .any ops Q f bo a W
def sS (K:Act→World→Prop)(Q:Exit→Act→World→Prop):Exit→Act→World→Prop
 | .normal,a,W=>K a W
 | x,a,W=>Q x a W
def Tx:Nat→Nat→List Bool
 | 0,_=>[]
 | n+1,k=>Nat.beq (k % 2) 1::Tx n (k / 2)
def fD (n k:Nat):Array Bool:=Array.mk (Tx n k)
section
variable {c:dB} {E:List (Nat×I)} {L:List aQ} {ops:Array Oper} {Q:Exit→Act→World→Prop}
theorem Oper.Yv {F:Fence}{n:Nat}{P:Program}{o:Oper}{a:Act}{K:Act→World→Prop}{r:Result Next}(h:o.uponIn F n P a K (sS K Q) r):o.uponIn F n P a K Q r:=by
 cases r with
 | ok m rM=>
   cases m <;> simp only [Oper.uponIn] at h ⊢ <;>
    first
     | exact h
     | exact⟨h.1,CallsIn.mono h.2 (fun e vR he=>by cases e <;> exact he)⟩
     | exact⟨h.1,RoundIn.mono h.2 (fun e vR he=>by cases e <;> exact he)⟩
 | halt x rM=>cases x <;> simp only [Oper.uponIn] at h ⊢ <;> exact h
theorem FU {i:Nat}{o:Oper}{K:Act→World→Prop}{a:Act}{W:World}(au:ops[i]? =some o)(h:c.qB ops (sS K Q) [o] a W):wpOpIn c.F 9 c.P ops Q i K a W:=by
 unfold wpOpIn;simp only [au];simp only [dB.qB,wpListIn] at h;split
 ·rename_i hw;rw [if_pos hw] at h;exact⟨h.1,Oper.Yv h.2⟩
 rename_i hw;rw [if_neg hw] at h;exact h
def z2 (c:dB)(ops:Array Oper)(Q:Exit→Act→World→Prop)(f:Nat)(bo:Array Bool)(E:List (Nat×I))(L:List aQ):List Nat→Prop
 | []=>True
 | i::r=>(∃ o,ops[i]? =some o∧ah c ops (sS (wpAnyIn c.F 9 c.P .any ops Q f (bo.setIfInBounds i true)) Q) [o] E L)∧z2 c ops Q f bo E L r
theorem z2.get {f:Nat}{bo:Array Bool} :∀ {rN:List Nat},z2 c ops Q f bo E L rN→ ∀ i∈rN,∃ o,ops[i]? =some o∧ah c ops (sS (wpAnyIn c.F 9 c.P .any ops Q f (bo.setIfInBounds i true)) Q) [o] E L
 | _::_,h,i,au=>by
   rcases List.mem_cons.1 au with rfl | au
   ·exact h.1
   exact z2.get h.2 i au
theorem cB.step {f:Nat}{bo:Array Bool}(rN:List Nat)(aO:Region.ready .any ops bo=rN)(db:rN.isEmpty=false)(h:z2 c ops Q f bo E L rN):cB c ops Q (f+1) bo E L:=fun a W s=>
 ⟨fun bO=>(by rw [← aO,bO] at db;exact absurd db (by simp)),fun i au=>(by
  rw [aO] at au;obtain⟨o,aa,ae⟩:=h.get i au;exact FU aa (ae a W s))⟩
theorem cB.last {f:Nat}{bo:Array Bool}(aO:Region.ready .any ops bo= [])(h:ad c Q .normal E L):cB c ops Q f bo E L:=fun a W s=>by
 cases f with
 | zero=>exact⟨aO,h a W s⟩
 | succ f=>exact⟨fun _=>h a W s,fun i au=>(by rw [aO] at au;exact absurd au (by simp))⟩
theorem cB.le {f:Nat}{bo:Array Bool}{E':List (Nat×I)}(h:g4 E E')(k:cB c ops Q f bo E' L):cB c ops Q f bo E L:=fun a W s=>k a W (s.less h.look)
theorem cB.da {f:Nat}{bo:Array Bool}{L2:List aQ}(h:L=L2)(k:cB c ops Q f bo E L2):cB c ops Q f bo E L:=h ▸ k
theorem ad.any {f:Nat}{bo uY:Array Bool}(an:bo=uY)(k:cB c ops Q f uY E L):ad c (sS (wpAnyIn c.F 9 c.P .any ops Q f bo) Q) .normal E L:=fun a W s=>by
 subst an;exact k a W s
theorem ad.dE {f:Nat}{bo uY:Array Bool}{E':List (Nat×I)}(k:cB c ops Q f uY E' L)(h:g4 E E':=by repeat (first | exact g4.nil | refine g4.same rfl ?_))(an:bo=uY:=by kernel_rfl):ad c (sS (wpAnyIn c.F 9 c.P .any ops Q f bo) Q) .normal E L:= .any an (.le h k)
theorem cB.fL {f:Nat}{bo:Array Bool}(rN:List Nat)(h:z2 c ops Q f bo E L rN)(aO:Region.ready .any ops bo=rN:=by kernel_rfl)(db:rN.isEmpty=false:=by rfl):cB c ops Q (f+1) bo E L:= .step rN aO db h
theorem cB.cut {γ:Type}(AP:Nat)(uY:Array Bool)(E':γ→List (Nat×I))(L':γ→List aQ){f:Nat}{bo:Array Bool}(aa:∀ g,cB c ops Q AP uY (E' g) (L' g))
 (ae:(∀ g,cB c ops Q AP uY (E' g) (L' g))→cB c ops Q f bo E L):cB c ops Q f bo E L:=ae aa
theorem ag.Sd {oC:Nat}{l:List Oper}(hm:c.P.follows .mixedOrders=true)(n:Nat)(ls:Array Bool)(aR:l.length=n)(Es:Array.replicate n false=ls)(h:cB c l.toArray Q n ls E L):ag c Q (.region oC l.toArray true) E L:=fun a W s=>by
 subst aR Es;refine wpIn_region_any hm ?_;have:=h a W.drew (s.world (Fr.drew W));simpa using this
end
section
variable {c:dB} {E:List (Nat×I)} {L:List aQ} {ops:Array Oper} {Q:Exit→Act→World→Prop}
variable {d:Option Tmp} {ty:TypeId} {pos:String} {af:Array Edge} {g:Option (Nat×Bool)} {x y:Operand} {t t2:TypeId}
theorem ah.q7 {α:Type}[ak α]{rest:List Oper}{a9 e n:Nat}{z:α}{r:List α}{bw:List (Nat×Operand)}(hu:c.P.underlying t=some (.slice e))(fi:bF c.P e α)(hz:cS c.P e z)(hs:Nat.beq (ak.size α) 0=false)(aR:Nat.ble (n * ak.size α) 16777216=true)
 (a2:oV c E L (List.replicate n z) bw r) (k4:Nat.blt a9 c.n=true) (k:∀ p,ah c ops Q rest ((a9,.eq (aV p r.length n))::E) (⟨p,.row e r n⟩::L)):
 ah c ops Q (⟨some a9,.buildSlice t n bw.toArray,ty,pos,af,none⟩::rest) E L:=fun a W s=>by
 obtain⟨gS,eP,eY,dI,sI⟩:=hz.zero
 have oo:gS.size=ak.size α:=by
  obtain⟨i2,aa,ae⟩:=fi.info;rw [eY] at aa;cases aa;exact ae
 have fI:ak.size α≠0:=fun h=>by rw [h] at hs;cases hs
 have ry:=Ci (sI (aU L++c.b7) W) n fI
 obtain⟨eA,aG,a0,a7⟩:=a2.run a W s _ ry
 have hlen:r.length=n:=by rw [a7];simp
 have hm:(bw.toArray.map fun(x:Nat×Operand)=>(x.1,a.eval x.2)).toList=bw.map fun(i,x)=>(i,a.eval x):=by simp
 have afi:=Nat.le_of_ble_eq_true aR
 refine ik rfl (R:=fun v W'=>v= .slice (some ⟨W.heap.size,0,none⟩) n n∧W'=W.alloc (.cells eA e)) (.lv (v:= .slice (some ⟨W.heap.size,0,none⟩) n n) (W':=W.alloc (.cells eA e)) ?_ ⟨rfl,rfl⟩) fun v W' ⟨aa,ae⟩=>?_
 ·simp only [execOp,Instr.buildSlice,Sem.run_bind,run_underlying hu,Result.andThen_ok,Go.sizeOf,typeInfo,run_program,eY,Sem.run_pure,oo]
  rw [if_neg (by omega)]
  try simp only [Sem.run_pure,Result.andThen_ok,Sem.run_bind]
  by_cases bO:n * ak.size α=0
  ·have sH:n=0:=by
    rcases Nat.mul_eq_zero.1 bO with h | h
    ·exact h
    exact absurd h fI
   subst sH
   simp only [Nat.zero_mul,if_true,Sem.run_pure,Result.andThen_ok]
   try simp only [Nat.zero_mul] at aG
   have jC:((Array.range 0).map (fun x=>(#[]:Array Value)[x % (#[]:Array Value).size]!))=((Array.range 0).map (eP.cells[· % eP.cells.size]!)):=by simp
   simp only [pure_bind]
   rw [jC,hm,aG]
   simp [newRow]
  simp only [bO,if_false,Sem.run_bind,zeroValue,typeInfo,run_program,Result.andThen_ok,eY,dI,Sem.run_pure]
  rw [hm,aG]
  simp [newRow]
 subst aa ae
 have vy:n≤maxLen:=by
  have:n * 1≤n * ak.size α:=Nat.mul_le_mul_left _ (by omega);have:maxLen=9223372036854775807:=rfl;omega
 have eL:eA.size=n * ak.size α:=by have:=a0.1;rw [hlen] at this;simpa using this
 have cr:=s.alloc (o:= .cells eA e) (cp:= .row e r n) ⟨eA,rfl,eL,by omega,vy,by
  have bn:=a0.1;rw [← bn,List.take_length];exact a0⟩
 refine k (some W.heap.size) _ _ (cr.put (τ:= .eq (aV (some W.heap.size) r.length n)) (by simpa using k4) ?_)
 show _=_
 rw [hlen];rfl
def zZ {w:Nat}(a b:BitVec w):Option (BitVec w):=if b=0 then none else some (a % b)
theorem OU {w:Nat}{a b r:BitVec w}(h:zZ a b=some r):b≠0∧a % b=r:=by unfold zZ at h;split at h <;> simp_all
theorem ac4 {w:Nat}{b:BitVec w}(h:b≠0):(b.toNat:Int)≠0:=fun e=>h (BitVec.eq_of_toNat_eq (by simpa using e))
theorem aae {P:Program}{W:World}{k:IntKind}{x y:Int}(h:y≠0):(Op.intDiv .rem k x y).run P W= .ok (.int k (x.tmod y)) W:=by unfold Op.intDiv;rw [if_neg h];rfl
theorem Rf {a b r:BitVec 8}(ar:ba c E L x (.of a))(a5:ba c E L y (.of b))(h:b≠0∧a % b=r):b9 c E L ⟨d,.binOp .rem t x y t2,ty,pos,af,g⟩ (.of r):= .pure fun A W s=>
 ⟨.int .u8 r.toNat,by
   obtain⟨aa,rfl⟩:=h;have aG:(a.toNat:Int).tmod b.toNat=((a % b).toNat:Int):=by rw [BitVec.toNat_umod];exact(Int.ofNat_tmod _ _).symm
   have a0:=aae (P:=c.P) (W:=W) (k:= .u8) (x:=a.toNat) (ac4 aa);rw [aG] at a0;simp only [execOp,eqGuard,binOp,qn.1 (ar A W s),qn.1 (a5 A W s)];simp [a0],qn.2 rfl⟩
theorem ah.ji {l:List Oper}{key:Option Nat}{n m cap:Nat}(g5:Nat)(an:look E g5=some (.eq (aV key n cap)))(aR:n=m)(k:ah c ops Q l ((g5,.eq (aV key m cap))::E) L):ah c ops Q l E L:=fun a W s=>by
 subst aR;refine k a W (s.less fun t τ h=>?_);simp only [look] at h;by_cases e:Nat.beq g5 t=true
 ·rw [e] at h;simp only [cond_true] at h;have:=eQ.1 e;subst this;exact⟨τ,by rw [an,h],fun _ _ _ h=>h⟩
 simp only [Bool.not_eq_true] at e;rw [e] at h;exact⟨τ,h,fun _ _ _ h=>h⟩
end
theorem k6 {α:Type}{xs r:List α}{k:Nat}{v:α}(h:eV xs k v=r):xs.length=r.length:=by rw [← h];simp [eV]
theorem Pc {α:Type}{b:Nat}{r:List α}(h:((g9 b [] ([]:List α)).bind fun y=>some y)=some r):r= []:=by
 obtain⟨y,aa,ae⟩:=bind_some h;obtain⟨_,_,aG⟩:=Pf aa;rw [aG] at ae;exact(dC ae).symm
end Gv
