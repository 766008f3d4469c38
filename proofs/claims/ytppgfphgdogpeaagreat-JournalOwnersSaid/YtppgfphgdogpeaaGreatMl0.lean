/-
  The library of the decompiler, as far as it is needed here. Conditions: none.
-/
import Derived.WalkKit
import Derived.StillTail
import Derived.OwnWalkIn
import Derived.RangeFuncNested
import Derived.RangeFuncLeaves
import Derived.RangeFuncCalls
import Derived.ChangeSame
import Derived.OpenShut
import Derived.Carry
import Derived.DataReads
set_option linter.unusedVariables false
set_option linter.unusedSimpArgs false
namespace Gv
open Go
theorem MT (w:World)(o:Obj)(i:Nat)(h:i<w.heap.size):(w.alloc o).heap[i]? =w.heap[i]? :=by
 show(w.heap.push o)[i]? =w.heap[i]?;rw [Array.getElem?_push,if_neg (Nat.ne_of_lt h)]
theorem TD (w:World)(o:Obj):(w.alloc o).heap[w.heap.size]? =some o:=by
 show(w.heap.push o)[w.heap.size]? =some o;simp
structure Fr (X:List Nat)(W W':World):Prop where
 os:W'.os=W.os
 tape:W'.tape=W.tape
 output:W'.output=W.output
 drawn:W.drawn≤W'.drawn
 size:W.heap.size≤W'.heap.size
 block:∀ k,k<W.heap.size→k ∉ X→W'.heap[k]? =W.heap[k]?
theorem Fr.refl (X:List Nat)(W:World):Fr X W W:=⟨rfl,rfl,rfl,Nat.le_refl _,Nat.le_refl _,fun _ _ _=>rfl⟩
theorem Fr.trans {X:List Nat}{A B C:World}(h:Fr X A B)(k:Fr X B C):Fr X A C:=
 ⟨k.os.trans h.os,k.tape.trans h.tape,k.output.trans h.output,Nat.le_trans h.drawn k.drawn,Nat.le_trans h.size k.size,
   fun i au ar=>(k.block i (Nat.lt_of_lt_of_le au h.size) ar).trans (h.block i au ar)⟩
theorem Fr.weaken {X Y:List Nat}{A B:World}(h:Fr X A B)(s:∀ k∈X,k∈Y):Fr Y A B:=
 ⟨h.os,h.tape,h.output,h.drawn,h.size,fun i au ar=>h.block i au fun hm=>ar (s _ hm)⟩
theorem Fr.nil {X:List Nat}{A B:World}(h:Fr [] A B):Fr X A B:=h.weaken (by simp)
theorem Fr.alloc {X:List Nat}(W:World)(o:Obj):Fr X W (W.alloc o):=
 ⟨rfl,rfl,rfl,Nat.le_refl _,by simp,fun k hk _=>MT W o k hk⟩
theorem Fr.drew {X:List Nat}(W:World):Fr X W W.drew:=⟨rfl,rfl,rfl,Nat.le_succ _,Nat.le_refl _,fun _ _ _=>rfl⟩
theorem Fr.setRow {X:List Nat}(W:World)(g:Nat)(cs:Array Value)(h:g∈X):Fr X W (W.setRow g cs):=
 ⟨rfl,rfl,rfl,Nat.le_refl _,by simp,fun k _ ar=>setRow_other W g k cs (fun e=>ar (e ▸ h))⟩
structure Ext (A:List Nat)(W:World)(dd:List Nat)(W':World):Prop where
 size:W.heap.size≤W'.heap.size
 block:∀ k,k<W.heap.size→k ∉ A→W'.heap[k]? =W.heap[k]?
 new:∀ k∈dd,k<W.heap.size→k∈A
theorem Ext.refl (A:List Nat)(W:World):Ext A W A W:=⟨Nat.le_refl _,fun _ _ _=>rfl,fun _ h _=>h⟩
theorem Ext.trans {A B C:List Nat}{U V W:World}(h:Ext A U B V)(k:Ext B V C W):Ext A U C W:=
 ⟨Nat.le_trans h.size k.size,
  fun i au a7=>(k.block i (Nat.lt_of_lt_of_le au h.size) (fun hb=>a7 (h.new i hb au))).trans (h.block i au a7),
  fun i ai au=>h.new i (k.new i ai (Nat.lt_of_lt_of_le au h.size)) au⟩
theorem Ext.UU {A X:List Nat}{W W':World}(h:Fr X W W')(s:∀ k∈X,k∈A):Ext A W A W':=
 ⟨h.size,fun k hk a7=>h.block k hk fun ar=>a7 (s k ar),fun _ h _=>h⟩
theorem Ext.eh {A:List Nat}{W W':World}(h:Fr [] W W'):Ext A W A W':= .UU h (by simp)
theorem Ext.drop {A dd:List Nat}{W:World}(s:∀ k∈dd,k∈A):Ext A W dd W:=⟨Nat.le_refl _,fun _ _ _=>rfl,fun k h _=>s k h⟩
structure I where
 holds:List Nat→World→Value→Prop
 mono:∀ {A W dd W' v},Ext A W dd W'→holds A W v→holds dd W' v
class aj (α:Type) where
 size:Nat
 agg:Bool
 rep:List Nat→World→List Value→α→Prop
 len:∀ {A W cs x},rep A W cs x→cs.length=size
 one:∀ {A W cs x},rep A W cs x→ ∀ v∈cs,v.oneCell'=true
 flat:agg=false→size=1
 mono:∀ {A W dd W' cs x},Ext A W dd W'→rep A W cs x→rep dd W' cs x
def shaped (b:Bool)(v:Value):Prop:=if b=true then ∃ cs,v= .agg cs else v.oneCell'=true
theorem cells_one {v:Value}(h:v.oneCell'=true):v.cells= #[v]:=by cases v <;> first | rfl | simp [Value.oneCell'] at h
def I.of {α:Type}[aj α](x:α):I where
 holds A W v:=shaped (aj.agg α) v∧aj.rep A W v.cells.toList x
 mono e h:=⟨h.1,aj.mono e h.2⟩
def I.eq (u:Value):I where
 holds _ _ v:=v=u
 mono _ h:=h
def I.cond (c:Prop)(τ:I):I where
 holds A W v:=(c→τ.holds A W v)∧ (¬ c→v=undef)
 mono e h:=⟨fun ai=>τ.mono e (h.1 ai),h.2⟩
def I.any:I where
 holds _ _ _:=True
 mono _ h:=h
inductive hB (A:List Nat)(W:World):List I→List Value→Prop
 | nil:hB A W [] []
 | cons {τ v τs vs} :τ.holds A W v→hB A W τs vs→hB A W (τ::τs) (v::vs)
theorem hB.mono {A W dd W'}(e:Ext A W dd W'):∀ {τs vs},hB A W τs vs→hB dd W' τs vs
 | _,_,.nil=>.nil
 | _,_,.cons h r=>.cons (I.mono _ e h) (r.mono e)
theorem hB.length {A W} :∀ {τs vs},hB A W τs vs→vs.length=τs.length
 | _,_,.nil=>rfl
 | _,_,.cons _ r=>by simp [r.length]
def I.c4 (τs:List I):I where
 holds A W v:= ∃ vs:Array Value,v= .tuple vs∧hB A W τs vs.toList
 mono e h:=let⟨vs,bm,cB⟩:=h; ⟨vs,bm,cB.mono e⟩
def I.ptr {α:Type}[aj α](x:α):I where
 holds A W v:= ∃ b off cur T iS,v= .pointer (some ⟨b,off,none⟩)∧b ∉ A∧W.heap[b]? =some (.cells cur T iS)∧off+aj.size α≤cur.size∧aj.rep A W ((cur.toList.drop off).take (aj.size α)) x
 mono e h:=by
  obtain⟨b,off,cur,T,iS,rfl,hb,cB,hs,aI⟩:=h;have cH:b<_:=(Array.getElem?_eq_some_iff.1 cB).1;exact⟨b,off,cur,T,iS,rfl,fun hm=>hb (e.new b hm cH),by rw [e.block b cH hb];exact cB,hs,aj.mono e aI⟩
structure e3 where
 holds:List Nat→World→Obj→Prop
 o1:Prop
 mono:∀ {A W dd W' o},Ext A W dd W'→holds A W o→holds dd W' o
def e3.var {α:Type}[aj α](x:α):e3 where
 holds A W o:= ∃ cs T,o= .cells cs T (0,0)∧aj.rep A W cs.toList x
 o1:=False
 mono e h:=let⟨cs,T,bp,aI⟩:=h; ⟨cs,T,bp,aj.mono e aI⟩
def hJ {α:Type}[aj α](A:List Nat)(W:World)(cs:List Value)(xs:List α):Prop:=
 cs.length=xs.length * aj.size α∧ ∀ i (h:i<xs.length),aj.rep A W ((cs.drop (i * aj.size α)).take (aj.size α)) xs[i]
theorem hJ.mono {α:Type}[aj α]{A W dd W'}{cs:List Value}{xs:List α}(e:Ext A W dd W')(h:hJ A W cs xs):hJ dd W' cs xs:=
 ⟨h.1,fun i au=>aj.mono e (h.2 i au)⟩
def e3.row {α:Type}[aj α](T:TypeId)(xs:List α)(cap:Nat):e3 where
 holds A W o:= ∃ cs,o= .cells cs T (0,0)∧cs.size=cap * aj.size α∧xs.length≤cap∧cap≤maxLen∧hJ A W (cs.toList.take (xs.length * aj.size α)) xs
 o1:=xs= []∧cap=0
 mono e h:=let⟨cs,h1,ae,aA,aV,bc⟩:=h; ⟨cs,h1,ae,aA,aV,bc.mono e⟩
def e3.dead:e3 where
 holds _ _ _:=True
 o1:=True
 mono _ h:=h
structure aR where
 key:Option Nat
 cp:e3
def aR.ok (A:List Nat)(W:World)(e:aR):Prop:=
 match e.key with
 | some p=> ∃ o,W.heap[p]? =some o∧e.cp.holds A W o
 | none=>e.cp.o1
def aT:List aR→List Nat
 | []=>[]
 | e::r=>match e.key with
   | some p=>p::aT r
   | none=>aT r
theorem rQ {L:List aR}{k:Nat} :k∈aT L↔ ∃ e∈L,e.key=some k:=by
 induction L with
 | nil=>simp [aT]
 | cons e r cA=>
   cases hk:e.key with
   | none=>simp [aT,hk,cA]
   | some p=>simp [aT,hk,cA,eq_comm]
structure dy where
 P:Program
 n:Nat
 kA:World
 X:List Nat
 cc:List Nat
 rd:Option Nat
 ds:List Nat
def JL (D:Nat):Deferred:= { target:= .collected D,args:= #[] }
abbrev dy.F (c:dy):Fence:= { fn:=fun _=>True,depth:=none,alive:=false,round:=c.rd }
abbrev dy.wp (c:dy)(y:Code)(Q:Exit→Act→World→Prop):Act→World→Prop:=y.wpIn c.F 9 c.P Q
abbrev dy.ti (c:dy)(ops:Array Oper)(Q:Exit→Act→World→Prop):List Oper→Act→World→Prop:=wpListIn c.F 9 c.P ops Q
def look:List (Nat×I)→Nat→Option I
 | [],_=>none
 | (s,τ)::r,t=>bif Nat.beq s t then some τ else look r t
structure bN (c:dy)(E:List (Nat×I))(L:List aR)(a:Act)(W:World):Prop where
 defers:a.defers=c.ds.map JL
 size:a.tmps.size=c.n
 env:∀ t τ,look E t=some τ→ ∃ v,a.tmps[t]? =some v∧τ.holds (aT L++c.cc) W v
 eh:Fr c.X c.kA W
 own:∀ e∈L,e.ok (aT L++c.cc) W
 nodup:(aT L).Nodup
 lt:∀ k∈aT L,k<W.heap.size
 hf:∀ k∈aT L,k<c.kA.heap.size→k∈c.X
 fB:∀ k∈c.cc,k<W.heap.size∧k ∉ aT L
theorem fm {s t:Nat} :Nat.beq s t=true↔s=t:=by
 constructor
 ·exact Nat.eq_of_beq_eq_true
 rintro rfl;exact Nat.beq_refl s
theorem bN.IX {c E L a W}(h:bN c E L a W):∀ k∈aT L++c.cc,k<W.heap.size:=by
 intro k hk;rcases List.mem_append.1 hk with hk | hk
 ·exact h.lt k hk
 exact(h.fB k hk).1
theorem bN.world {c E L a W W'}(h:bN c E L a W)(f:Fr [] W W'):bN c E L a W' where
 defers:=h.defers
 size:=h.size
 env t τ ao:=let⟨v,h1,ae⟩:=h.env t τ ao; ⟨v,h1,τ.mono (.eh f) ae⟩
 eh:=h.eh.trans f.nil
 own e he:=by
  have h1:=h.own e he;unfold aR.ok at *;split at h1
  ·rename_i p hp;obtain⟨o,bp,cB⟩:=h1;have cH:=h.lt p (rQ.2 ⟨e,he,hp⟩);exact⟨o,by rw [f.block p cH (by simp)];exact bp,e3.mono _ (.eh f) cB⟩
  exact h1
 nodup:=h.nodup
 lt k hk:=Nat.lt_of_lt_of_le (h.lt k hk) f.size
 hf:=h.hf
 fB k hk:=⟨Nat.lt_of_lt_of_le (h.fB k hk).1 f.size,(h.fB k hk).2⟩
theorem bN.put {c E L a W}(h:bN c E L a W){d:Nat}(hd:d<c.n){v:Value}{τ:I}(bm:τ.holds (aT L++c.cc) W v):
 bN c ((d,τ)::E) L (a.put (some d) v) W where
 defers:=h.defers
 size:=by simp [Act.put,h.size]
 env t vQ ao:=by
  simp only [look] at ao;simp only [Act.put];by_cases e:Nat.beq d t=true
  ·rw [e] at ao;simp only [cond_true,Option.some.injEq] at ao;subst ao;have:=fm.1 e;subst this;exact⟨v,by simp [h.size,hd],bm⟩
  simp only [Bool.not_eq_true] at e;rw [e] at ao;simp only [cond_false] at ao;obtain⟨u,h1,ae⟩:=h.env t vQ ao;have dC:d≠t:=fun h=>by rw [fm.2 h] at e;cases e
  exact⟨u,by rw [Array.getElem?_setIfInBounds_ne dC];exact h1,ae⟩
 eh:=h.eh
 own:=h.own
 nodup:=h.nodup
 lt:=h.lt
 hf:=h.hf
 fB:=h.fB
theorem bN.yL {c E L a W}(s:bN c E L a W)(h:c.ds= []):a.defers= []:=by rw [s.defers,h];rfl
theorem bN.less {c E E' L a W}(h:bN c E L a W)(an:∀ t τ,look E' t=some τ→ ∃ σ,look E t=some σ∧ ∀ A W v,σ.holds A W v→τ.holds A W v):bN c E' L a W:=
 {h with env:=fun t τ ao=>let⟨_,h1,ae⟩:=an t τ ao;let⟨v,aA,aV⟩:=h.env t _ h1; ⟨v,aA,ae _ _ _ aV⟩ }
theorem bN.alloc {c E L a W}(h:bN c E L a W){o:Obj}{cp:e3}(ai:cp.holds (aT L++c.cc) W o):
 bN c E (⟨some W.heap.size,cp⟩::L) a (W.alloc o):=by
 have sf:W.heap.size ∉ aT L:=fun hm=>Nat.lt_irrefl _ (h.lt _ hm)
 have iN:Ext (aT L++c.cc) W (aT (⟨some W.heap.size,cp⟩::L)++c.cc) (W.alloc o):=
  ⟨by simp,fun k hk _=>MT W o k hk,fun k hk cH=>by
   simp only [aT,List.cons_append,List.mem_cons] at hk;rcases hk with rfl | hk
   ·exact absurd cH (Nat.lt_irrefl _)
   exact hk⟩
 exact
 {defers:=h.defers
  size:=h.size
  env:=fun t τ ao=>let⟨v,h1,ae⟩:=h.env t τ ao; ⟨v,h1,τ.mono iN ae⟩
  eh:=h.eh.trans (Fr.alloc W o)
  own:=fun e he=>by
   rcases List.mem_cons.1 he with rfl | he
   ·exact⟨o,TD W o,cp.mono iN ai⟩
   have h1:=h.own e he;unfold aR.ok at *;split at h1
   ·rename_i p hp;obtain⟨o',bp,cB⟩:=h1;exact⟨o',by rw [MT W o p (h.lt p (rQ.2 ⟨e,he,hp⟩))];exact bp,e3.mono _ iN cB⟩
   exact h1
  nodup:=by simp only [aT];exact List.nodup_cons.2 ⟨sf,h.nodup⟩
  lt:=fun k hk=>by
   simp only [aT,List.mem_cons] at hk;rw [World.size_alloc];rcases hk with rfl | hk
   ·omega
   have:=h.lt k hk;omega
  hf:=fun k hk cH=>by
   simp only [aT,List.mem_cons] at hk;rcases hk with rfl | hk
   ·have:=h.eh.size;omega
   exact h.hf k hk cH
  fB:=fun k hk=>by
   obtain⟨h1,ae⟩:=h.fB k hk;refine⟨by rw [World.size_alloc];omega,fun hm=>?_⟩;simp only [aT,List.mem_cons] at hm;rcases hm with rfl | hm
   ·omega
   exact ae hm }
theorem bN.sub {c E L L' a W}(h:bN c E L a W)(al:∀ e∈L',e∈L)(aQ:(aT L').Nodup):bN c E L' a W:=by
 have hk:∀ k∈aT L',k∈aT L:=fun k hk=>by
  obtain⟨e,he,ae⟩:=rQ.1 hk;exact rQ.2 ⟨e,al e he,ae⟩
 have iN:Ext (aT L++c.cc) W (aT L'++c.cc) W:= .drop fun k hm=>by
  rcases List.mem_append.1 hm with hm | hm
  ·exact List.mem_append.2 (.inl (hk k hm))
  exact List.mem_append.2 (.inr hm)
 exact
 {defers:=h.defers
  size:=h.size
  env:=fun t τ ao=>let⟨v,h1,ae⟩:=h.env t τ ao; ⟨v,h1,τ.mono iN ae⟩
  eh:=h.eh
  own:=fun e he=>by
   have h1:=h.own e (al e he);unfold aR.ok at *;split at h1
   ·obtain⟨o',bp,cB⟩:=h1;exact⟨o',bp,e3.mono _ iN cB⟩
   exact h1
  nodup:=aQ
  lt:=fun k hm=>h.lt k (hk k hm)
  hf:=fun k hm=>h.hf k (hk k hm)
  fB:=fun k hm=>⟨(h.fB k hm).1,fun ae=>(h.fB k hm).2 (hk k ae)⟩ }
theorem fG (L R:List aR):aT (L++R)=aT L++aT R:=by
 induction L with
 | nil=>rfl
 | cons e r cA=>cases hk:e.key <;> simp [aT,hk,cA]
theorem IY {L:List aR}{i:Nat}{e:aR}{cp:e3}(au:L[i]? =some e):aT (L.set i ⟨e.key,cp⟩)=aT L:=by
 induction L generalizing i with
 | nil=>simp at au
 | cons x r cA=>
   cases i with
   | zero=>simp only [List.getElem?_cons_zero,Option.some.injEq] at au;subst au;simp [aT]
   | succ i=>simp only [List.getElem?_cons_succ] at au;simp [aT,cA au]
theorem MU {L:List aR}(aQ:(aT L).Nodup){i j:Nat}{e f:aR}{p:Nat}(au:L[i]? =some e)(aF:L[j]? =some f)(he:e.key=some p)(aY:f.key=some p):i=j:=by
 induction L generalizing i j with
 | nil=>simp at au
 | cons x r cA=>
   have aI:(aT r).Nodup:=by
    cases ar:x.key with
    | none=>simpa [aT,ar] using aQ
    | some q=>simp only [aT,ar] at aQ;exact(List.nodup_cons.1 aQ).2
   have FE:∀ q,x.key=some q→q ∉ aT r:=fun q ar=>by simp only [aT,ar] at aQ;exact(List.nodup_cons.1 aQ).1
   cases i with
   | zero=>
     simp only [List.getElem?_cons_zero,Option.some.injEq] at au
     subst au
     cases j with
     | zero=>rfl
     | succ j=>
       simp only [List.getElem?_cons_succ] at aF
       exact absurd (rQ.2 ⟨f,List.mem_of_getElem? aF,aY⟩) (FE p he)
   | succ i=>
     simp only [List.getElem?_cons_succ] at au
     cases j with
     | zero=>
       simp only [List.getElem?_cons_zero,Option.some.injEq] at aF
       subst aF
       exact absurd (rQ.2 ⟨e,List.mem_of_getElem? au,he⟩) (FE p aY)
     | succ j=>
       simp only [List.getElem?_cons_succ] at aF
       rw [cA aI au aF]
theorem bN.store {c E L a W}(h:bN c E L a W){i p:Nat}{cp cp':e3}(au:L[i]? =some ⟨some p,cp⟩){cs fh:Array Value}{T:TypeId}
 (bp:W.heap[p]? =some (.cells cs T (0,0))) (ai:cp'.holds (aT L++c.cc) W (.cells fh T (0,0))):
 bN c E (L.set i ⟨some p,cp'⟩) a (W.setRow p fh):=by
 have iA:aT (L.set i ⟨some p,cp'⟩)=aT L:=IY (cp:=cp') au
 have hp:p∈aT L:=rQ.2 ⟨_,List.mem_of_getElem? au,rfl⟩
 have iN:Ext (aT L++c.cc) W (aT L++c.cc) (W.setRow p fh):=
  ⟨by simp,fun k _ a7=>setRow_other W p k fh (fun e=>a7 (e ▸ List.mem_append.2 (.inl hp))),fun _ h _=>h⟩
 exact
 {defers:=h.defers
  size:=h.size
  env:=fun t τ ao=>by rw [iA];exact let⟨v,h1,ae⟩:=h.env t τ ao; ⟨v,h1,τ.mono iN ae⟩
  eh:=⟨h.eh.os,h.eh.tape,h.eh.output,h.eh.drawn,by simpa using h.eh.size,fun k hk ar=>by
   rw [setRow_other W p k fh (fun e=>ar (e ▸ h.hf p hp (e ▸ hk)))];exact h.eh.block k hk ar⟩
  own:=fun e he=>by
   rw [iA];obtain⟨j,aF⟩:=List.mem_iff_getElem?.1 he;rw [List.getElem?_set] at aF;split at aF
   ·rename_i gr;subst gr;split at aF
    ·simp only [Option.some.injEq] at aF;subst aF;exact⟨_,setRow_heap W p cs fh T (0,0) bp,cp'.mono iN ai⟩
    cases aF
   rename_i gr;have h1:=h.own e (List.mem_of_getElem? aF);unfold aR.ok at *;split at h1
   ·rename_i q hq;obtain⟨o',vR,cB⟩:=h1;have dC:q≠p:=fun e'=>gr (MU h.nodup au aF rfl (e' ▸ hq));exact⟨o',by rw [setRow_other W p q fh dC];exact vR,e3.mono _ iN cB⟩
   exact h1
  nodup:=by rw [iA];exact h.nodup
  lt:=by rw [iA];simpa using h.lt
  hf:=by rw [iA];exact h.hf
  fB:=by rw [iA];simpa using h.fB }
abbrev aj.scalar {α:Type}(val:α→Value)(h:∀ x,(val x).oneCell'=true):aj α where
 size:=1
 agg:=false
 rep _ _ cs x:=cs= [val x]
 len h:=by rw [h];rfl
 one aI:=by subst aI;intro v bm;rw [List.mem_singleton.1 bm];exact h _
 flat _:=rfl
 mono _ h:=h
instance:aj Bool:= .scalar Value.bool fun _=>rfl
instance:aj Int:= .scalar (Value.int .i64) fun _=>rfl
instance:aj (BitVec 64):= .scalar (fun x=>Value.int .u64 (x.toNat:Int)) fun _=>rfl
instance:aj (BitVec 32):= .scalar (fun x=>Value.int .u32 (x.toNat:Int)) fun _=>rfl
instance:aj (BitVec 16):= .scalar (fun x=>Value.int .u16 (x.toNat:Int)) fun _=>rfl
instance:aj (BitVec 8):= .scalar (fun x=>Value.int .u8 (x.toNat:Int)) fun _=>rfl
instance:aj ByteArray:= .scalar Value.string fun _=>rfl
theorem oR {v u:Value}(h:v.oneCell'=true)(e:v.cells.toList= [u]):v=u:=by
 rw [cells_one h] at e;simpa using e
theorem of_bool {A W v}{b:Bool} :(I.of b).holds A W v↔v= .bool b:=
 ⟨fun h=>oR h.1 h.2,fun h=>by subst h;exact⟨rfl,rfl⟩⟩
theorem of_int {A W v}{x:Int} :(I.of x).holds A W v↔v= .int .i64 x:=
 ⟨fun h=>oR h.1 h.2,fun h=>by subst h;exact⟨rfl,rfl⟩⟩
theorem ir {A W v}{x:BitVec 64} :(I.of x).holds A W v↔v= .int .u64 (x.toNat:Int):=
 ⟨fun h=>oR h.1 h.2,fun h=>by subst h;exact⟨rfl,rfl⟩⟩
theorem afK {A W v}{x:BitVec 8} :(I.of x).holds A W v↔v= .int .u8 (x.toNat:Int):=
 ⟨fun h=>oR h.1 h.2,fun h=>by subst h;exact⟨rfl,rfl⟩⟩
theorem adv {A W v}{x:ByteArray} :(I.of x).holds A W v↔v= .string x:=
 ⟨fun h=>oR h.1 h.2,fun h=>by subst h;exact⟨rfl,rfl⟩⟩
def bn (c:dy)(E:List (Nat×I))(L:List aR)(x:Operand)(τ:I):Prop:= ∀ a W,bN c E L a W→τ.holds (aT L++c.cc) W (a.eval x)
section
variable {c:dy} {E:List (Nat×I)} {L:List aR}
theorem aa {t:Nat}{τ:I}(h:look E t=some τ):bn c E L (.tmp t) τ:=fun a W s=>by
 obtain⟨v,h1,ae⟩:=s.env t τ h;have:a.eval (.tmp t)=v:=by simp [Act.eval,h1]
 rw [this];exact ae
theorem cw {t:Nat}{τ:I}{p:Prop}(h:look E t=some (.cond p τ))(hp:p):bn c E L (.tmp t) τ:=fun a W s=>(aa h a W s).1 hp
theorem IN (v:Value):bn c E L (.const v) (.eq v):=fun _ _ _=>rfl
theorem bS (k:Int):bn c E L (.const (.int .i64 k)) (.of k):=fun _ _ _=>of_int.2 rfl
theorem hh (b:Bool):bn c E L (.const (.bool b)) (.of b):=fun _ _ _=>of_bool.2 rfl
theorem iJ (x:BitVec 64){k:Int}(h:(x.toNat:Int)=k):bn c E L (.const (.int .u64 k)) (.of x):=fun _ _ _=>ir.2 (by rw [h];rfl)
theorem ey (s:ByteArray):bn c E L (.const (.string s)) (.of s):=fun _ _ _=>adv.2 rfl
def hK (P:Program)(o:Oper)(a:Act)(W:World)(R:Value→World→Prop):Prop:=
 o.wp P a W (fun hx W'=> ∃ v,hx=a.put o.dst v∧R v W') (fun _ _ _=>False)
theorem CallsIn.Mm {rd:Option Nat}{n:Nat}{P:Program}{f:FuncId}{args:Array Value}{w:World}{R:Ending→World→Prop}
 (h:Calls P f args w R):CallsIn { fn:=fun _=>True,depth:=none,alive:=false,round:=rd } n P f args w R:=
 (callsIn_wide (n:=n)).2 h
theorem RowsIn.adw {rd:Option Nat}{n:Nat}{P:Program}{row:String}{args:Array Value}{w:World}{R:Value→World→Prop}
 (h:Rows P row args w R):RowsIn { fn:=fun _=>True,depth:=none,alive:=false,round:=rd } n P row args w R:=
 fun c cs _=>let⟨v,qB,r,s⟩:=h c cs; ⟨v,qB,r,stepsIn_wide.2 s⟩
theorem hK.wp {P:Program}{o:Oper}{a:Act}{W:World}{R:Value→World→Prop}{next:Act→World→Prop}{Q:Exit→Act→World→Prop}
 (h:hK P o a W R) (hk:∀ v W',R v W'→next (a.put o.dst v) W'):o.wp P a W next Q:=by
 unfold hK Oper.wp at *
 generalize (execOp a.eval o).run P W=r at *
 cases r with
 | ok n W'=>
   cases n <;> simp only [Oper.upon] at h ⊢
   case value v=>obtain⟨u,h1,ae⟩:=h;rw [h1];exact hk _ _ ae
   case skip=>obtain⟨u,h1,ae⟩:=h;rw [h1];exact hk _ _ ae
   case defer d=>obtain⟨u,h1,ae⟩:=h;rw [h1];exact hk _ _ ae
   case enter f args=>
    refine h.mono fun e xQ he=>?_
    cases e with
    | returned v=>obtain⟨u,h1,ae⟩:=he;simp only at h1 ⊢;rw [h1];exact hk _ _ ae
    | panicked l3=>exact he.elim
    | outgrown=>obtain⟨_,_,h1⟩:=he;exact h1.elim
   case row row args=>exact h.mono fun v xQ ⟨u,h1,ae⟩=>by rw [h1];exact hk _ _ ae
 | halt x W'=>cases x <;> simp only [Oper.upon] at h
theorem hK.abp {P:Program}{o:Oper}{a:Act}{W:World}{R:Value→World→Prop}(h:hK P o a W R):∀ c,o.op≠ .defer c:=by
 intro c bp;unfold hK Oper.wp execOp at h;rw [bp] at h;simp only [Sem.run_bind] at h;generalize (resolve a.eval c o.type).run P W=r at h;cases r with
 | ok d W'=>
   simp only [Result.andThen,Sem.run_pure,Oper.upon] at h
   obtain⟨v,h1,_⟩:=h
   have:=congrArg Act.defers h1
   cases hd:o.dst <;> simp [Act.put,hd] at this
 | halt x W'=>cases x <;> simp only [Result.andThen,Oper.upon] at h
theorem hK.wpIn {c:dy}{n:Nat}{o:Oper}{a:Act}{W:World}{R:Value→World→Prop}{next:Act→World→Prop}{Q:Exit→Act→World→Prop}
 (h:hK c.P o a W R) (hk:∀ v W',R v W'→next (a.put o.dst v) W'):o.wpIn c.F n c.P a W next Q:=by
 refine⟨fun _ _=>trivial,?_⟩
 rw [Oper.semAt_eq _ _ _ h.abp]
 unfold hK Oper.wp at h
 generalize (execOp a.eval o).run c.P W=r at *
 cases r with
 | ok m W'=>
   cases m <;> simp only [Oper.upon,Oper.uponIn] at h ⊢
   case value v=>obtain⟨u,h1,ae⟩:=h;rw [h1];exact hk _ _ ae
   case skip=>obtain⟨u,h1,ae⟩:=h;rw [h1];exact hk _ _ ae
   case defer d=>obtain⟨u,h1,ae⟩:=h;rw [h1];exact hk _ _ ae
   case enter f args=>
    refine⟨fun h=>by simp at h,CallsIn.Mm ?_⟩
    refine h.mono fun e xQ he=>?_
    cases e with
    | returned v=>obtain⟨u,h1,ae⟩:=he;simp only at h1 ⊢;rw [h1];exact hk _ _ ae
    | panicked l3=>exact he.elim
    | outgrown=>obtain⟨_,_,h1⟩:=he;exact h1.elim
   case row row args=>
    refine⟨fun h=>by simp at h,RowsIn.adw ?_⟩
    exact h.mono fun v xQ ⟨u,h1,ae⟩=>by rw [h1];exact hk _ _ ae
 | halt x W'=>cases x <;> simp only [Oper.upon] at h
theorem HR {F:Fence}{n:Nat}{P:Program}{md:Region.Mode}{ops:Array Oper}{wj:Exit→Act→World→Prop} :∀ (l:List Oper) (k:Nat) (bD:Array Bool) (a:Act) (w:World),(∀ j,l[j]? =ops[k+j]?)→
 Region.seqB md ops l.length k bD=true→wpListIn F n P ops wj l a w→wpAnyIn F n P md ops wj l.length bD a w
 | [],_,_,_,_,_,jF,h=>⟨by simpa [Region.seqB] using jF,h⟩
 | o::l,k,bD,a,w,ao,jF,h=>by
   have bH:ops[k]? =some o:=by simpa using (ao 0).symm
   simp only [List.length_cons,Region.seqB,Bool.and_eq_true,decide_eq_true_eq] at jF;refine⟨fun h1=>(by rw [jF.1] at h1;cases h1),fun i au=>?_⟩;rw [jF.1] at au;have vS:i=k:=by simpa using au
   subst vS;have hw:wpOpIn F n P ops wj i (wpListIn F n P ops wj l) a w:=by unfold wpOpIn;simp only [bH];exact h
   exact wpOpIn_mono (fun hx qB dc=>HR l (i+1) _ hx qB (fun j=>by have:=ao (j+1);simpa [Nat.add_assoc,Nat.add_comm 1 j] using this) jF.2 dc) hw
theorem hK.mL {P:Program}{o:Oper}{a:Act}{W W':World}{R:Value→World→Prop}{v:Value}
 (h:(execOp a.eval o).run P W= .ok (.value v) W') (aI:R v W'):hK P o a W R:=by
 unfold hK Oper.wp
 rw [h]
 exact⟨v,rfl,aI⟩
theorem hK.BC {P:Program}{o:Oper}{a:Act}{W W':World}{R:Value→World→Prop}
 (h:(execOp a.eval o).run P W= .ok .skip W') (aI:R undef W'):hK P o a W R:=by
 unfold hK Oper.wp
 rw [h]
 exact⟨undef,rfl,aI⟩
theorem hK.wX {P:Program}{o:Oper}{a:Act}{W W':World}{R:Value→World→Prop}{f:FuncId}{args:Array Value}
 (h:(execOp a.eval o).run P W= .ok (.enter f args) W') (aI:Calls P f args W' fun e xQ=> ∃ v,e= .returned v∧R v xQ):hK P o a W R:=by
 unfold hK Oper.wp
 rw [h]
 exact aI.mono fun e xQ ⟨v,he,ae⟩=>by subst he;exact⟨v,rfl,ae⟩
def b6 (c:dy)(E:List (Nat×I))(L:List aR)(o:Oper)(τ:I):Prop:=
 ∀ a W,bN c E L a W→hK c.P o a W fun v W'=>Fr [] W W'∧τ.holds (aT L++c.cc) W' v
theorem b6.pure {o:Oper}{τ:I}(h:∀ a W,bN c E L a W→ ∃ v,(execOp a.eval o).run c.P W= .ok (.value v) W∧τ.holds (aT L++c.cc) W v):b6 c E L o τ:=
 fun a W s=>let⟨_,h1,ae⟩:=h a W s; .mL h1 ⟨.refl _ _,ae⟩
variable {ops:Array Oper} {Q:Exit→Act→World→Prop}
def ab (c:dy)(ops:Array Oper)(Q:Exit→Act→World→Prop)(l:List Oper)(E:List (Nat×I))(L:List aR):Prop:=
 ∀ a W,bN c E L a W→c.ti ops Q l a W
def ad (c:dy)(Q:Exit→Act→World→Prop)(x:Exit)(E:List (Nat×I))(L:List aR):Prop:= ∀ a W,bN c E L a W→Q x a W
theorem ab.nil (h:ad c Q .normal E L):ab c ops Q [] E L:=fun a W s=>wpListIn_nil (h a W s)
theorem jl {c:dy}{o:Oper}{rest:List Oper}{a:Act}{W:World}(bO:o.guard=none){R:Value→World→Prop}(h:hK c.P o a W R)
 (hk:∀ v W',R v W'→c.ti ops Q rest (a.put o.dst v) W'):c.ti ops Q (o::rest) a W:=
 wpListIn_plain bO fun _ wk=>h.wpIn fun v W' aI=>wk _ _ (hk v W' aI)
theorem ab.v {o:Oper}{rest:List Oper}{d:Nat}{τ:I}(h:b6 c E L o τ)(bO:o.guard=none)(hd:o.dst=some d)(aQ:Nat.blt d c.n=true)
 (k:ab c ops Q rest ((d,τ)::E) L):ab c ops Q (o::rest) E L:=fun a W s=>
 jl bO (h a W s) fun v W' ⟨f,bm⟩=>by
  rw [hd];exact k _ _ ((s.world f).put (by simpa using aQ) bm)
theorem H7 {j g:Nat}{b:Bool}(aF:(ops[j]?).bind (·.dst)=some g)(ao:look E g=some (.of b)){a:Act}{W:World}(s:bN c E L a W):
 yielded ops a.tmps j=some b:=by
 obtain⟨v,h1,ae⟩:=s.env g _ ao
 unfold yielded
 rw [aF]
 simp only [Option.bind_some,h1,of_bool.1 ae]
theorem ab.g {o:Oper}{rest:List Oper}{d j g:Nat}{b want:Bool}{τ:I}(h:b=want→b6 c E L o τ)(bO:o.guard=some (j,want))(aF:(ops[j]?).bind (·.dst)=some g)
 (ao:look E g=some (.of b)) (hd:o.dst=some d) (aQ:Nat.blt d c.n=true)
 (k:ab c ops Q rest ((d,.cond (b=want) τ)::E) L):ab c ops Q (o::rest) E L:=fun a W s=>by
 have a1:=H7 aF ao s
 unfold dy.ti wpListIn
 by_cases hb:b=want
 ·rw [if_pos (by simp [Region.wanted,bO,a1,hb])]
  refine((h hb a W s).wpIn fun v W' ⟨f,bm⟩=>?_)
  rw [hd]
  exact k _ _ ((s.world f).put (by simpa using aQ) ⟨fun _=>bm,fun h=>absurd hb h⟩)
 rw [if_neg (by simp [Region.wanted,bO,a1,hb])]
 rw [hd]
 exact⟨fun _ _=>trivial,k _ _ (s.put (by simpa using aQ) ⟨fun h=>absurd h hb,fun _=>rfl⟩)⟩
theorem QT {j g:Nat}{p:Prop}{b:Bool}(aF:(ops[j]?).bind (·.dst)=some g)(ao:look E g=some (.cond p (.of b))){a:Act}{W:World}(s:bN c E L a W):
 (p→yielded ops a.tmps j=some b)∧ (¬ p→yielded ops a.tmps j=none):=by
 obtain⟨v,h1,ae,aA⟩:=s.env g _ ao
 unfold yielded
 rw [aF]
 simp only [Option.bind_some,h1]
 exact⟨fun hp=>by simp only [of_bool.1 (ae hp)],fun hp=>by simp only [aA hp];rfl⟩
theorem ab.gg {o:Oper}{rest:List Oper}{d j g:Nat}{p:Prop}{b want:Bool}{τ:I}(h:p∧b=want→b6 c E L o τ)(bO:o.guard=some (j,want))(aF:(ops[j]?).bind (·.dst)=some g)
 (ao:look E g=some (.cond p (.of b))) (hd:o.dst=some d) (aQ:Nat.blt d c.n=true)
 (k:ab c ops Q rest ((d,.cond (p∧b=want) τ)::E) L):ab c ops Q (o::rest) E L:=fun a W s=>by
 have a1:=QT aF ao s
 unfold dy.ti wpListIn
 by_cases hb:p∧b=want
 ·rw [if_pos (by simp [Region.wanted,bO,a1.1 hb.1,hb.2])]
  refine((h hb a W s).wpIn fun v W' ⟨f,bm⟩=>?_)
  rw [hd]
  exact k _ _ ((s.world f).put (by simpa using aQ) ⟨fun _=>bm,fun h=>absurd hb h⟩)
 have hw:Region.wanted o (yielded ops a.tmps)=false:=by
  by_cases hp:p
  ·have: ¬ (b=want):=fun h=>hb ⟨hp,h⟩;simp [Region.wanted,bO,a1.1 hp,this]
  simp [Region.wanted,bO,a1.2 hp]
 rw [if_neg (by simp [hw])]
 refine⟨fun _ _=>trivial,?_⟩
 rw [hd]
 exact k _ _ (s.put (by simpa using aQ) ⟨fun h=>absurd h hb,fun _=>rfl⟩)
inductive gO (E:List (Nat×I)):List (Nat×I)→Prop
 | nil:gO E []
 | cons {t τ σ r} :look E t=some σ→ (∀ A W v,σ.holds A W v→τ.holds A W v)→gO E r→gO E ((t,τ)::r)
theorem gO.same {t:Nat}{τ:I}{r:List (Nat×I)}(h:look E t=some τ)(k:gO E r):gO E ((t,τ)::r):= .cons h (fun _ _ _ h=>h) k
theorem gO.all {r:List (Nat×I)}(h:gO E r:=by repeat (first | exact gO.nil | refine gO.same rfl ?_)):gO E r:=h
theorem gO.look:∀ {E':List (Nat×I)},gO E E'→ ∀ t τ,Gv.look E' t=some τ→ ∃ σ,Gv.look E t=some σ∧ ∀ A W v,σ.holds A W v→τ.holds A W v
 | _,.nil,t,τ,h=>by simp [Gv.look] at h
 | _,.cons (t:=s) (σ:=σ) h1 ae r,t,τ,h=>by
   simp only [Gv.look] at h;by_cases e:Nat.beq s t=true
   ·rw [e] at h;simp only [cond_true,Option.some.injEq] at h;subst h;rw [fm.1 e] at h1;exact⟨σ,h1,ae⟩
   simp only [Bool.not_eq_true] at e;rw [e] at h;exact r.look t τ h
theorem ad.le {x:Exit}{E':List (Nat×I)}(h:gO E E')(k:ad c Q x E' L):ad c Q x E L:=fun a W s=>k a W (s.less h.look)
theorem ab.le {l:List Oper}{E':List (Nat×I)}(h:gO E E')(k:ab c ops Q l E' L):ab c ops Q l E L:=fun a W s=>k a W (s.less h.look)
def ag (c:dy)(Q:Exit→Act→World→Prop)(code:Code)(E:List (Nat×I))(L:List aR):Prop:= ∀ a W,bN c E L a W→c.wp code Q a W
theorem ag.le {code:Code}{E':List (Nat×I)}(h:gO E E')(k:ag c Q code E' L):ag c Q code E L:=fun a W s=>k a W (s.less h.look)
theorem ag.ct {id:Nat}{l:List Oper}(h:ab c l.toArray Q l E L):ag c Q (.region id l.toArray false) E L:=fun a W s=>wpIn_region_lit (h a W s)
theorem ag.seq {x y:Code}(h:ag c (Exit.then (c.wp y Q) Q) x E L):ag c Q (.seq x y) E L:=fun a W s=>wpIn_seq (h a W s)
theorem ad.next {y:Code}(h:ag c Q y E L):ad c (Exit.then (c.wp y Q) Q) .normal E L:=fun a W s=>h a W s
theorem ad.exit {y:Act→World→Prop}{id:Nat}(h:ad c Q (.exit id) E L):ad c (Exit.then y Q) (.exit id) E L:=fun a W s=>h a W s
theorem ad.ret {y:Act→World→Prop}(h:ad c Q .ret E L):ad c (Exit.then y Q) .ret E L:=fun a W s=>h a W s
theorem ag.block {id:Nat}{x:Code}(h:ag c (Exit.inBlock id Q) x E L):ag c Q (.block id x) E L:=fun a W s=>wpIn_block (h a W s)
theorem ad.ek {id:Nat}(h:ad c Q .normal E L):ad c (Exit.inBlock id Q) .normal E L:=fun a W s=>h a W s
theorem ad.fA {id:Nat}(h:ad c Q .normal E L):ad c (Exit.inBlock id Q) (.exit id) E L:=fun a W s=>by
 show(if id=id then Q .normal a W else Q (.exit id) a W);rw [if_pos rfl];exact h a W s
theorem ad.Tt {id F4:Nat}(dC:Nat.beq F4 id=false)(h:ad c Q (.exit F4) E L):ad c (Exit.inBlock id Q) (.exit F4) E L:=fun a W s=>by
 show(if F4=id then Q .normal a W else Q (.exit F4) a W);rw [if_neg (fun e=>by rw [e,Nat.beq_refl] at dC;cases dC)];exact h a W s
theorem ad.et {id:Nat}(h:ad c Q .ret E L):ad c (Exit.inBlock id Q) .ret E L:=fun a W s=>h a W s
theorem ag.skip (h:ad c Q .normal E L):ag c Q .skip E L:=fun a W s=>wpIn_skip (h a W s)
theorem ag.exit {id:Nat}(h:ad c Q (.exit id) E L):ag c Q (.exit id) E L:=fun a W s=>wpIn_exit (h a W s)
theorem ag.ret (h:ad c Q .ret E L):ag c Q .ret E L:=fun a W s=>wpIn_ret (h a W s)
theorem ag.cond {x:Operand}{b:Bool}{y z:Code}(ao:bn c E L x (.of b))(bP:b=true→ag c Q y E L)(aY:b=false→ag c Q z E L):ag c Q (.cond x y z) E L:=
 fun a W s=>wpIn_cond_split (of_bool.1 (ao a W s)) (fun h=>bP h a W s) (fun h=>aY h a W s)
def eI {σ ε:Type} :Nat→ (σ→Option (σ ⊕ ε))→σ→Option ε
 | 0,_,_=>none
 | n+1,b,s=>match b s with
   | none=>none
   | some (.inl cD)=>eI n b cD
   | some (.inr e)=>some e
def aj9 {σ ε:Type}(c:dy)(E:σ→List (Nat×I))(L:σ→List aR)(xs:ε→Exit)(hy:ε→List (Nat×I))(Lx:ε→List aR):σ ⊕ ε→Exit→Act→World→Prop
 | .inl s,x,a,W=>x= .normal∧bN c (E s) (L s) a W
 | .inr e,x,a,W=>x≠ .normal∧x=xs e∧bN c (hy e) (Lx e) a W
theorem ad.round {σ ε:Type}{E':σ→List (Nat×I)}{L':σ→List aR}{xs:ε→Exit}{hy:ε→List (Nat×I)}{Lx:ε→List aR}{s:σ}
 (h:∀ a W,bN c E L a W→bN c (E' s) (L' s) a W):ad c (aj9 c E' L' xs hy Lx (.inl s)) .normal E L:=fun a W st=>⟨rfl,h a W st⟩
theorem aaB {F:Fence}{n:Nat}{P:Program}{body:Code}{σ ε:Type}(b:σ→Option (σ ⊕ ε))(fS:σ→Act→World→Prop)(X:ε→Exit→Act→World→Prop)
 (tS:∀ s r,b s=some r→ ∀ a W,fS s a W→body.wpIn F n P (fun x a W=>match r with | .inl cD=>x= .normal∧fS cD a W | .inr e=>x≠ .normal∧X e x a W) a W)
 (Q:Exit→Act→World→Prop) (e:ε) (sU:∀ x a W,X e x a W→Q x a W) {cT:σ} {N:Nat} (ao:eI N b cT=some e) {a0:Act} {kA:World} (bH:fS cT a0 kA):
 (Code.loop body).wpIn F n P Q a0 kA:=by
 intro eh k cs kG hb aI
 have key:∀ N s,eI N b s=some e→ ∀ a W,fS s a W→
  ∃ x hx W',Q x hx W'∧ArrivesIn (Machine.fenced P F) P (lone (eh.atR a (.code body::.inLoop body::k)) cs W) eh k cs x hx W':=by
  intro N
  induction N with
  | zero=>intro s h;simp [eI] at h
  | succ N cA=>
    intro s h a W nC
    simp only [eI] at h
    split at h
    ·cases h
    ·rename_i cD hs
     obtain⟨x,sg,Cj,hq,oy⟩:=tS s _ hs a W nC eh (.inLoop body::k) cs kG hb aI
     obtain⟨ar,OG⟩:=hq
     subst ar
     obtain⟨Ob,Oc,Od,NI,Mn⟩:=cA cD h sg Cj OG
     exact⟨Ob,Oc,Od,NI,.of_steps (StepsIn.trans oy (.one (fenced_calm hb aI rfl) stepR_inLoop)) Mn⟩
    rename_i e' hs
    simp only [Option.some.injEq] at h
    subst h
    obtain⟨x,sg,Cj,hq,oy⟩:=tS s _ hs a W nC eh (.inLoop body::k) cs kG hb aI
    obtain⟨ar,nD⟩:=hq
    exact⟨x,sg,Cj,sU _ _ _ nD,.pass (x:= .inLoop body) rfl (fun _ _=>.inl ar) oy⟩
 obtain⟨x,hx,W',hq,oy⟩:=key N cT ao a0 kA bH
 exact⟨x,hx,W',hq,.of_steps (.one (fenced_calm hb aI rfl) stepR_loop) oy⟩
def b2 (P:Program)(f:FuncId)(τs:List I)(ρ:I):Prop:=
 ∀ (A:List Nat) (W:World) (vs:List Value),(∀ k∈A,k<W.heap.size)→hB A W τs vs→
   Calls P f vs.toArray W fun e W'=> ∃ v,e= .returned v∧Fr [] W W'∧ρ.holds A W' v
def params:Nat→List I→List (Nat×I)
 | _,[]=>[]
 | k,τ::r=>(k,τ)::params (k+1) r
theorem Bk {A:List Nat}{W:World}{τs:List I}{vs:List Value}(h:hB A W τs vs):∀ (k t:Nat) (τ:I),look (params k τs) t=some τ→k≤t∧ ∃ v,vs[t - k]? =some v∧τ.holds A W v:=by
 induction h with
 | nil=>intro k t τ h;simp [params,look] at h
 | cons h1 r cA=>
   intro k t τ ao
   simp only [params,look] at ao
   by_cases e:Nat.beq k t=true
   ·rw [e] at ao
    simp only [cond_true,Option.some.injEq] at ao
    subst ao
    rw [fm.1 e]
    exact⟨Nat.le_refl _,_,by simp,h1⟩
   simp only [Bool.not_eq_true] at e
   rw [e] at ao
   have dC:k≠t:=fun h=>by rw [fm.2 h] at e;cases e
   obtain⟨ae,v,aA,aV⟩:=cA (k+1) t τ ao
   refine⟨by omega,v,?_,aV⟩
   rw [show t - k=(t - (k+1))+1 by omega,List.getElem?_cons_succ]
   exact aA
theorem b2.enter {P:Program}{f:FuncId}{fn:Func}{code:Code}{n:Nat}{τs:List I}{ρ:I}(aY:P.funcs[f]? =some fn)(hb:fn.body=some code)(aQ:fn.ntmps=n)(hlen:Nat.ble τs.length n=true)
 (h:∀ W A,ag ⟨P,n,W,[],A,none,[]⟩ (bodyPost P fn fun e W'=> ∃ v,e= .returned v∧Fr [] W W'∧ρ.holds A W' v) code (params 0 τs) []):b2 P f τs ρ:=by
 intro A W vs fT bm
 refine calls_of_wp aY hb (wpIn_wide.1 (h W A _ _ ?_))
 have ao:=bm.length
 have hle:τs.length≤n:=Nat.le_of_ble_eq_true hlen
 exact
 {defers:=rfl
  size:=by simp [aQ,ao];omega
  env:=fun t τ lW=>by
   obtain⟨_,v,ae,aA⟩:=Bk bm 0 t τ lW;refine⟨v,?_,aA⟩;have cH:t<vs.length:=(List.getElem?_eq_some_iff.1 ae).1;rw [Array.getElem?_append_left (by simpa using cH)];simpa using ae
  eh:= .refl _ _
  own:=by simp
  nodup:=by simp [aT]
  lt:=by simp [aT]
  hf:=by simp [aT]
  fB:=fun k hk=>⟨fT k hk,by simp [aT]⟩ }
theorem Q8 {ρ:I}{A B:List Nat}{W:World}{v:Value}(h:ρ.holds (B++A) W v):ρ.holds A W v:=ρ.mono (.drop fun _ h=>List.mem_append.2 (.inr h)) h
end
section
variable {c:dy} {E:List (Nat×I)} {L:List aR} {ops:Array Oper} {Q:Exit→Act→World→Prop}
def jE (c:dy)(ops:Array Oper)(E:List (Nat×I))(L:List aR)(o:Oper)(τ:I):Prop:=
 ∀ a W,bN c E L a W→
   (Region.wanted o (yielded ops a.tmps)=true→hK c.P o a W fun v W'=>Fr [] W W'∧τ.holds (aT L++c.cc) W' v)∧
   (Region.wanted o (yielded ops a.tmps)=false→τ.holds (aT L++c.cc) W undef)
theorem jE.v {o:Oper}{τ:I}(h:b6 c E L o τ)(bO:o.guard=none):jE c ops E L o τ:=fun a W s=>
 ⟨fun _=>h a W s,fun hw=>by simp [Region.wanted,bO] at hw⟩
theorem jE.g {o:Oper}{j g:Nat}{b want:Bool}{τ:I}(h:b=want→b6 c E L o τ)(bO:o.guard=some (j,want))(aF:(ops[j]?).bind (·.dst)=some g)(ao:look E g=some (.of b)):
 jE c ops E L o (.cond (b=want) τ):=fun a W s=>by
 have a1:=H7 aF ao s
 constructor
 ·intro hw
  have hb:b=want:=by simpa [Region.wanted,bO,a1] using hw
  refine hK.wp (h hb a W s) fun v W' ⟨f,bm⟩=>⟨v,rfl,f,fun _=>bm,fun h=>absurd hb h⟩
 intro hw
 exact⟨fun hb=>by simp [Region.wanted,bO,a1,hb] at hw,fun _=>rfl⟩
theorem jE.gg {o:Oper}{j g:Nat}{p:Prop}{b want:Bool}{τ:I}(h:p∧b=want→b6 c E L o τ)(bO:o.guard=some (j,want))(aF:(ops[j]?).bind (·.dst)=some g)(ao:look E g=some (.cond p (.of b))):
 jE c ops E L o (.cond (p∧b=want) τ):=fun a W s=>by
 have a1:=QT aF ao s
 have Cy:Region.wanted o (yielded ops a.tmps)=true→p∧b=want:=by
  intro hw;by_cases hp:p
  ·exact⟨hp,by simpa [Region.wanted,bO,a1.1 hp] using hw⟩
  simp [Region.wanted,bO,a1.2 hp] at hw
 constructor
 ·intro hw
  refine hK.wp (h (Cy hw) a W s) fun v W' ⟨f,bm⟩=>⟨v,rfl,f,fun _=>bm,fun h=>absurd (Cy hw) h⟩
 intro hw
 exact⟨fun hb=>by simp [Region.wanted,bO,a1.1 hb.1,hb.2] at hw,fun _=>rfl⟩
inductive tv
 | val (τ:I)
 | new (cp:e3)
 | lv (i:Nat) (cp:e3)
 | OH (j:Nat) (cp:e3)
def tv.afL:tv→Bool
 | .lv _ _ | .OH _ _=>true
 | _=>false
def tv.WY (p:Nat):tv→Option I
 | .val τ=>some τ
 | .new _=>some (.eq (.pointer (some ⟨p,0,none⟩)))
 | _=>none
def he (fi:Nat→Nat)(ox:List (Option Nat))(hs:List tv)(E:List (Nat×I)):List Nat→List (Nat×I)
 | []=>E
 | j::r=>match ox[j]?,hs[j]? with
   | some (some s),some h=>match h.WY (fi j) with
     | some τ=>(s,τ)::he fi ox hs E r
     | none=>he fi ox hs E r
   | _,_=>he fi ox hs E r
def UW:List aR→Nat→e3→List aR
 | [],_,_=>[]
 | e::r,0,cp=>⟨e.key,cp⟩::r
 | e::r,i+1,cp=>e::UW r i cp
def J4 (L:List aR):List tv→List aR
 | []=>L
 | .lv i cp::r=>J4 (UW L i cp) r
 | _::r=>J4 L r
def Oe (j:Nat)(cp:e3):List tv→e3
 | []=>cp
 | .OH i cp'::r=>Oe j (bif Nat.beq i j then cp' else cp) r
 | _::r=>Oe j cp r
def vo (w:Nat→Bool)(i:Nat):Nat→List tv→Bool
 | _,[]=>true
 | k,.lv j _::r=>(!(Nat.beq j i)||w k)&&vo w i (k+1) r
 | k,.val _::r=>vo w i (k+1) r
 | k,.new _::r=>vo w i (k+1) r
 | k,.OH _ _::r=>vo w i (k+1) r
theorem TE (f g:Nat→Bool)(i:Nat)(aY:f i=true)(bO:g i=false)(h:∀ j,g j=true→f j=true):∀ n,i<n→ ((List.range n).filter g).length<((List.range n).filter f).length:=by
 have le:∀ n,((List.range n).filter g).length≤ ((List.range n).filter f).length:=by
  intro n;induction n with
  | zero=>simp
  | succ n cA=>
    rw [List.range_succ,List.filter_append,List.filter_append,List.length_append,List.length_append]
    have:([n].filter g).length≤ ([n].filter f).length:=by
     cases zK:g n with
     | false=>simp [zK]
     | true=>simp [zK,h n zK]
    omega
 intro n;induction n with
 | zero=>omega
 | succ n cA=>
   intro cH
   rw [List.range_succ,List.filter_append,List.filter_append,List.length_append,List.length_append]
   by_cases e:i=n
   ·subst e
    have:=le i
    simp [aY,bO]
    omega
   have h1:=cA (by omega)
   have:([n].filter g).length≤ ([n].filter f).length:=by
    cases zK:g n with
    | false=>simp [zK]
    | true=>simp [zK,h n zK]
   omega
theorem Q9 {n:Nat}{bD:Array Bool}(inv:HeadInv .any ops n bD)(aQ:n≤ops.size)(pA:∀ i,i<n→bD.getD i true=true):
 bD=(List.range n).foldl (fun l i=>l.setIfInBounds i true) (Array.replicate ops.size false):=by
 have key:∀ m,m≤ops.size→ ((List.range m).foldl (fun l i=>l.setIfInBounds i true) (Array.replicate ops.size false)).size=ops.size∧
  ∀ j (d:Bool),j<ops.size→ ((List.range m).foldl (fun l i=>l.setIfInBounds i true) (Array.replicate ops.size false)).getD j d=decide (j<m):=by
  intro m
  induction m with
  | zero=>intro _;exact⟨by simp,fun j d aF=>by simp [aF]⟩
  | succ m cA=>
    intro hm
    obtain⟨h1,ae⟩:=cA (by omega)
    rw [List.range_succ,List.foldl_append]
    simp only [List.foldl_cons,List.foldl_nil]
    refine⟨by simpa using h1,fun j d aF=>?_⟩
    by_cases e:m=j
    ·subst e
     simp [h1,aF]
    rw [getD_set_ne d e,ae j d aF]
    by_cases aA:j<m
    ·simp [aA];omega
    simp [aA];omega
 obtain⟨h1,ae⟩:=key n aQ
 apply Array.ext
 ·rw [inv.size,h1]
 intro i Wj aiB
 have au:i<ops.size:=by rw [← inv.size];exact Wj
 have aA:=ae i true au
 have av:bD.getD i true=bD[i]:=by simp [Wj]
 have aX:((List.range n).foldl (fun l i=>l.setIfInBounds i true) (Array.replicate ops.size false)).getD i true=((List.range n).foldl (fun l i=>l.setIfInBounds i true) (Array.replicate ops.size false))[i]:=by
  simp [aiB]
 rw [← aX,aA,← av]
 by_cases aV:i<n
 ·rw [pA i aV];simp [aV]
 rw [inv.tail i (by omega) au];simp [aV]
def VQ (fi:Nat→Nat)(all:List tv)(b:Nat)(GM:List Nat):List aR:=GM.map fun j=>⟨some (fi j),match all[j]? with | some (.new cp)=>Oe j cp (all.take b) | _=>.dead⟩
structure akU (c:dy)(n:Nat)(ox:List (Option Nat))(hs:List tv)(E:List (Nat×I))(L:List aR)(bD:Array Bool)(fi:Nat→Nat)(GM:List Nat)(b:Nat)(a:Act)(W:World):Prop where
 st:bN c E (J4 L (hs.take b)++VQ fi hs b GM) a W
 done:∀ (j:Nat) s h τ,j<n→bD.getD j false=true→ox[j]? =some (some s)→hs[j]? =some h→h.WY (fi j)=some τ→ ∃ v,a.tmps[s]? =some v∧τ.holds (aT (J4 L (hs.take b)++VQ fi hs b GM)++c.cc) W v
 news:∀ (j:Nat),j∈GM↔ (j<n∧bD.getD j false=true∧ ∃ cp,hs[j]? =some (.new cp))
 stored:∀ (j:Nat) h,hs[j]? =some h→h.afL=true→ (bD.getD j false=true↔j<b)
 ble:b≤n
theorem yT {L R:List aR}(h:L.Perm R):(aT L).Perm (aT R):=by
 induction h with
 | nil=>exact .nil
 | cons x _ cA=>cases hk:x.key <;> simp only [aT,hk] <;> first | exact cA | exact cA.cons _
 | swap x y l=>
   cases ar:x.key <;> cases a1:y.key <;> simp only [aT,ar,a1]
   all_goals first | exact .refl _ | exact .swap _ _ _
 | trans _ _ h1 ae=>exact h1.trans ae
theorem bN.perm {E L L' a W}(h:bN c E L a W)(p:L.Perm L'):bN c E L' a W:=
 h.sub (fun e he=>p.mem_iff.2 he) ((yT p).nodup_iff.1 h.nodup)
end
structure bx (P:Program)(t:TypeId)(α:Type)[aj α]:Prop where
 size:(P.info? t).map (·.size)=some (aj.size α)
 Wk:∃ d,P.underlying t=some d∧ (match d with | .struct _ | .array _ _=>true | _=>false)=aj.agg α
structure cI (P:Program)(t:TypeId){α:Type}[aj α](x:α):Prop where
 zero:∃ i z,P.info? t=some i∧i.zero=some z∧ ∀ A W,(I.of x).holds A W z
theorem bx.info {P t α}[aj α](h:bx P t α):∃ i,P.info? t=some i∧i.size=aj.size α:=by
 have:=h.size;cases au:P.info? t with
 | none=>simp [au] at this
 | some i=>exact⟨i,rfl,by simpa [au] using this⟩
theorem bx.isAgg {P t α}[aj α](h:bx P t α)(W:World):(isAgg t).run P W= .ok (aj.agg α) W:=by
 obtain⟨d,hd,he⟩:=h.Wk;unfold Go.isAgg;rw [Sem.run_bind,run_underlying hd W];simp only [Result.andThen_ok];cases d <;> simp_all
theorem bx.sizeOf {P t α}[aj α](h:bx P t α)(W:World):(Go.sizeOf t).run P W= .ok (aj.size α) W:=by
 obtain⟨i,au,hs⟩:=h.info;simp [Go.sizeOf,typeInfo,au,hs]
theorem kU (b off j:Nat):(⟨b,off,none⟩:Addr).add j=⟨b,off+j,none⟩:=by unfold Addr.add;split <;> simp_all
theorem yz {P:Program}{W:World}{b off:Nat}{cur:Array Value}{T t:TypeId}{iS:Nat×Nat}{α:Type}[aj α]{A:List Nat}{x:α}(ty:bx P t α)
 (hb:W.heap[b]? =some (.cells cur T iS)) (hs:off+aj.size α≤cur.size) (aI:aj.rep A W ((cur.toList.drop off).take (aj.size α)) x):
 ∃ v,(loadVar t ⟨b,off,none⟩).run P W= .ok v W∧ (I.of x).holds A W v:=by
 have ao:=aj.len aI
 have zf:∀ j v,((cur.toList.drop off).take (aj.size α))[j]? =some v→W.cell? ((⟨b,off,none⟩:Addr).add j)=some v:=by
  intro j v bm;rw [kU,cell_of_row W b (off+j) cur T iS hb];rw [List.getElem?_take] at bm;split at bm
  ·rw [List.getElem?_drop] at bm;simpa using bm
  cases bm
 cases a7:aj.agg α with
 | true=>
   have h1:=run_loadCells_list (P:=P) W ⟨b,off,none⟩ _ zf
   rw [ao] at h1
   refine⟨.agg ((cur.toList.drop off).take (aj.size α)).toArray,?_,?_,?_⟩
   ·simp [loadVar,Sem.run_bind,ty.isAgg,ty.sizeOf,a7,h1]
   ·simp [shaped,a7]
   simpa [Value.cells] using aI
 | false=>
   have h1:aj.size α=1:=aj.flat a7
   rw [h1] at ao
   obtain⟨v,bm⟩:=List.length_eq_one_iff.1 ao
   have ae:=zf 0 v (by rw [h1,bm];rfl)
   have aA:v.oneCell'=true:=aj.one aI v (by rw [h1,bm];simp)
   refine⟨v,?_,?_,?_⟩
   ·rw [kU,Nat.add_zero] at ae
    simp [loadVar,Sem.run_bind,ty.isAgg,a7,ae]
   ·simp [shaped,a7,aA]
   rw [cells_one aA]
   rw [h1,bm] at aI
   simpa using aI
def hr (cur:List Value)(off:Nat)(ds:List Value):List Value:=cur.take off++ds++cur.drop (off+ds.length)
theorem abq {A W v}{α:Type}[aj α]{x:α}(h:(I.of x).holds A W v):v.cells.toList.length=aj.size α∧ ∀ u∈v.cells.toList,u.oneCell'=true:=⟨aj.len h.2,aj.one h.2⟩
theorem HQ {P:Program}{W:World}{b off:Nat}{cur:Array Value}{T t:TypeId}{α:Type}[aj α]{A:List Nat}{x:α}{v:Value}(ty:bx P t α)
 (hb:W.heap[b]? =some (.cells cur T (0,0))) (hs:off+aj.size α≤cur.size) (bm:(I.of x).holds A W v):
 (storeVar t ⟨b,off,none⟩ v).run P W= .ok () (W.setRow b (hr cur.toList off v.cells.toList).toArray):=by
 obtain⟨ao,h1⟩:=abq bm
 have ae:=run_storeCells_at P b off T v.cells.toList 0 cur W hb (by rw [ao];omega) h1
 have ed:v.cells.size=aj.size α:=by simpa using ao
 simp only [Nat.add_zero] at ae
 simp only [storeVar,Sem.run_bind,ty.sizeOf,Result.andThen_ok,ed]
 simp only [ne_eq,not_true_eq_false,↓reduceIte,Sem.run_pure,Sem.run_bind,Result.andThen_ok]
 simpa [hr] using ae
structure aJ (β γ:Type)[aj β][aj γ] where
 off:Nat
 get:β→γ
 set:β→γ→β
 hv:off+aj.size γ≤aj.size β
 jU:∀ {A W cs b},aj.rep A W cs b→aj.rep A W ((cs.drop off).take (aj.size γ)) (get b)
 nM:∀ {A W cs b ds g},aj.rep A W cs b→aj.rep A W ds g→aj.rep A W (cs.take off++ds++cs.drop (off+aj.size γ)) (set b g)
def aJ.id (β:Type)[aj β]:aJ β β where
 off:=0
 get b:=b
 set _ g:=g
 hv:=by simp
 jU h:=by
  have:=aj.len h;rw [List.drop_zero,← this,List.take_length];exact h
 nM h bO:=by
  have h1:=aj.len h;rw [List.take_zero,List.nil_append,Nat.zero_add,← h1,List.drop_length,List.append_nil];exact bO
theorem yB (cs:List Value)(bJ s1 cY s2:Nat)(h:cY+s2≤s1):(((cs.drop bJ).take s1).drop cY).take s2=(cs.drop (bJ+cY)).take s2:=by
 apply List.ext_getElem?;intro i;simp only [List.getElem?_take,List.getElem?_drop];split
 ·rw [if_pos (by omega)];congr 1;omega
 rfl
theorem Rw (cs ds:List Value)(bJ s1 cY s2:Nat)(h:cY+s2≤s1)(ai:bJ+s1≤cs.length):
 cs.take bJ++(((cs.drop bJ).take s1).take cY++ds++((cs.drop bJ).take s1).drop (cY+s2))++cs.drop (bJ+s1)=cs.take (bJ+cY)++ds++cs.drop (bJ+cY+s2):=by
 have av:cs.take (bJ+cY)=cs.take bJ++((cs.drop bJ).take s1).take cY:=by
  rw [List.take_take,Nat.min_eq_left (by omega),List.take_add]
 have aX:cs.drop (bJ+cY+s2)=((cs.drop bJ).take s1).drop (cY+s2)++cs.drop (bJ+s1):=by
  apply List.ext_getElem?;intro i;simp only [List.getElem?_append,List.getElem?_drop,List.getElem?_take,List.length_drop,List.length_take];split
  ·rw [if_pos (by omega)];congr 1;omega
  congr 1;omega
 rw [av,aX]
 simp only [List.append_assoc]
def aJ.comp {α β γ:Type}[aj α][aj β][aj γ](l:aJ α β)(m:aJ β γ):aJ α γ where
 off:=l.off+m.off
 get b:=m.get (l.get b)
 set b g:=l.set b (m.set (l.get b) g)
 hv:=by have:=l.hv;have:=m.hv;omega
 jU h:=by
  have:=m.jU (l.jU h);rwa [yB _ _ _ _ _ m.hv] at this
 nM h bO:=by
  have h1:=l.nM h (m.nM (l.jU h) bO);have ae:=aj.len h;have aA:=l.hv;rwa [Rw _ _ _ _ _ _ m.hv (by omega)] at h1
def cd {α:Type}[Inhabited α]{n:Nat}(v:Vector α n)(k:Nat):α:=v[k]?.getD default
def dX {α:Type}{n:Nat}(v:Vector α n)(k:Nat)(x:α):Vector α n:=v.setIfInBounds k x
instance {α:Type} [Inhabited α] {n:Nat} :Inhabited (Vector α n):=⟨Vector.replicate n default⟩
instance akx {α:Type} [aj α] [Inhabited α] {n:Nat} :aj (Vector α n) where
 size:=n * aj.size α
 agg:=true
 rep A W cs v:=hJ A W cs v.toList
 len h:=by rw [h.1];simp
 one h:=by
  intro u hu;obtain⟨j,aF⟩:=List.mem_iff_getElem?.1 hu;have cH:=(List.getElem?_eq_some_iff.1 aF).1;have h1:=h.1;by_cases hs:aj.size α=0
  ·rw [hs,Nat.mul_zero] at h1;omega
  have hp:0<aj.size α:=Nat.pos_of_ne_zero hs;have au:j / aj.size α<_:=(Nat.div_lt_iff_lt_mul hp).2 (by rw [h1] at cH;exact cH);refine aj.one (h.2 _ au) u (List.mem_iff_getElem?.2 ⟨j % aj.size α,?_⟩);rw [List.getElem?_take,if_pos (Nat.mod_lt _ hp),List.getElem?_drop,Nat.mul_comm,Nat.div_add_mod];exact aF
 flat h:=by cases h
 mono e h:=h.mono e
theorem ZC {α:Type}[Inhabited α]{n:Nat}(v:Vector α n){k:Nat}(h:k<n):cd v k=v.toList[k]'(by simpa using h):=by simp [cd,h]
theorem LZ {α:Type}[aj α]{A W}{cs ds:List Value}{xs:List α}{x:α}{k:Nat}(h:hJ A W cs xs)(hk:k<xs.length)(hd:aj.rep A W ds x):
 hJ A W (cs.take (k * aj.size α)++ds++cs.drop (k * aj.size α+aj.size α)) (xs.set k x):=by
 have ao:=h.1
 have akV:=aj.len hd
 have hle:(k+1) * aj.size α≤xs.length * aj.size α:=Nat.mul_le_mul_right _ hk
 rw [Nat.succ_mul] at hle
 refine⟨by simp only [List.length_append,List.length_take,List.length_drop,List.length_set];omega,fun i au=>?_⟩
 rw [List.length_set] at au
 by_cases e:k=i
 ·subst e
  have:((cs.take (k * aj.size α)++ds++cs.drop (k * aj.size α+aj.size α)).drop (k * aj.size α)).take (aj.size α)=ds:=by
   rw [List.append_assoc,List.drop_append_of_le_length (by simp only [List.length_take];omega),List.drop_of_length_le (by simp only [List.length_take];omega),List.nil_append,
    List.take_append_of_le_length (by omega),List.take_of_length_le (by omega)]
  rw [this]
  simpa using hd
 have h1:=h.2 i au
 have:((cs.take (k * aj.size α)++ds++cs.drop (k * aj.size α+aj.size α)).drop (i * aj.size α)).take (aj.size α)=(cs.drop (i * aj.size α)).take (aj.size α):=by
  apply List.ext_getElem?;intro j;simp only [List.getElem?_take,List.getElem?_drop];split
  ·rename_i aF;simp only [List.getElem?_append,List.length_append,List.length_take,List.getElem?_take,List.getElem?_drop];rcases Nat.lt_or_gt_of_ne e with ae | ae
   ·have:(k+1) * aj.size α≤i * aj.size α:=Nat.mul_le_mul_right _ ae;rw [Nat.succ_mul] at this;rw [if_neg (by omega)];congr 1;omega
   have:(i+1) * aj.size α≤k * aj.size α:=Nat.mul_le_mul_right _ ae;rw [Nat.succ_mul] at this;rw [if_pos (by omega),if_pos (by omega),if_pos (by omega)]
  rfl
 rw [this]
 simpa [List.getElem_set_ne e] using h1
def aJ.idx {α:Type}[aj α][Inhabited α](n k:Nat)(hk:k<n):aJ (Vector α n) α where
 off:=k * aj.size α
 get v:=cd v k
 set v x:=dX v k x
 hv:=by
  show k * aj.size α+aj.size α≤n * aj.size α;rw [← Nat.succ_mul];exact Nat.mul_le_mul_right _ hk
 jU h:=by
  rename_i b;rw [ZC b hk];exact h.2 k (by simpa using hk)
 nM h hd:=by
  rename_i b ds g;have:=LZ h (k:=k) (by simpa using hk) hd;show hJ _ _ _ (dX b k g).toList;rw [show(dX b k g).toList=b.toList.set k g by simp [dX]];exact this
def idx (n:Nat)(i:Int):Option Nat:=if 0≤i∧i<n then some i.toNat else none
theorem dF {n:Nat}{i:Int}{k:Nat}(h:idx n i=some k):k<n∧i=k:=by
 unfold idx at h;split at h
 ·rename_i au;simp only [Option.some.injEq] at h;omega
 cases h
section
variable {c:dy} {E:List (Nat×I)} {L:List aR} {ops:Array Oper} {Q:Exit→Act→World→Prop}
variable {d:Option Tmp} {ty:TypeId} {pos:String} {af:Array Edge} {g:Option (Nat×Bool)}
theorem cK {x:Operand}{τ:I}(h:bn c E L x τ):b6 c E L ⟨d,.move x,ty,pos,af,g⟩ τ:= .pure fun a W s=>⟨_,rfl,h a W s⟩
theorem dx {x:Operand}{τ:I}(h:bn c E L x τ):b6 c E L ⟨d,.assign x,ty,pos,af,g⟩ τ:= .pure fun a W s=>⟨_,rfl,h a W s⟩
theorem xz {x y:Operand}{b e:Bool}{p:Prop}(ar:bn c E L x (.of b))(a1:bn c E L y (.cond p (.of e)))(hp:b=false→p):
 b6 c E L ⟨d,.pick x (.const (.bool true)) y,ty,pos,af,g⟩ (.of (b||e)):= .pure fun a W s=>by
 have h1:=of_bool.1 (ar a W s)
 cases b with
 | true=>exact⟨.bool true,by simp only [execOp,h1,asBool];rfl,of_bool.2 rfl⟩
 | false=>
   have ae:=of_bool.1 ((a1 a W s).1 (hp rfl))
   exact⟨.bool e,by simp [execOp,asBool,h1,ae],of_bool.2 rfl⟩
theorem sW {x y:Operand}{b e:Bool}{p:Prop}(ar:bn c E L x (.of b))(a1:bn c E L y (.cond p (.of e)))(hp:b=true→p):
 b6 c E L ⟨d,.pick x y (.const (.bool false)),ty,pos,af,g⟩ (.of (b&&e)):= .pure fun a W s=>by
 have h1:=of_bool.1 (ar a W s)
 cases b with
 | false=>exact⟨.bool false,by simp only [execOp,h1,asBool];rfl,of_bool.2 rfl⟩
 | true=>
   have ae:=of_bool.1 ((a1 a W s).1 (hp rfl))
   exact⟨.bool e,by simp [execOp,asBool,h1,ae],of_bool.2 rfl⟩
theorem l8 {x:Operand}{b:Bool}{t:TypeId}(ar:bn c E L x (.of b)):b6 c E L ⟨d,.unOp .not t x,ty,pos,af,g⟩ (.of (!b)):= .pure fun a W s=>
 ⟨.bool (!b),by simp [execOp,Op.unary,of_bool.1 (ar a W s)],of_bool.2 rfl⟩
theorem e8 {x:Operand}{t:TypeId}{i p o:Nat}{β γ:Type}[aj β][aj γ]{b:β}(l:aJ β γ){r:γ}(eO:bx c.P t γ)(ar:bn c E L x (.eq (.pointer (some ⟨p,o,none⟩))))
 (al:L[i]? =some ⟨some p,.var b⟩) (bp:o=l.off) (aI:l.get b=r):b6 c E L ⟨d,.load t x,ty,pos,af,g⟩ (.of r):= .pure fun a W s=>by
 subst bp
 subst aI
 obtain⟨qC,fC,cs,T,rfl,ht⟩:=s.own _ (List.mem_of_getElem? al)
 have h1:cs.toList.length=aj.size β:=aj.len ht
 obtain⟨v,ae,aA⟩:=yz (A:=aT L++c.cc) eO fC (by have:=l.hv;simp at h1;omega) (l.jU ht)
 refine⟨v,?_,aA⟩
 have aV:a.eval x=_:=ar a W s
 simp [execOp,Instr.loadAt,Instr.sureAddr,aV,ae]
theorem c3 {x:Operand}{t:TypeId}{γ:Type}[aj γ]{r:γ}(eO:bx c.P t γ)(ar:bn c E L x (.ptr r)):b6 c E L ⟨d,.load t x,ty,pos,af,g⟩ (.of r):= .pure fun a W s=>by
 obtain⟨b,off,cur,T,iS,aV,hb,cB,hs,aI⟩:=ar a W s;obtain⟨v,ae,aA⟩:=yz eO cB hs aI;exact⟨v,by simp [execOp,Instr.loadAt,Instr.sureAddr,aV,ae],aA⟩
structure bU (P:Program)(s:TypeId)(f o:Nat):Prop where
 at_:∃ fs fd i,P.underlying s=some (.struct fs)∧fs[f]? =some fd∧fd.offset=o∧P.info? fd.type=some i∧i.size≠0
theorem QX {P:Program}{s:TypeId}{f o:Nat}(h:bU P s f o)(p off:Nat)(W:World):
 (Instr.fieldAt s (.pointer (some ⟨p,off,none⟩)) f).run P W= .ok (.pointer (some ⟨p,off+o,none⟩)) W:=by
 obtain⟨fs,fd,i,h1,ae,aA,aV,bc⟩:=h.at_
 simp [Instr.fieldAt,run_underlying h1,ae,Instr.sureAddr,fieldPlace,Go.sizeOf,typeInfo,aV,bc,kU,aA]
theorem aM {x:Operand}{s f o p off:Nat}(fd:bU c.P s f o)(ar:bn c E L x (.eq (.pointer (some ⟨p,off,none⟩)))):
 b6 c E L ⟨d,.fieldAddr s x f,ty,pos,af,g⟩ (.eq (.pointer (some ⟨p,off+o,none⟩))):= .pure fun a W st=>by
 have aV:a.eval x=_:=ar a W st
 exact⟨_,by simp [execOp,aV,QX fd],rfl⟩
theorem rX {x:Operand}{s f o:Nat}{β γ:Type}[aj β][aj γ]{b:β}(l:aJ β γ){r:γ}(fd:bU c.P s f o)(ar:bn c E L x (.ptr b))(bp:l.off=o)(aI:l.get b=r):
 b6 c E L ⟨d,.fieldAddr s x f,ty,pos,af,g⟩ (.ptr r):= .pure fun a W st=>by
 subst bp
 subst aI
 obtain⟨q,off,cur,T,iS,aV,hb,cB,hs,ht⟩:=ar a W st
 refine⟨.pointer (some ⟨q,off+l.off,none⟩),by simp [execOp,aV,QX fd],q,off+l.off,cur,T,iS,rfl,hb,cB,by have:=l.hv;omega,?_⟩
 have:=l.jU ht
 rwa [yB _ _ _ _ _ l.hv] at this
structure qD (P:Program)(t:TypeId)(n s:Nat):Prop where
 at_:∃ e i,P.underlying t=some (.array n e)∧P.info? e=some i∧i.size=s
theorem Za {P:Program}{t n s:Nat}(h:qD P t n s)(p off:Nat)(k:Nat)(hk:k<n)(W:World):
 (Instr.indexAt t (.pointer (some ⟨p,off,none⟩)) (.int .i64 (k:Int))).run P W= .ok (.pointer (some ⟨p,off+k * s,none⟩)) W:=by
 obtain⟨e,i,h1,ae,aA⟩:=h.at_
 simp [Instr.indexAt,asIntOf,run_underlying h1,Instr.sureAddr,Go.sizeOf,typeInfo,ae,aA,hk,kU]
theorem ix {x y:Operand}{t n s p off:Nat}{i:Int}{k:Nat}(aka:qD c.P t n s)(ar:bn c E L x (.eq (.pointer (some ⟨p,off,none⟩))))(a1:bn c E L y (.of i))(hk:k<n∧i=k):
 b6 c E L ⟨d,.indexAddr t x y,ty,pos,af,g⟩ (.eq (.pointer (some ⟨p,off+k * s,none⟩))):= .pure fun a W st=>by
 have aV:a.eval x=_:=ar a W st
 have bc:=of_int.1 (a1 a W st)
 obtain⟨bs,rfl⟩:=hk
 exact⟨_,by simp [execOp,aV,bc,Za aka p off k bs],rfl⟩
theorem ab.alloc {t:TypeId}{rest:List Oper}{bg:Nat}{α:Type}[aj α]{z:α}(h9:cI c.P t z)(aQ:Nat.blt bg c.n=true)
 (k:∀ p,ab c ops Q rest ((bg,.eq (.pointer (some ⟨p,0,none⟩)))::E) (⟨some p,.var z⟩::L)):ab c ops Q (⟨some bg,.alloc t,ty,pos,af,none⟩::rest) E L:=fun a W s=>by
 obtain⟨i,e4,h1,ae,aA⟩:=h9.zero
 refine jl rfl (R:=fun v W'=>v= .pointer (some ⟨W.heap.size,0,none⟩)∧W'=W.alloc (.cells e4.cells t)) (.mL ?_ ⟨rfl,rfl⟩) fun v W' ⟨bm,hw⟩=>?_
 ·simp [execOp,Instr.alloc,zeroValue,typeInfo,h1,ae,newVar,newRow]
 subst bm
 subst hw
 exact k _ _ _ ((s.alloc (cp:= .var z) ⟨e4.cells,t,rfl,(aA _ _).2⟩).put (by simpa using aQ) rfl)
theorem ab.box {t:TypeId}{x:Operand}{rest:List Oper}{bg:Nat}{α:Type}[aj α]{z:α}(ar:bn c E L x (.of z))(aQ:Nat.blt bg c.n=true)
 (k:∀ p,ab c ops Q rest ((bg,.eq (.pointer (some ⟨p,0,none⟩)))::E) (⟨some p,.var z⟩::L)):ab c ops Q (⟨some bg,.box t x,ty,pos,af,none⟩::rest) E L:=fun a W s=>by
 refine jl rfl (R:=fun v W'=>v= .pointer (some ⟨W.heap.size,0,none⟩)∧W'=W.alloc (.cells (a.eval x).cells t)) (.mL ?_ ⟨rfl,rfl⟩) fun v W' ⟨bm,hw⟩=>?_
 ·simp [execOp,Instr.box,newVar,newRow]
 subst bm
 subst hw
 exact k _ _ _ ((s.alloc (cp:= .var z) ⟨_,t,rfl,(ar a W s).2⟩).put (by simpa using aQ) rfl)
theorem ab.store {x y:Operand}{t:TypeId}{rest:List Oper}{i p o:Nat}{β γ:Type}[aj β][aj γ]{b b':β}{v:γ}(l:aJ β γ)(eO:bx c.P t γ)(ar:bn c E L x (.eq (.pointer (some ⟨p,o,none⟩))))
 (a1:bn c E L y (.of v)) (al:L[i]? =some ⟨some p,.var b⟩) (bp:o=l.off) (hb:l.set b v=b')
 (k:ab c ops Q rest E (L.set i ⟨some p,.var b'⟩)):ab c ops Q (⟨none,.store t x y,ty,pos,af,none⟩::rest) E L:=fun a W s=>by
 subst bp
 subst hb
 obtain⟨qC,fC,cs,T,rfl,ht⟩:=s.own _ (List.mem_of_getElem? al)
 have h1:cs.toList.length=aj.size β:=aj.len ht
 have gu:=l.hv
 have bm:=a1 a W s
 have ae:=HQ (A:=aT L++c.cc) eO fC (off:=l.off) (by simp at h1;omega) bm
 have aV:a.eval x=_:=ar a W s
 refine jl rfl (R:=fun v W'=>W'=W.setRow p (hr cs.toList l.off (a.eval y).cells.toList).toArray) (.BC ?_ rfl) fun v W' hw=>?_
 ·simp [execOp,Instr.storeAt,Instr.sureAddr,aV,ae]
 subst hw
 refine k _ _ (s.store al fC ?_)
 refine⟨_,T,rfl,?_⟩
 have:=l.nM ht bm.2
 simpa [hr,aj.len bm.2] using this
def jf (c:dy)(E:List (Nat×I))(L:List aR):List Operand→List I→Prop
 | [],[]=>True
 | x::xs,τ::τs=>bn c E L x τ∧jf c E L xs τs
 | _,_=>False
theorem jf.holds:∀ {xs:List Operand} {τs:List I},jf c E L xs τs→ ∀ a W,bN c E L a W→hB (aT L++c.cc) W τs (xs.map a.eval)
 | [],[],_,_,_,_=>.nil
 | x::xs,τ::τs,h,a,W,s=>.cons (h.1 a W s) (h.2.holds a W s)
 | [],_::_,h,_,_,_=>h.elim
 | _::_,[],h,_,_,_=>h.elim
structure bF (P:Program)(f:FuncId):Prop where
 at_:∃ fn,P.funcs[f]? =some fn∧fn.body.isNone=false∧ (fn.name== "runtime.NumGoroutine")=false
theorem bF.run {P:Program}{f:FuncId}(h:bF P f)(args:Array Value)(W:World):(callFunc f args).run P W= .ok (.enter f args) W:=by
 obtain⟨fn,h1,ae,aA⟩:=h.at_;simp only [callFunc,Sem.run_bind,run_program,Result.andThen_ok,h1,aA,ae];rfl
theorem km {f:FuncId}{xs:List Operand}{ats:Array TypeId}{τs:List I}{ρ:I}(eB:bF c.P f)(h:b2 c.P f τs ρ)(ar:jf c E L xs τs):
 b6 c E L ⟨d,.call ⟨.value (.func f),xs.toArray,ats⟩,ty,pos,af,g⟩ ρ:=fun a W s=>by
 refine .wX (f:=f) (args:=(xs.map a.eval).toArray) (W':=W) ?_ (h _ W _ s.IX (ar.holds a W s))
 simp [execOp,resolve,Deferred.ofValue,Act.eval,invoke,eB.run]
theorem tI {P:Program}{W:World}{t off:Nat}{cs:Array Value}{α:Type}[aj α]{A:List Nat}{x:α}(ty:bx P t α)(hs:off+aj.size α≤cs.size)
 (aI:aj.rep A W ((cs.toList.drop off).take (aj.size α)) x):∃ v,(part t cs off).run P W= .ok v W∧ (I.of x).holds A W v:=by
 have ao:=aj.len aI
 cases a7:aj.agg α with
 | true=>
   refine⟨.agg (cs.extract off (off+aj.size α)),?_,?_,?_⟩
   ·simp [part,ty.isAgg,ty.sizeOf,a7]
   ·simp [shaped,a7]
   simpa [Value.cells,List.extract,Array.toList_extract] using aI
 | false=>
   have h1:aj.size α=1:=aj.flat a7
   have cH:off<cs.size:=by omega
   have ae:(cs.toList.drop off).take (aj.size α)= [cs[off]]:=by
    rw [h1];apply List.ext_getElem?;intro j;rw [List.getElem?_take,List.getElem?_drop];cases j with
    | zero=>simp [cH]
    | succ j=>simp
   rw [ae] at aI
   have aA:cs[off].oneCell'=true:=aj.one aI _ (by simp)
   refine⟨cs[off],?_,?_,?_⟩
   ·simp [part,ty.isAgg,a7,cH]
   ·simp [shaped,a7,aA]
   rw [cells_one aA];simpa using aI
structure PG (P:Program)(s f t o:Nat):Prop where
 at_:∃ fs fd,P.underlying s=some (.struct fs)∧fs[f]? =some fd∧fd.offset=o∧fd.type=t
theorem Mi {x:Operand}{s f t o:Nat}{β γ:Type}[aj β][aj γ]{b:β}(l:aJ β γ){r:γ}(akb:PG c.P s f t o)(eO:bx c.P t γ)(a7:aj.agg β=true)(ar:bn c E L x (.of b))(bp:l.off=o)(aI:l.get b=r):
 b6 c E L ⟨d,.field s x f,ty,pos,af,g⟩ (.of r):= .pure fun a W st=>by
 subst bp
 subst aI
 obtain⟨h1,ae⟩:=ar a W st
 simp only [shaped,a7,if_true] at h1
 obtain⟨cs,tj⟩:=h1
 obtain⟨fs,fd,aA,aV,bc,bs⟩:=akb.at_
 rw [tj] at ae
 simp only [Value.cells] at ae
 have ao:cs.toList.length=aj.size β:=aj.len ae
 obtain⟨v,df,dz⟩:=tI (A:=aT L++c.cc) (P:=c.P) (W:=W) (cs:=cs) (off:=l.off) eO (by have:=l.hv;simp at ao;omega) (l.jU ae)
 refine⟨v,?_,dz⟩
 simp [execOp,Instr.field,run_underlying aA,aV,tj,asAgg,bc,bs,df]
theorem SH {x y:Operand}{t e n:Nat}{i:Int}{k:Nat}{α:Type}[aj α][Inhabited α]{v:Vector α n}(hu:c.P.underlying t=some (.array n e))(eO:bx c.P e α)(ar:bn c E L x (.of v))(a1:bn c E L y (.of i))(hk:k<n∧i=k):
 b6 c E L ⟨d,.index t x y,ty,pos,af,g⟩ (.of (cd v k)):= .pure fun a W st=>by
 obtain⟨h1,ae⟩:=ar a W st
 obtain⟨cs,tj⟩:∃ cs,a.eval x= .agg cs:=by simpa [shaped,aj.agg] using h1
 have bc:=of_int.1 (a1 a W st)
 obtain⟨bs,rfl⟩:=hk
 rw [tj] at ae
 simp only [Value.cells] at ae
 have ao:cs.toList.length=n * aj.size α:=aj.len ae
 have gu:=(aJ.idx (α:=α) n k bs).hv
 obtain⟨u,df,dz⟩:=tI (A:=aT L++c.cc) (P:=c.P) (W:=W) (cs:=cs) (off:=k * aj.size α) eO
  (by
   have:k * aj.size α+aj.size α≤n * aj.size α:=gu;simp at ao;omega) ((aJ.idx (α:=α) n k bs).jU ae)
 refine⟨u,?_,dz⟩
 simp [execOp,Instr.index,asIntOf,run_underlying hu,tj,bc,bs,eO.sizeOf,df]
theorem k1 {x:Operand}{i:Nat}{τs:List I}{τ:I}(ar:bn c E L x (.c4 τs))(au:τs[i]? =some τ):b6 c E L ⟨d,.extract x i,ty,pos,af,g⟩ τ:= .pure fun a W st=>by
 obtain⟨vs,h1,ae⟩:=ar a W st;have get:∀ {τs:List I} {vs:List Value},hB (aT L++c.cc) W τs vs→ ∀ (i:Nat) (τ:I),τs[i]? =some τ→ ∃ v,vs[i]? =some v∧τ.holds (aT L++c.cc) W v:=by
  intro τs vs h;induction h with
  | nil=>intro i τ h;simp at h
  | cons h1 _ cA=>
    intro i τ h
    cases i with
    | zero=>simp only [List.getElem?_cons_zero,Option.some.injEq] at h;subst h;exact⟨_,rfl,h1⟩
    | succ i=>simp only [List.getElem?_cons_succ] at h ⊢;exact cA i τ h
 obtain⟨v,aA,aV⟩:=get ae i τ au;refine⟨v,?_,aV⟩;have bc:vs[i]? =some v:=by simpa using aA
 simp [execOp,Instr.extract,h1,bc]
end
def bC (x:Int):Int:=IntKind.i64.wrap x
theorem ib {x:Int}(h: -9223372036854775808≤x)(dc:x≤9223372036854775807):bC x=x:=by
 unfold bC;rw [IntKind.wrap_i64];omega
def vB (a b:Int):Option Int:=if b=0 then none else some (a.tmod b)
theorem LI {a b r:Int}(h:vB a b=some r):b≠0∧a.tmod b=r:=by unfold vB at h;split at h <;> simp_all
theorem wrap_u64 (n:Int):IntKind.u64.wrap n=n % 18446744073709551616:=by simp [IntKind.wrap,IntKind.signed,IntKind.bits]
theorem ack (P:Program)(W:World)(k PH:IntKind)(a b:Int)(h:0≤b):(Op.shift .shl k a PH b).run P W= .ok (.int k (k.wrap (a * 2 ^ min b.toNat k.bits))) W:=by
 unfold Op.shift;rw [if_neg (by omega)];rfl
theorem acm (P:Program)(W:World)(k PH:IntKind)(a b:Int)(h:0≤b):(Op.shift .shr k a PH b).run P W= .ok (.int k (a.fdiv (2 ^ min b.toNat k.bits))) W:=by
 unfold Op.shift;rw [if_neg (by omega)];rfl
section
variable {c:dy} {E:List (Nat×I)} {L:List aR}
variable {d:Option Tmp} {ty:TypeId} {pos:String} {af:Array Edge} {g:Option (Nat×Bool)} {x y:Operand} {t t2:TypeId}
theorem dQ {a b:Int}(ar:bn c E L x (.of a))(a1:bn c E L y (.of b)):b6 c E L ⟨d,.binOp .add t x y t2,ty,pos,af,g⟩ (.of (bC (a+b))):= .pure fun A W s=>
 ⟨.int .i64 (bC (a+b)),by simp [execOp,eqGuard,binOp,Op.intArith,of_int.1 (ar A W s),of_int.1 (a1 A W s),bC],of_int.2 rfl⟩
theorem lP {a b:Int}(ar:bn c E L x (.of a))(a1:bn c E L y (.of b)):b6 c E L ⟨d,.binOp .sub t x y t2,ty,pos,af,g⟩ (.of (bC (a - b))):= .pure fun A W s=>
 ⟨.int .i64 (bC (a - b)),by simp [execOp,eqGuard,binOp,Op.intArith,of_int.1 (ar A W s),of_int.1 (a1 A W s),bC],of_int.2 rfl⟩
theorem aep {a b:Int}(ar:bn c E L x (.of a))(a1:bn c E L y (.of b)):b6 c E L ⟨d,.binOp .mul t x y t2,ty,pos,af,g⟩ (.of (bC (a * b))):= .pure fun A W s=>
 ⟨.int .i64 (bC (a * b)),by simp [execOp,eqGuard,binOp,Op.intArith,of_int.1 (ar A W s),of_int.1 (a1 A W s),bC],of_int.2 rfl⟩
theorem Nb {a b r:Int}(ar:bn c E L x (.of a))(a1:bn c E L y (.of b))(h:b≠0∧a.tmod b=r):b6 c E L ⟨d,.binOp .rem t x y t2,ty,pos,af,g⟩ (.of r):= .pure fun A W s=>
 ⟨.int .i64 r,by obtain⟨h1,rfl⟩:=h;simp [execOp,eqGuard,binOp,Op.intDiv,of_int.1 (ar A W s),of_int.1 (a1 A W s),h1],of_int.2 rfl⟩
theorem ei {a b:Int}(ar:bn c E L x (.of a))(a1:bn c E L y (.of b)):b6 c E L ⟨d,.binOp .lss t x y t2,ty,pos,af,g⟩ (.of (decide (a<b))):= .pure fun A W s=>
 ⟨.bool (decide (a<b)),by simp only [execOp,eqGuard,binOp,of_int.1 (ar A W s),of_int.1 (a1 A W s)];rfl,of_bool.2 rfl⟩
theorem I8 {a b:Int}(ar:bn c E L x (.of a))(a1:bn c E L y (.of b)):b6 c E L ⟨d,.binOp .leq t x y t2,ty,pos,af,g⟩ (.of (decide (a≤b))):= .pure fun A W s=>
 ⟨.bool (decide (a≤b)),by simp only [execOp,eqGuard,binOp,of_int.1 (ar A W s),of_int.1 (a1 A W s)];rfl,of_bool.2 rfl⟩
theorem p4 {a b:Int}(ar:bn c E L x (.of a))(a1:bn c E L y (.of b)):b6 c E L ⟨d,.binOp .gtr t x y t2,ty,pos,af,g⟩ (.of (decide (a>b))):= .pure fun A W s=>
 ⟨.bool (decide (a>b)),by simp only [execOp,eqGuard,binOp,of_int.1 (ar A W s),of_int.1 (a1 A W s)];rfl,of_bool.2 rfl⟩
theorem l7 {a b:Int}(ar:bn c E L x (.of a))(a1:bn c E L y (.of b)):b6 c E L ⟨d,.binOp .geq t x y t2,ty,pos,af,g⟩ (.of (decide (a≥b))):= .pure fun A W s=>
 ⟨.bool (decide (a≥b)),by simp only [execOp,eqGuard,binOp,of_int.1 (ar A W s),of_int.1 (a1 A W s)];rfl,of_bool.2 rfl⟩
theorem fM {a b:Int}(ar:bn c E L x (.of a))(a1:bn c E L y (.of b)):b6 c E L ⟨d,.binOp .eql t x y t2,ty,pos,af,g⟩ (.of (a==b)):= .pure fun A W s=>
 ⟨.bool (a==b),by simp only [execOp,eqGuard,binOp,of_int.1 (ar A W s),of_int.1 (a1 A W s)];rfl,of_bool.2 rfl⟩
theorem ou {a b:Int}(ar:bn c E L x (.of a))(a1:bn c E L y (.of b)):b6 c E L ⟨d,.binOp .neq t x y t2,ty,pos,af,g⟩ (.of (a !=b)):= .pure fun A W s=>
 ⟨.bool (a !=b),by simp only [execOp,eqGuard,binOp,of_int.1 (ar A W s),of_int.1 (a1 A W s)];rfl,of_bool.2 rfl⟩
theorem Nh {a b:Bool}(hu:c.P.underlying t=some .bool)(ar:bn c E L x (.of a))(a1:bn c E L y (.of b)):b6 c E L ⟨d,.binOp .neq t x y t2,ty,pos,af,g⟩ (.of (a !=b)):= .pure fun A W s=>
 ⟨.bool (a !=b),by
   simp only [execOp,eqGuard,binOp,of_bool.1 (ar A W s),of_bool.1 (a1 A W s),Op.equal,Op.maxDepth];simp [run_equalIn_bool' W 9999 t a b hu,bne],of_bool.2 rfl⟩
theorem BZ {a b:Int}{ats:Array TypeId}(ar:bn c E L x (.of a))(a1:bn c E L y (.of b)):b6 c E L ⟨d,.call ⟨.builtin .min,#[x,y],ats⟩,ty,pos,af,g⟩ (.of (min a b)):= .pure fun A W s=>
 ⟨.int .i64 (min a b),by
   simp [execOp,resolve,invoke,builtin,Builtin.min_,Builtin.min2,of_int.1 (ar A W s),of_int.1 (a1 A W s)];split <;> omega,of_int.2 rfl⟩
theorem B0 {a b:Int}{ats:Array TypeId}(ar:bn c E L x (.of a))(a1:bn c E L y (.of b)):b6 c E L ⟨d,.call ⟨.builtin .max,#[x,y],ats⟩,ty,pos,af,g⟩ (.of (max a b)):= .pure fun A W s=>
 ⟨.int .i64 (max a b),by
   simp [execOp,resolve,invoke,builtin,Builtin.max_,Builtin.max2,of_int.1 (ar A W s),of_int.1 (a1 A W s)];split <;> omega,of_int.2 rfl⟩
theorem afM (a:BitVec 8):(a.toNat:Int)<256:=by have:=a.isLt;omega
theorem aek {a:BitVec 8}{src dst:TypeId}{e:TypeDesc}(hs:c.P.underlying src=some e)(hd:c.P.underlying dst=some (.int .i64))(ar:bn c E L x (.of a)):b6 c E L ⟨d,.convert src dst x,ty,pos,af,g⟩ (.of (a.toNat:Int)):= .pure fun A W s=>
 ⟨.int .i64 a.toNat,by
   have h:IntKind.i64.wrap (a.toNat:Int)=(a.toNat:Int):=ib (by omega) (by have:=afM a;omega);simp only [execOp,convert,Sem.run_bind,run_underlying hs,run_underlying hd,afK.1 (ar A W s),Conv.intToInt,Result.andThen_ok,h];rfl,of_int.2 rfl⟩
theorem ER (a:BitVec 64):(a.toNat:Int)<18446744073709551616:=by have:=a.isLt;omega
theorem ofInt_u64 (a:BitVec 64):BitVec.ofInt 64 (a.toNat:Int)=a:=by simp
theorem acn (a b:BitVec 64):IntKind.u64.wrap ((a.toNat:Int)+(b.toNat:Int))=((a+b).toNat:Int):=by rw [wrap_u64,BitVec.toNat_add];omega
theorem acg {a b:BitVec 64}(ar:bn c E L x (.of a))(a1:bn c E L y (.of b)):b6 c E L ⟨d,.binOp .add t x y t2,ty,pos,af,g⟩ (.of (a+b)):= .pure fun A W s=>
 ⟨.int .u64 (a+b).toNat,by simp [execOp,eqGuard,binOp,Op.intArith,ir.1 (ar A W s),ir.1 (a1 A W s),acn],ir.2 rfl⟩
theorem aco (a b:BitVec 64):IntKind.u64.wrap ((a.toNat:Int) - (b.toNat:Int))=((a - b).toNat:Int):=by rw [wrap_u64,BitVec.toNat_sub];have:=ER a;have:=ER b;omega
theorem yO {a b:BitVec 64}(ar:bn c E L x (.of a))(a1:bn c E L y (.of b)):b6 c E L ⟨d,.binOp .sub t x y t2,ty,pos,af,g⟩ (.of (a - b)):= .pure fun A W s=>
 ⟨.int .u64 (a - b).toNat,by simp [execOp,eqGuard,binOp,Op.intArith,ir.1 (ar A W s),ir.1 (a1 A W s),aco],ir.2 rfl⟩
theorem uR {a b:BitVec 64}(ar:bn c E L x (.of a))(a1:bn c E L y (.of b)):b6 c E L ⟨d,.binOp .and t x y t2,ty,pos,af,g⟩ (.of (a&&&b)):= .pure fun A W s=>
 ⟨.int .u64 (a&&&b).toNat,by
   simp only [execOp,eqGuard,binOp,ir.1 (ar A W s),ir.1 (a1 A W s)];have h:IntKind.u64.wrap ((a&&&b).toNat:Int)=((a&&&b).toNat:Int):=by rw [wrap_u64];have:=ER (a&&&b);omega
   rw [← h];conv=>rhs;rw [← ofInt_u64 a,← ofInt_u64 b]
   rfl,ir.2 rfl⟩
theorem BH {a b:BitVec 64}(ar:bn c E L x (.of a))(a1:bn c E L y (.of b)):b6 c E L ⟨d,.binOp .or t x y t2,ty,pos,af,g⟩ (.of (a|||b)):= .pure fun A W s=>
 ⟨.int .u64 (a|||b).toNat,by
   simp only [execOp,eqGuard,binOp,ir.1 (ar A W s),ir.1 (a1 A W s)];have h:IntKind.u64.wrap ((a|||b).toNat:Int)=((a|||b).toNat:Int):=by rw [wrap_u64];have:=ER (a|||b);omega
   rw [← h];conv=>rhs;rw [← ofInt_u64 a,← ofInt_u64 b]
   rfl,ir.2 rfl⟩
theorem SK {a b:BitVec 64}(ar:bn c E L x (.of a))(a1:bn c E L y (.of b)):b6 c E L ⟨d,.binOp .xor t x y t2,ty,pos,af,g⟩ (.of (a ^^^ b)):= .pure fun A W s=>
 ⟨.int .u64 (a ^^^ b).toNat,by
   simp only [execOp,eqGuard,binOp,ir.1 (ar A W s),ir.1 (a1 A W s)];have h:IntKind.u64.wrap ((a ^^^ b).toNat:Int)=((a ^^^ b).toNat:Int):=by rw [wrap_u64];have:=ER (a ^^^ b);omega
   rw [← h];conv=>rhs;rw [← ofInt_u64 a,← ofInt_u64 b]
   rfl,ir.2 rfl⟩
theorem acp (a:BitVec 64)(n:Nat):IntKind.u64.wrap ((a.toNat:Int) * 2 ^ min n 64)=((a <<< n).toNat:Int):=by
 rw [wrap_u64,BitVec.toNat_shiftLeft,Nat.shiftLeft_eq];rcases Nat.lt_or_ge n 64 with h | h
 ·rw [Nat.min_eq_left (by omega)];simp
 rw [Nat.min_eq_right h];have e:(a.toNat * 2 ^ n) % 2 ^ 64=0:=by
  rw [show n=64+(n - 64) by omega,Nat.pow_add];exact Nat.mod_eq_zero_of_dvd ⟨a.toNat * 2 ^ (n - 64),by rw [← Nat.mul_assoc,Nat.mul_comm a.toNat,Nat.mul_assoc]⟩
 rw [e];have aX:(2:Int) ^ 64=18446744073709551616:=by decide
 rw [aX];omega
theorem acq (a:BitVec 64)(n:Nat):(a.toNat:Int).fdiv (2 ^ min n 64)=((a >>> n).toNat:Int):=by
 rw [BitVec.toNat_ushiftRight,Nat.shiftRight_eq_div_pow];have e:∀ m:Nat,(a.toNat:Int).fdiv (2 ^ m)=((a.toNat / 2 ^ m:Nat):Int):=by
  intro m;rw [show((2:Int) ^ m)=((2 ^ m:Nat):Int) by simp];rw [Int.fdiv_eq_ediv_of_nonneg _ (Int.natCast_nonneg _)];exact(Int.natCast_ediv _ _).symm
 rw [e];rcases Nat.lt_or_ge n 64 with h | h
 ·rw [Nat.min_eq_left (by omega)]
 rw [Nat.min_eq_right h];have h1:a.toNat / 2 ^ 64=0:=Nat.div_eq_of_lt a.isLt;have ae:a.toNat / 2 ^ n=0:=Nat.div_eq_of_lt (Nat.lt_of_lt_of_le a.isLt (Nat.pow_le_pow_right (by omega) h));rw [h1,ae]
theorem rK {a:BitVec 64}{b:BitVec 64}(ar:bn c E L x (.of a))(a1:bn c E L y (.of b)):b6 c E L ⟨d,.binOp .shl t x y t2,ty,pos,af,g⟩ (.of (a <<< b.toNat)):= .pure fun A W s=>
 ⟨.int .u64 (a <<< b.toNat).toNat,by
   simp only [execOp,eqGuard,binOp,ir.1 (ar A W s),ir.1 (a1 A W s)];have h:=ack c.P W .u64 .u64 a.toNat b.toNat (by omega);simp only [Int.toNat_natCast,IntKind.bits,acp] at h;exact congrArg (fun r:Result Value=>r.andThen fun v w=>.ok (Next.value v) w) h,ir.2 rfl⟩
theorem yP {a:BitVec 64}{b:BitVec 64}(ar:bn c E L x (.of a))(a1:bn c E L y (.of b)):b6 c E L ⟨d,.binOp .shr t x y t2,ty,pos,af,g⟩ (.of (a >>> b.toNat)):= .pure fun A W s=>
 ⟨.int .u64 (a >>> b.toNat).toNat,by
   simp only [execOp,eqGuard,binOp,ir.1 (ar A W s),ir.1 (a1 A W s)];have h:=acm c.P W .u64 .u64 a.toNat b.toNat (by omega);simp only [Int.toNat_natCast,IntKind.bits,acq] at h;exact congrArg (fun r:Result Value=>r.andThen fun v w=>.ok (Next.value v) w) h,ir.2 rfl⟩
theorem SG {a b:BitVec 64}(ar:bn c E L x (.of a))(a1:bn c E L y (.of b)):b6 c E L ⟨d,.binOp .lss t x y t2,ty,pos,af,g⟩ (.of (decide (a<b))):= .pure fun A W s=>
 ⟨.bool (decide (a<b)),by
   simp only [execOp,eqGuard,binOp,ir.1 (ar A W s),ir.1 (a1 A W s)];have h:decide ((a.toNat:Int)<(b.toNat:Int))=decide (a<b):=by simp [BitVec.lt_def,BitVec.le_def]
   rw [← h];rfl,of_bool.2 rfl⟩
theorem By {a b:BitVec 64}(ar:bn c E L x (.of a))(a1:bn c E L y (.of b)):b6 c E L ⟨d,.binOp .eql t x y t2,ty,pos,af,g⟩ (.of (a==b)):= .pure fun A W s=>
 ⟨.bool (a==b),by
   simp only [execOp,eqGuard,binOp,ir.1 (ar A W s),ir.1 (a1 A W s)];have h:((a.toNat:Int)==(b.toNat:Int))=(a==b):=by
    rw [Bool.eq_iff_iff];simp [bne];exact⟨fun h=>BitVec.eq_of_toNat_eq (by omega),fun h=>by rw [h]⟩
   rw [← h];rfl,of_bool.2 rfl⟩
theorem acf {a b:BitVec 64}(ar:bn c E L x (.of a))(a1:bn c E L y (.of b)):b6 c E L ⟨d,.binOp .neq t x y t2,ty,pos,af,g⟩ (.of (a !=b)):= .pure fun A W s=>
 ⟨.bool (a !=b),by
   simp only [execOp,eqGuard,binOp,ir.1 (ar A W s),ir.1 (a1 A W s)];have h:((a.toNat:Int) !=(b.toNat:Int))=(a !=b):=by
    rw [Bool.eq_iff_iff];simp [bne];exact⟨fun h=>fun e=>h (by rw [e]),fun h=>by intro e;exact h (BitVec.eq_of_toNat_eq (by omega))⟩
   rw [← h];rfl,of_bool.2 rfl⟩
theorem kW {a:Int}{src dst:TypeId}{e:TypeDesc}(hs:c.P.underlying src=some e)(hd:c.P.underlying dst=some (.int .u64))(ar:bn c E L x (.of a)):b6 c E L ⟨d,.convert src dst x,ty,pos,af,g⟩ (.of (BitVec.ofInt 64 a)):= .pure fun A W s=>
 ⟨.int .u64 (BitVec.ofInt 64 a).toNat,by
   have h:IntKind.u64.wrap a=((BitVec.ofInt 64 a).toNat:Int):=by rw [wrap_u64,BitVec.toNat_ofInt];omega
   simp [execOp,convert,run_underlying hs,run_underlying hd,of_int.1 (ar A W s),Conv.intToInt,h],ir.2 rfl⟩
theorem ac3 {a:BitVec 64}{src dst:TypeId}{e:TypeDesc}(hs:c.P.underlying src=some e)(hd:c.P.underlying dst=some (.int .i64))(ar:bn c E L x (.of a)):b6 c E L ⟨d,.convert src dst x,ty,pos,af,g⟩ (.of (bC a.toNat)):= .pure fun A W s=>
 ⟨.int .i64 (bC a.toNat),by
   simp only [execOp,convert,Sem.run_bind,run_underlying hs,run_underlying hd,ir.1 (ar A W s),Conv.intToInt,Result.andThen_ok];rfl,of_int.2 rfl⟩
end
def y3 (tmps:Array Value):ResultVar→Sem Value
 | .tmp t=>pure (tmps.getD t undef)
 | .cell a t=>do loadVar t (← asAddr (tmps.getD a undef))
theorem yG (fn:Func)(tmps:Array Value):results fn tmps=(do
 let vs ← fn.results.mapM (y3 tmps)
 pure (if h:vs.size=1 then vs[0] else .tuple vs)):=by
 unfold results
 congr 1
section
variable {c:dy} {E:List (Nat×I)} {L:List aR} {ops:Array Oper} {Q:Exit→Act→World→Prop}
def wm (c:dy)(E:List (Nat×I))(L:List aR)(r:ResultVar)(τ:I):Prop:=
 ∀ a W,bN c E L a W→ ∃ v,(y3 a.tmps r).run c.P W= .ok v W∧τ.holds c.cc W v
theorem zw {t:Nat}{τ:I}(h:look E t=some τ):wm c E L (.tmp t) τ:=fun a W s=>by
 obtain⟨v,h1,ae⟩:=s.env t τ h;exact⟨v,by simp [y3,h1],Q8 ae⟩
theorem ahL {t:Nat}{ty:TypeId}{i p:Nat}{α:Type}[aj α]{x:α}(eO:bx c.P ty α)(h:look E t=some (.eq (.pointer (some ⟨p,0,none⟩))))(al:L[i]? =some ⟨some p,.var x⟩):wm c E L (.cell t ty) (.of x):=fun a W s=>by
 obtain⟨v,h1,ae⟩:=s.env t _ h;subst ae;obtain⟨qC,fC,cs,T,rfl,ht⟩:=s.own _ (List.mem_of_getElem? al);have ao:cs.toList.length=aj.size α:=aj.len ht;have ed:cs.size=aj.size α:=by simpa using ao
 obtain⟨v,aA,aV⟩:=yz (A:=aT L++c.cc) (off:=0) eO fC (by omega) (by rw [List.drop_zero,← ao,List.take_length];exact ht);exact⟨v,by simp [y3,h1,asAddr,aA],Q8 aV⟩
def Ck (c:dy)(ρ:I):Ending→World→Prop:=fun e W'=> ∃ v,e= .returned v∧Fr c.X c.kA W'∧ρ.holds c.cc W' v
theorem ad.jX {fn:Func}{r:ResultVar}{τ:I}(aI:fn.results= #[r])(h:wm c E L r τ)(gv:c.ds= []:=by rfl):ad c (bodyPost c.P fn (Ck c τ)) .ret E L:=fun a W s=>by
 obtain⟨v,h1,ae⟩:=h a W s;exact⟨s.yL gv,v,by simp [yG,aI,h1],v,rfl,s.eh,ae⟩
theorem ad.JG {fn:Func}{r ia:ResultVar}{τ oE:I}(aI:fn.results= #[r,ia])(h:wm c E L r τ)(ae:wm c E L ia oE)(gv:c.ds= []:=by rfl):ad c (bodyPost c.P fn (Ck c (.c4 [τ,oE]))) .ret E L:=fun a W s=>by
 obtain⟨v,aA,aV⟩:=h a W s;obtain⟨v2,bc,bs⟩:=ae a W s;exact⟨s.yL gv,.tuple #[v,v2],by simp [yG,aI,aA,bc],_,rfl,s.eh,_,rfl,.cons aV (.cons bs .nil)⟩
theorem ad.Vz {fn:Func}{r ia qE:ResultVar}{τ oE F5:I}(aI:fn.results= #[r,ia,qE])(h:wm c E L r τ)(ae:wm c E L ia oE)(aA:wm c E L qE F5)(gv:c.ds= []:=by rfl):ad c (bodyPost c.P fn (Ck c (.c4 [τ,oE,F5]))) .ret E L:=fun a W s=>by
 obtain⟨v,aV,bc⟩:=h a W s;obtain⟨v2,bs,df⟩:=ae a W s;obtain⟨v3,dz,ea⟩:=aA a W s;exact⟨s.yL gv,.tuple #[v,v2,v3],by simp [yG,aI,aV,bs,dz],_,rfl,s.eh,_,rfl,.cons bc (.cons df (.cons ea .nil))⟩
theorem b2.of {P:Program}{f:FuncId}{fn:Func}{code:Code}{n:Nat}{τs:List I}{ρ:I}(aY:P.funcs[f]? =some fn)(hb:fn.body=some code)(aQ:fn.ntmps=n)(hlen:Nat.ble τs.length n=true)
 (h:∀ W A,ag ⟨P,n,W,[],A,none,[]⟩ (bodyPost P fn (Ck ⟨P,n,W,[],A,none,[]⟩ ρ)) code (params 0 τs) []):b2 P f τs ρ:=b2.enter aY hb aQ hlen h
end
structure nw (P:Program)(t:TypeId)(α:Type)[aj α][DecidableEq α](k:Nat):Prop where
 run:∀ d,k≤d→ ∀ A W u v (x y:α),(I.of x).holds A W u→ (I.of y).holds A W v→ (Op.equalIn d t u v).run P W= .ok (decide (x=y)) W
theorem SU {P t K}(h:P.underlying t=some (.int K)):nw P t Int 1 where
 run d hd A W u v x y ar a1:=by
  obtain⟨d,rfl⟩:∃ e,d=e+1:=⟨d - 1,by omega⟩;rw [of_int.1 ar,of_int.1 a1,run_equalIn_int W d t .i64 K x y h];congr 1
theorem acr {P t K}(h:P.underlying t=some (.int K)):nw P t (BitVec 64) 1 where
 run d hd A W u v x y ar a1:=by
  obtain⟨d,rfl⟩:∃ e,d=e+1:=⟨d - 1,by omega⟩;rw [ir.1 ar,ir.1 a1,run_equalIn_int W d t .u64 K _ _ h];congr 1;rw [Bool.eq_iff_iff];simp only [beq_iff_eq,decide_eq_true_eq];exact⟨fun h=>BitVec.eq_of_toNat_eq (by omega),fun h=>by rw [h]⟩
theorem abr {P t}(h:P.underlying t=some .bool):nw P t Bool 1 where
 run d hd A W u v x y ar a1:=by
  obtain⟨d,rfl⟩:∃ e,d=e+1:=⟨d - 1,by omega⟩;rw [of_bool.1 ar,of_bool.1 a1,run_equalIn_bool' W d t x y h];congr 1
theorem Ln {P:Program}{W:World}(f:Nat→Sem Bool)(p:Nat→Bool):∀ (l:List Nat),(∀ i∈l,(f i).run P W= .ok (p i) W)→
 (forIn (m:=Sem) l ((none,()):Option Bool×Unit) (fun i _=>do
  let __do_lift ← f i
  if (!__do_lift)=true then pure (ForInStep.done (some false,())) else
   pure (ForInStep.yield (none,())))).run P W= .ok (if l.all p then(none,()) else(some false,())) W
 | [],_=>by simp
 | i::r,h=>by
   have h1:=h i (by simp);have ae:=Ln (P:=P) (W:=W) f p r (fun j aF=>h j (by simp [aF]));cases hp:p i with
   | false=>simp [List.forIn_cons,h1,hp]
   | true=>
     rw [List.forIn_cons]
     simp only [Sem.run_bind,h1,hp,Result.andThen_ok,Bool.not_true,Bool.false_eq_true,if_false,Sem.run_pure]
     rw [ae]
     simp [hp]
theorem SV {P t e n k}{α:Type}[aj α][Inhabited α][DecidableEq α](h:P.underlying t=some (.array n e))(fl:bx P e α)(he:nw P e α k):nw P t (Vector α n) (k+1) where
 run d hd A W u v x y ar a1:=by
  obtain⟨d,rfl⟩:∃ e,d=e+1:=⟨d - 1,by omega⟩;obtain⟨h1,ae⟩:=ar;obtain⟨aA,aV⟩:=a1;obtain⟨xs,rfl⟩:∃ cs,u= .agg cs:=by simpa [shaped,aj.agg] using h1
  obtain⟨ys,rfl⟩:∃ cs,v= .agg cs:=by simpa [shaped,aj.agg] using aA
  simp only [Value.cells] at ae aV;have vT:xs.toList.length=n * aj.size α:=aj.len ae;have F6:ys.toList.length=n * aj.size α:=aj.len aV;have vp:∀ i∈List.range' 0 n,((do
   let a ← part e xs (i * aj.size α)
   let b ← part e ys (i * aj.size α)
   Op.equalIn d e a b):Sem Bool).run P W= .ok (decide (cd x i=cd y i)) W:=by
   intro i au
   have hX:i<n:=by simpa using au
   have gu:i * aj.size α+aj.size α≤n * aj.size α:=(aJ.idx (α:=α) n i hX).hv
   obtain⟨a,a7,vU⟩:=tI (A:=A) (P:=P) (W:=W) (cs:=xs) (off:=i * aj.size α) fl (by simp at vT;omega) ((aJ.idx (α:=α) n i hX).jU ae)
   obtain⟨b,hb,F7⟩:=tI (A:=A) (P:=P) (W:=W) (cs:=ys) (off:=i * aj.size α) fl (by simp at F6;omega) ((aJ.idx (α:=α) n i hX).jU aV)
   simp only [Sem.run_bind,a7,hb,Result.andThen_ok]
   exact he.run d (by omega) A W a b _ _ vU F7
  have aY:=Ln (P:=P) (W:=W) _ _ _ vp;have pA:(List.range' 0 n).all (fun i=>decide (cd x i=cd y i))=decide (x=y):=by
   rw [Bool.eq_iff_iff,List.all_eq_true,decide_eq_true_eq];constructor
   ·intro h;apply Vector.ext;intro i au;have:=h i (by simpa using au);simpa [cd,au] using this
   rintro rfl i _;simp
  rw [pA] at aY;simp only [Op.equalIn,Sem.run_bind,run_underlying h,Result.andThen_ok,fl.sizeOf,Std.Legacy.Range.forIn_eq_forIn_range'];simp only [Std.Legacy.Range.size,Nat.sub_zero,Nat.add_one_sub_one,Nat.div_one] at aY ⊢;simp only [bind_assoc] at aY;rw [aY];by_cases F8:x=y
  ·simp [F8]
  simp [F8]
section
variable {c:dy} {E:List (Nat×I)} {L:List aR} {ops:Array Oper} {Q:Exit→Act→World→Prop}
variable {d:Option Tmp} {ty:TypeId} {pos:String} {af:Array Edge} {g:Option (Nat×Bool)} {x y:Operand} {t t2:TypeId}
theorem E0 {α:Type}[aj α][DecidableEq α]{k:Nat}{a b:α}(Ab:nw c.P t α k)(hk:Nat.ble k 10000=true)(bO:c.P.eqGuardType c.P.depth t=false)(a7:aj.agg α=true)(ar:bn c E L x (.of a))(a1:bn c E L y (.of b)):
 b6 c E L ⟨d,.binOp .eql t x y t2,ty,pos,af,g⟩ (.of (decide (a=b))):= .pure fun A W s=>by
 have h1:=ar A W s
 have ae:=a1 A W s
 obtain⟨xs,o5⟩:∃ cs,A.eval x= .agg cs:=by simpa [shaped,a7] using h1.1
 obtain⟨ys,xR⟩:∃ cs,A.eval y= .agg cs:=by simpa [shaped,a7] using ae.1
 have aA:=Ab.run 10000 (Nat.le_of_ble_eq_true hk) _ W _ _ a b h1 ae
 rw [o5,xR] at aA
 refine⟨.bool (decide (a=b)),?_,of_bool.2 rfl⟩
 simp only [execOp,o5,xR,Sem.run_bind,run_eqGuard_agg W .eql t x y xs ys bO,Result.andThen_ok,run_eql_struct,aA,Sem.run_pure]
theorem Nl {α:Type}[aj α][DecidableEq α]{k:Nat}{a b:α}(Ab:nw c.P t α k)(hk:Nat.ble k 10000=true)(bO:c.P.eqGuardType c.P.depth t=false)(a7:aj.agg α=true)(ar:bn c E L x (.of a))(a1:bn c E L y (.of b)):
 b6 c E L ⟨d,.binOp .neq t x y t2,ty,pos,af,g⟩ (.of (!decide (a=b))):= .pure fun A W s=>by
 have h1:=ar A W s
 have ae:=a1 A W s
 obtain⟨xs,o5⟩:∃ cs,A.eval x= .agg cs:=by simpa [shaped,a7] using h1.1
 obtain⟨ys,xR⟩:∃ cs,A.eval y= .agg cs:=by simpa [shaped,a7] using ae.1
 have aA:=Ab.run 10000 (Nat.le_of_ble_eq_true hk) _ W _ _ a b h1 ae
 rw [o5,xR] at aA
 refine⟨.bool (!decide (a=b)),?_,of_bool.2 rfl⟩
 simp only [execOp,o5,xR,Sem.run_bind,run_eqGuard_agg W .neq t x y xs ys bO,Result.andThen_ok,run_neq_struct,aA,Sem.run_pure]
end
theorem IE {P:Program}{W:World}{d:Nat}{xs ys:Array Value} :(Op.eqFields d xs ys []).run P W= .ok true W:=rfl
theorem rI {P:Program}{A:List Nat}{W:World}{d:Nat}{xs ys:Array Value}{β γ:Type}[aj β][aj γ][DecidableEq γ](l:aJ β γ){PI PJ:β}{fd:Field}{fs:List Field}{k:Nat}{r:Bool}(fl:bx P fd.type γ)(bp:fd.offset=l.off)(aQ:(fd.name== "_")=false)
 (Ab:nw P fd.type γ k) (hd:k≤d) (ar:aj.rep A W xs.toList PI) (a1:aj.rep A W ys.toList PJ) (aI:(Op.eqFields d xs ys fs).run P W= .ok r W):
 (Op.eqFields d xs ys (fd::fs)).run P W= .ok (decide (l.get PI=l.get PJ)&&r) W:=by
 have vT:xs.toList.length=aj.size β:=aj.len ar
 have F6:ys.toList.length=aj.size β:=aj.len a1
 have gu:=l.hv
 obtain⟨a,a7,vU⟩:=tI (A:=A) (P:=P) (W:=W) (cs:=xs) (off:=l.off) fl (by simp at vT;omega) (l.jU ar)
 obtain⟨b,hb,F7⟩:=tI (A:=A) (P:=P) (W:=W) (cs:=ys) (off:=l.off) fl (by simp at F6;omega) (l.jU a1)
 have pH:fd.name≠ "_" :=fun e=>by rw [e] at aQ;simp at aQ
 simp only [Op.eqFields,if_pos pH,Sem.run_bind,bp,a7,hb,Result.andThen_ok,Ab.run d hd A W a b _ _ vU F7]
 by_cases h:l.get PI=l.get PJ
 ·simp [h,aI]
 simp [h]
theorem H8 {P:Program}{t:TypeId}{β:Type}[aj β][DecidableEq β]{k:Nat}{fs:Array Field}(a7:aj.agg β=true)(hu:P.underlying t=some (.struct fs))(hp:P.stoodInHeld t=false)
 (h:∀ d,k≤d→ ∀ A W (xs ys:Array Value) (x y:β),aj.rep A W xs.toList x→aj.rep A W ys.toList y→ (Op.eqFields d xs ys fs.toList).run P W= .ok (decide (x=y)) W):nw P t β (k+1) where
 run d hd A W u v x y ar a1:=by
  obtain⟨d,rfl⟩:∃ e,d=e+1:=⟨d - 1,by omega⟩;obtain⟨xs,rfl⟩:∃ cs,u= .agg cs:=by simpa [shaped,a7] using ar.1
  obtain⟨ys,rfl⟩:∃ cs,v= .agg cs:=by simpa [shaped,a7] using a1.1
  have aY:P.fieldsOf t=fs:=by simp [Program.fieldsOf,hu]
  rw [run_equalIn_struct W d t xs ys (by rw [aY];exact hu) hp,aY];exact h d (by omega) A W xs ys x y (by simpa [Value.cells] using ar.2) (by simpa [Value.cells] using a1.2)
theorem QJ {P:Program}{W:World}(fs:Array Field)(h:fs.all (fun f=>(P.info? f.type).isSome)=true):
 (fs.mapM (m:=Sem) fun f=>do pure (f.offset,← Go.sizeOf f.type)).run P W= .ok (fs.map fun f=>(f.offset,P.cellsOf f.type)) W:=by
 obtain⟨l⟩:=fs
 have key:∀ (l:List Field),l.all (fun f=>(P.info? f.type).isSome)=true→ (l.mapM (m:=Sem) fun f=>do pure (f.offset,← Go.sizeOf f.type)).run P W= .ok (l.map fun f=>(f.offset,P.cellsOf f.type)) W:=by
  intro l;induction l with
  | nil=>intro _;rfl
  | cons f r cA=>
    intro h
    simp only [List.all_cons,Bool.and_eq_true] at h
    obtain⟨i,au⟩:=Option.isSome_iff_exists.1 h.1
    rw [List.mapM_cons]
    simp only [Sem.run_bind,Go.sizeOf,typeInfo,run_program,Result.andThen_ok,au,Sem.run_pure]
    have:=cA h.2
    simp only [Sem.run_bind,Go.sizeOf,typeInfo] at this
    rw [this]
    simp [Program.cellsOf,au]
 have dc:l.all (fun f=>(P.info? f.type).isSome)=true:=by simpa using h
 rw [List.mapM_toArray]
 simp only [Sem.run_map,key l dc,Result.andThen_ok]
 simp
theorem ZD (ds:List Value)(off:Nat):∀ (j:Nat) (cs:Array Value),off+j+ds.length≤cs.size→
 (ds.zipIdx j).foldl (fun cs (c,j)=>cs.setIfInBounds (off+j) c) cs=(cs.toList.take (off+j)++ds++cs.toList.drop (off+j+ds.length)).toArray:=by
 induction ds with
 | nil=>intro j cs _;simp
 | cons v r cA=>
   intro j cs h
   simp only [List.length_cons] at h
   rw [List.zipIdx_cons,List.foldl_cons,cA (j+1) _ (by simp;omega)]
   simp only [Array.toList_setIfInBounds]
   have:=list_seg_step cs.toList (off+j) v r (by simp;omega)
   rw [show off+(j+1)=off+j+1 by omega]
   simp only [List.length_cons]
   rw [this]
theorem Io {place:Nat→Option (Nat×Nat)}{cs:Array Value}{i off sz:Nat}{v:Value}{rest:List (Nat×Value)}(hp:place i=some (off,sz))(bm:v.cells.size=sz)(hle:off+sz≤cs.size):
 Instr.fill place cs ((i,v)::rest)=Instr.fill place (hr cs.toList off v.cells.toList).toArray rest:=by
 simp only [Instr.fill,hp]
 rw [if_neg (by simp [bm];omega)]
 have:=ZD v.cells.toList off 0 cs (by simp [bm];omega)
 simp only [Nat.add_zero] at this
 congr 1
 rw [← Array.foldl_toList]
 have cJ:(v.cells.zipIdx).toList=v.cells.toList.zipIdx:=by simp
 rw [cJ,this]
 simp [hr]
section
variable {c:dy} {E:List (Nat×I)} {L:List aR} {ops:Array Oper} {Q:Exit→Act→World→Prop}
variable {d:Option Tmp} {ty:TypeId} {pos:String} {af:Array Edge} {g:Option (Nat×Bool)} {x y:Operand} {t t2:TypeId}
inductive tZ (c:dy)(E:List (Nat×I))(L:List aR)(place:Nat→Option (Nat×Nat)){β:Type}[aj β]:β→List (Nat×Operand)→β→Prop
 | nil {b} :tZ c E L place b [] b
 | cons {b ew b':β} {γ:Type} [aj γ] {v:γ} {i:Nat} {x:Operand} {r:List (Nat×Operand)} (l:aJ β γ):place i=some (l.off,aj.size γ)→bn c E L x (.of v)→l.set b v=ew→tZ c E L place ew r b'→tZ c E L place b ((i,x)::r) b'
theorem tZ.run {place:Nat→Option (Nat×Nat)}{β:Type}[aj β]{b b':β}{fi:List (Nat×Operand)}(h:tZ c E L place b fi b'):∀ a W,bN c E L a W→ ∀ cs:Array Value,aj.rep (aT L++c.cc) W cs.toList b→
 ∃ fh,Instr.fill place cs (fi.map fun(i,x)=>(i,a.eval x))=some fh∧aj.rep (aT L++c.cc) W fh.toList b':=by
 induction h with
 | nil=>intro a W s cs aI;exact⟨cs,rfl,aI⟩
 | @cons b ew b' γ _ v i x r l h1 ae aA _ cA=>
   intro a W s cs aI
   subst aA
   have bm:=ae a W s
   have ed:(a.eval x).cells.size=aj.size γ:=by have:=aj.len bm.2;simpa using this
   have ao:cs.toList.length=aj.size β:=aj.len aI
   have gu:=l.hv
   rw [List.map_cons,Io h1 ed (by simp at ao;omega)]
   refine cA a W s _ ?_
   have:=l.nM aI bm.2
   simpa [hr,aj.len bm.2] using this
structure hn (P:Program)(t:TypeId)(pl:Array (Nat×Nat)):Prop where
 at_:∃ fs,P.underlying t=some (.struct fs)∧fs.all (fun f=>(P.info? f.type).isSome)=true∧ (fs.map fun f=>(f.offset,P.cellsOf f.type))=pl
theorem dg {β:Type}[aj β]{z b:β}{fi:List (Nat×Operand)}{pl:Array (Nat×Nat)}(a7:aj.agg β=true)(GN:hn c.P t pl)(h9:cI c.P t z)
 (aY:tZ c E L (pl[·]?) z fi b):b6 c E L ⟨d,.build t fi.toArray,ty,pos,af,g⟩ (.of b):= .pure fun a W s=>by
 obtain⟨fs,hu,hs,rfl⟩:=GN.at_
 obtain⟨i,e4,h1,ae,aA⟩:=h9.zero
 obtain⟨fh,aV,bc⟩:=aY.run a W s e4.cells (aA _ _).2
 refine⟨.agg fh,?_,by simp [shaped,a7],by simpa [Value.cells] using bc⟩
 have hm:(fi.toArray.map fun(x:Nat×Operand)=>(x.1,a.eval x.2)).toList=fi.map fun(i,x)=>(i,a.eval x):=by simp
 simp only [execOp,Instr.build,Sem.run_bind,zeroValue,typeInfo,run_program,Result.andThen_ok,h1,ae,Sem.run_pure,run_underlying hu,QJ fs hs]
 rw [hm,aV]
 rfl
theorem abg {β:Type}[aj β]{z b:β}{fi:List (Nat×Operand)}{n e sz:Nat}(a7:aj.agg β=true)(hu:c.P.underlying t=some (.array n e))(hs:(c.P.info? e).map (·.size)=some sz)(h9:cI c.P t z)
 (aY:tZ c E L (fun i=>some (i * sz,sz)) z fi b):b6 c E L ⟨d,.build t fi.toArray,ty,pos,af,g⟩ (.of b):= .pure fun a W s=>by
 obtain⟨i,e4,h1,ae,aA⟩:=h9.zero
 obtain⟨hg,eL,ed⟩:∃ hg,c.P.info? e=some hg∧hg.size=sz:=by
  cases au:c.P.info? e with
  | none=>simp [au] at hs
  | some hg=>exact⟨hg,rfl,by simpa [au] using hs⟩
 obtain⟨fh,aV,bc⟩:=aY.run a W s e4.cells (aA _ _).2
 refine⟨.agg fh,?_,by simp [shaped,a7],by simpa [Value.cells] using bc⟩
 have hm:(fi.toArray.map fun(x:Nat×Operand)=>(x.1,a.eval x.2)).toList=fi.map fun(i,x)=>(i,a.eval x):=by simp
 simp only [execOp,Instr.build,Sem.run_bind,zeroValue,typeInfo,run_program,Result.andThen_ok,h1,ae,Sem.run_pure,run_underlying hu,Go.sizeOf,eL,ed]
 rw [hm,aV]
 rfl
end
def qF {α:Type}[aj α](A:List Nat)(W:World)(v:Value)(xs:List α):Prop:=
 (v= .slice none 0 0∧xs= [])∨
 ∃ b off cap cur T iS,v= .slice (some ⟨b,off,none⟩) xs.length cap∧b ∉ A∧W.heap[b]? =some (.cells cur T iS)∧xs.length≤cap∧xs.length≤maxLen∧off+xs.length * aj.size α≤cur.size∧
   hJ A W ((cur.toList.drop off).take (xs.length * aj.size α)) xs
theorem qF.mono {α:Type}[aj α]{A W dd W' v}{xs:List α}(e:Ext A W dd W')(h:qF A W v xs):qF dd W' v xs:=by
 rcases h with h | ⟨b,off,cap,cur,T,iS,h1,ae,aA,aV,bc,bs,df⟩
 ·exact .inl h
 have cH:b<W.heap.size:=(Array.getElem?_eq_some_iff.1 aA).1;exact .inr ⟨b,off,cap,cur,T,iS,h1,fun hm=>ae (e.new b hm cH),by rw [e.block b cH ae];exact aA,aV,bc,bs,df.mono e⟩
instance aky {α:Type} [aj α]:aj (List α) where
 size:=1
 agg:=false
 rep A W cs xs:= ∃ v,cs= [v]∧qF A W v xs
 len h:=by obtain⟨v,rfl,_⟩:=h;rfl
 one h:=by
  obtain⟨v,rfl,h⟩:=h;intro u hu;rw [List.mem_singleton.1 hu];rcases h with⟨rfl,_⟩ | ⟨b,off,cap,cur,T,iS,rfl,_⟩ <;> rfl
 flat _:=rfl
 mono e h:=let⟨v,h1,ae⟩:=h; ⟨v,h1,ae.mono e⟩
theorem qF.one {α:Type}[aj α]{A W v}{xs:List α}(h:qF A W v xs):v.oneCell'=true:=by
 rcases h with⟨rfl,_⟩ | ⟨b,off,cap,cur,T,iS,rfl,_⟩ <;> rfl
theorem pj {α:Type}[aj α]{A W v}{xs:List α} :(I.of xs).holds A W v↔qF A W v xs:=by
 constructor
 ·rintro ⟨h1,u,ae,aA⟩;have:v=u:=oR h1 ae;rw [this];exact aA
 intro h;exact⟨h.one,v,by rw [cells_one h.one],h⟩
def aE {α:Type}[Inhabited α](xs:List α)(k:Nat):α:=xs[k]?.getD default
theorem e7 {α:Type}[Inhabited α](xs:List α){k:Nat}(h:k<xs.length):aE xs k=xs[k]:=by simp [aE,h]
def qW {α:Type}(xs:List α)(lo au:Int):Option (List α):=if 0≤lo∧lo≤au∧au≤xs.length then some ((xs.drop lo.toNat).take (au.toNat - lo.toNat)) else none
theorem ZE {α:Type}{xs r:List α}{lo au:Int}(h:qW xs lo au=some r):∃ a b:Nat,lo=a∧au=b∧a≤b∧b≤xs.length∧r=(xs.drop a).take (b - a):=by
 unfold qW at h;split at h
 ·rename_i ai;simp only [Option.some.injEq] at h;exact⟨lo.toNat,au.toNat,by omega,by omega,by omega,by omega,h.symm⟩
 cases h
def fY {α:Type}(bytes:Nat)(xs ys:List α):Option (List α):=if (xs.length+ys.length) * bytes≤140737488355328∧xs.length+ys.length≤maxLen then some (xs++ys) else none
theorem Rx {α:Type}{bytes:Nat}{xs ys r:List α}(h:fY bytes xs ys=some r):(xs.length+ys.length) * bytes≤140737488355328∧xs.length+ys.length≤maxLen∧r=xs++ys:=by
 unfold fY at h;split at h
 ·rename_i ai;simp only [Option.some.injEq] at h;exact⟨ai.1,ai.2,h.symm⟩
 cases h
section
variable {c:dy} {E:List (Nat×I)} {L:List aR} {ops:Array Oper} {Q:Exit→Act→World→Prop}
variable {d:Option Tmp} {ty:TypeId} {pos:String} {af:Array Edge} {g:Option (Nat×Bool)} {x y:Operand} {t t2:TypeId}
theorem look_nil {α:Type}[aj α]:bn c E L (.const (.slice none 0 0)) (.of ([]:List α)):=fun _ _ _=>pj.2 (.inl ⟨rfl,rfl⟩)
theorem qF.len {α:Type}[aj α]{A W v}{xs:List α}(h:qF A W v xs):∃ a cap,v= .slice a xs.length cap:=by
 rcases h with⟨rfl,rfl⟩ | ⟨b,off,cap,cur,T,iS,rfl,_⟩
 ·exact⟨none,0,rfl⟩
 exact⟨_,_,rfl⟩
theorem dW {α:Type}[aj α]{xs:List α}{e:TypeId}(hu:c.P.underlying t=some (.slice e))(ar:bn c E L x (.of xs)):b6 c E L ⟨d,.call ⟨.builtin .len,#[x],#[t]⟩,ty,pos,af,g⟩ (.of (xs.length:Int)):= .pure fun a W s=>by
 obtain⟨b,cap,h1⟩:=(pj.1 (ar a W s)).len;exact⟨.int .i64 xs.length,by simp [execOp,resolve,invoke,builtin,Builtin.len_,h1,run_underlying hu,goInt],of_int.2 rfl⟩
theorem nS {α:Type}[aj α][Inhabited α]{xs:List α}{e:TypeId}{i:Int}{k:Nat}(hu:c.P.underlying t=some (.slice e))(fl:bx c.P e α)(ar:bn c E L x (.of xs))(a1:bn c E L y (.of i))(hk:k<xs.length∧i=k):
 b6 c E L ⟨d,.indexAddr t x y,ty,pos,af,g⟩ (.ptr (aE xs k)):= .pure fun a W s=>by
 obtain⟨bs,rfl⟩:=hk
 have bc:=of_int.1 (a1 a W s)
 rcases pj.1 (ar a W s) with⟨_,rfl⟩ | ⟨b,off,cap,cur,T,iS,h1,ae,aA,aV,df,dz,ea⟩
 ·simp at bs
 obtain⟨hg,eL,ed⟩:=fl.info
 have hle:(k+1) * aj.size α≤xs.length * aj.size α:=Nat.mul_le_mul_right _ bs
 rw [Nat.succ_mul] at hle
 refine⟨.pointer (some ⟨b,off+k * aj.size α,none⟩),?_,b,off+k * aj.size α,cur,T,iS,rfl,ae,aA,by omega,?_⟩
 ·simp [execOp,Instr.indexAt,asIntOf,run_underlying hu,h1,bc,bs,Go.sizeOf,typeInfo,eL,ed,kU]
 have:=ea.2 k bs
 rw [yB _ _ _ _ _ hle] at this
 rw [e7 xs bs]
 exact this
theorem rF {P:Program}{W:World}{v:Value}{k:IntKind}{n m:Nat}{code:BoundsCode}(h:n≤m)(bm:v= .int k n):(Instr.sliceBound v m code).run P W= .ok n W:=by
 subst bm;have bH:(n:Int)≤ (m:Int):=by omega
 simp [Instr.sliceBound,asIntOf,h]
theorem acs {α:Type}[aj α]{A W}{xs:List α}{b off cap:Nat}{cur:Array Value}{T:TypeId}{iS:Nat×Nat}{lo au:Nat}(ae:b ∉ A)(aA:W.heap[b]? =some (.cells cur T iS))(aV:xs.length≤cap)(df:xs.length≤maxLen)
 (dz:off+xs.length * aj.size α≤cur.size) (ea:hJ A W ((cur.toList.drop off).take (xs.length * aj.size α)) xs) (h:lo≤au) (dc:au≤xs.length):
 qF A W (.slice (some (if cap=lo then⟨b,off,none⟩ else⟨b,off+lo * aj.size α,none⟩)) (au - lo) (cap - lo)) ((xs.drop lo).take (au - lo)):=by
 have ao:((xs.drop lo).take (au - lo)).length=au - lo:=by simp;omega
 have hm:au * aj.size α≤xs.length * aj.size α:=Nat.mul_le_mul_right _ dc
 have tg:lo * aj.size α≤au * aj.size α:=Nat.mul_le_mul_right _ h
 have hd:(au - lo) * aj.size α=au * aj.size α - lo * aj.size α:=Nat.sub_mul _ _ _
 by_cases e:cap=lo
 ·subst e
  have bH:au=cap:=by omega
  subst bH
  refine .inr ⟨b,off,au - au,cur,T,iS,by simp,ae,aA,by simp,by simp,by simp;omega,?_⟩
  simp only [Nat.sub_self,List.take_zero,List.length_nil,Nat.zero_mul]
  exact⟨by simp,fun i au=>by simp at au⟩
 rw [if_neg e]
 refine .inr ⟨b,off+lo * aj.size α,cap - lo,cur,T,iS,by rw [ao],ae,aA,by omega,by omega,by rw [ao];omega,?_⟩
 rw [ao]
 refine⟨by simp only [ao,List.length_take,List.length_drop];simp;omega,fun i hX=>?_⟩
 rw [ao] at hX
 have nx:=ea.2 (lo+i) (by omega)
 have hle:(lo+i+1) * aj.size α≤xs.length * aj.size α:=Nat.mul_le_mul_right _ (by omega)
 have JM:(i+1) * aj.size α≤ (au - lo) * aj.size α:=Nat.mul_le_mul_right _ (by omega)
 rw [Nat.succ_mul] at hle JM
 rw [yB _ _ _ _ _ hle] at nx
 rw [yB _ _ _ _ _ JM]
 have:((xs.drop lo).take (au - lo))[i]'(by rw [ao];exact hX)=xs[lo+i]:=by simp
 rw [this]
 rw [show off+lo * aj.size α+i * aj.size α=off+(lo+i) * aj.size α by rw [Nat.add_mul];omega]
 exact nx
inductive x6 (c:dy)(E:List (Nat×I))(L:List aR):Option Operand→Int→Int→Prop
 | none {n} :x6 c E L .none n n
 | some {x i n} :bn c E L x (.of (i:Int))→x6 c E L (.some x) i n
theorem Ez {α:Type}[aj α]{xs r:List α}{e:TypeId}{lo au:Option Operand}{i j:Int}(hu:c.P.underlying t=some (.slice e))(fl:bx c.P e α)(ar:bn c E L x (.of xs))(ij:x6 c E L lo i 0)(gW:x6 c E L au j xs.length)
 (h:qW xs i j=some r):b6 c E L ⟨d,.slice t x lo au none,ty,pos,af,g⟩ (.of r):= .pure fun a W s=>by
 obtain⟨m,n,rfl,rfl,vO,aQ,rfl⟩:=ZE h
 obtain⟨hg,eL,ed⟩:=fl.info
 rcases pj.1 (ar a W s) with⟨h1,rfl⟩ | ⟨b,off,cap,cur,T,iS,h1,ae,aA,aV,df,dz,ea⟩
 ·have uq:n=0:=by simpa using aQ
  have iB:m=0:=by omega
  subst uq
  subst iB
  refine⟨.slice none 0 0,?_,pj.2 (.inl ⟨rfl,by simp⟩)⟩
  have al:(match lo.map a.eval with | some v=>Instr.sliceBound v 0 .sliceB | none=>pure 0:Sem Nat).run c.P W= .ok 0 W:=by
   cases ij with
   | none=>rfl
   | some ao=>exact rF (Nat.le_refl _) (of_int.1 (ao a W s))
  have hH:(match au.map a.eval,(none:Option Value) with | some v,some _=>Instr.sliceBound v 0 .slice3B | some v,none=>Instr.sliceBound v 0 .sliceAcap | none,none=>pure 0 | none,some _=>stuck "Slice: max without high" :Sem Nat).run c.P W= .ok 0 W:=by
   cases gW with
   | none=>rfl
   | some ao=>exact rF (Nat.le_refl _) (of_int.1 (ao a W s))
  cases ij <;> cases gW
  all_goals
   simp only [execOp,Instr.sliceAt,Instr.slice,Instr.sliceBounds,h1,Sem.run_bind,run_underlying hu,Result.andThen_ok,Option.map_none,Option.map_some,Option.isSome_none,Bool.false_eq_true,if_false,if_true,Sem.run_pure] at al hH ⊢
   try simp only [al,hH,Result.andThen_ok,Go.sizeOf,typeInfo,Sem.run_bind,run_program,eL,Sem.run_pure]
   try simp [eL]
 refine⟨.slice (some (if cap=m then⟨b,off,none⟩ else⟨b,off+m * aj.size α,none⟩)) (n - m) (cap - m),?_,pj.2 (acs ae aA aV df dz ea vO aQ)⟩
 have al:∀ v,v=Value.int .i64 m→ (Instr.sliceBound v n .sliceB).run c.P W= .ok m W:=fun v bm=>rF vO bm
 have hH:∀ v,v=Value.int .i64 n→ (Instr.sliceBound v cap .sliceAcap).run c.P W= .ok n W:=fun v bm=>rF (by omega) bm
 have FF:(if cap=m then(some ⟨b,off,none⟩:Option Addr) else(some (Addr.add ⟨b,off,none⟩ (m * aj.size α))))=some (if cap=m then⟨b,off,none⟩ else⟨b,off+m * aj.size α,none⟩):=by
  split <;> simp [kU]
 generalize gu:(n:Int)=WZ at gW
 generalize vV:(m:Int)=W0 at ij
 generalize F9:(xs.length:Int)=W1 at gW
 generalize Wl:(0:Int)=W2 at ij
 cases ij with
 | none=>
   have iB:m=0:=by omega
   cases gW with
   | none=>
     have mh:n=xs.length:=by omega
     subst mh
     subst iB
     simp [execOp,Instr.sliceAt,Instr.slice,Instr.sliceBounds,h1,run_underlying hu,Go.sizeOf,typeInfo,eL,ed,kU]
   | some ao=>
     have bc:=of_int.1 (ao a W s)
     rw [← gu] at bc
     have bs:=hH _ bc
     subst iB
     simp [execOp,Instr.sliceAt,Instr.slice,Instr.sliceBounds,h1,run_underlying hu,Go.sizeOf,typeInfo,eL,ed,kU,bs]
 | some ao=>
   have bc:=of_int.1 (ao a W s)
   rw [← vV] at bc
   have bs:=al _ bc
   cases gW with
   | none=>
     have mh:n=xs.length:=by omega
     subst mh
     simp only [execOp,Instr.sliceAt,Instr.slice,Instr.sliceBounds,h1,Sem.run_bind,run_underlying hu,Result.andThen_ok,Option.map_none,Option.map_some,Option.isSome_none,Bool.false_eq_true,if_false,if_true,Sem.run_pure,bs,Go.sizeOf,typeInfo,run_program,eL,ed]
     rw [← FF]
   | some lW=>
     have Wm:=of_int.1 (lW a W s)
     rw [← gu] at Wm
     have aiC:=hH _ Wm
     simp only [execOp,Instr.sliceAt,Instr.slice,Instr.sliceBounds,h1,Sem.run_bind,run_underlying hu,Result.andThen_ok,Option.map_none,Option.map_some,Option.isSome_none,Bool.false_eq_true,if_false,if_true,Sem.run_pure,bs,aiC,Go.sizeOf,typeInfo,run_program,eL,ed]
     rw [← FF]
end
def aS:Option Nat→Nat→Nat→Value
 | some p,n,cap=>.slice (some ⟨p,0,none⟩) n cap
 | none,_,_=>.slice none 0 0
theorem ZF {L:List aR}{i:Nat}{cp:e3} :∀ k∈aT (L.set i ⟨none,cp⟩),∃ j e,j≠i∧L[j]? =some e∧e.key=some k:=by
 intro k hk;obtain⟨e,he,J5⟩:=rQ.1 hk;obtain⟨j,aF⟩:=List.mem_iff_getElem?.1 he;rw [List.getElem?_set] at aF;split at aF
 ·split at aF
  ·simp only [Option.some.injEq] at aF;subst aF;cases J5
  cases aF
 rename_i dC;exact⟨j,e,fun h=>dC h.symm,aF,J5⟩
theorem A5 {L:List aR}{i:Nat}{cp:e3} :aT (L.set i ⟨none,cp⟩) |>.Sublist (aT L):=by
 induction L generalizing i with
 | nil=>simp [aT]
 | cons x r cA=>
   cases i with
   | zero=>
     cases hk:x.key with
     | none=>simp [aT,hk]
     | some p=>simp [aT,hk]
   | succ i=>
     cases hk:x.key with
     | none=>simpa [aT,hk] using cA
     | some p=>simpa [aT,hk] using cA
theorem bN.kill {c E L a W}(h:bN c E L a W)(i:Nat):bN c E (L.set i ⟨none,.dead⟩) a W:=by
 have nZ:=A5 (L:=L) (i:=i) (cp:= .dead);have hk:∀ k∈aT (L.set i ⟨none,.dead⟩),k∈aT L:=fun k hk=>nZ.subset hk;have iN:Ext (aT L++c.cc) W (aT (L.set i ⟨none,.dead⟩)++c.cc) W:= .drop fun k hm=>by
  rcases List.mem_append.1 hm with hm | hm
  ·exact List.mem_append.2 (.inl (hk k hm))
  exact List.mem_append.2 (.inr hm)
 exact
 {defers:=h.defers
  size:=h.size
  env:=fun t τ ao=>let⟨v,h1,ae⟩:=h.env t τ ao; ⟨v,h1,τ.mono iN ae⟩
  eh:=h.eh
  own:=fun e he=>by
   obtain⟨j,aF⟩:=List.mem_iff_getElem?.1 he;rw [List.getElem?_set] at aF;split at aF
   ·split at aF
    ·simp only [Option.some.injEq] at aF;subst aF;trivial
    cases aF
   have h1:=h.own e (List.mem_of_getElem? aF);unfold aR.ok at *;split at h1
   ·obtain⟨o',bp,cB⟩:=h1;exact⟨o',bp,e3.mono _ iN cB⟩
   exact h1
  nodup:=h.nodup.sublist nZ
  lt:=fun k hm=>h.lt k (hk k hm)
  hf:=fun k hm=>h.hf k (hk k hm)
  fB:=fun k hm=>⟨(h.fB k hm).1,fun ae=>(h.fB k hm).2 (hk k ae)⟩ }
theorem bN.Et {c E L a W}(h:bN c E L a W){i p:Nat}{cp:e3}(au:L[i]? =some ⟨some p,cp⟩):p ∉ aT (L.set i ⟨none,.dead⟩)++c.cc:=by
 intro hm;rcases List.mem_append.1 hm with hm | hm
 ·obtain⟨j,e,dC,aF,J5⟩:=ZF p hm;exact dC (MU h.nodup aF au J5 rfl)
 exact(h.fB p hm).2 (rQ.2 ⟨_,List.mem_of_getElem? au,rfl⟩)
theorem Ly {α:Type}[aj α]{A W}{cs:Array Value}{xs:List α}{cap:Nat}(h:cs.size=cap * aj.size α)(aQ:xs.length≤cap)(aI:hJ A W (cs.toList.take (xs.length * aj.size α)) xs):
 0+xs.length * aj.size α≤cs.size∧hJ A W ((cs.toList.drop 0).take (xs.length * aj.size α)) xs:=by
 refine⟨?_,by simpa using aI⟩
 rw [h,Nat.zero_add];exact Nat.mul_le_mul_right _ aQ
section
variable {c:dy} {E:List (Nat×I)} {L:List aR} {ops:Array Oper} {Q:Exit→Act→World→Prop}
variable {d:Option Tmp} {ty:TypeId} {pos:String} {af:Array Edge} {g:Option (Nat×Bool)} {x y:Operand} {t t2:TypeId}
theorem bN.freeze {a:Act}{W:World}{α:Type}[aj α]{i s cap T:Nat}{key:Option Nat}{xs:List α}(h:bN c E L a W)(ao:look E s=some (.eq (aS key xs.length cap)))(al:L[i]? =some ⟨key,.row T xs cap⟩):
 bN c ((s,.of xs)::E) (L.set i ⟨none,.dead⟩) a W:=by
 have hk:=h.kill i
 refine { hk with env:=fun t τ ft=>?_ }
 simp only [look] at ft
 by_cases e:Nat.beq s t=true
 ·rw [e] at ft
  simp only [cond_true,Option.some.injEq] at ft
  subst ft
  have:=fm.1 e
  subst this
  obtain⟨v,h1,ae⟩:=h.env s _ ao
  refine⟨v,h1,pj.2 ?_⟩
  have mA:v=aS key xs.length cap:=ae
  subst mA
  have bp:=h.own _ (List.mem_of_getElem? al)
  cases key with
  | none=>exact .inl ⟨rfl,bp.1⟩
  | some p=>
    obtain⟨o,fC,cs,rfl,ed,aQ,zH,aI⟩:=bp
    obtain⟨aA,aV⟩:=Ly ed aQ aI
    refine .inr ⟨p,0,cap,cs,T,(0,0),rfl,h.Et al,fC,aQ,by omega,aA,?_⟩
    have nZ:=A5 (L:=L) (i:=i) (cp:= .dead)
    exact aV.mono (.drop fun k hm=>by
     rcases List.mem_append.1 hm with hm | hm
     ·exact List.mem_append.2 (.inl (nZ.subset hm))
     exact List.mem_append.2 (.inr hm))
 simp only [Bool.not_eq_true] at e
 rw [e] at ft
 exact hk.env t τ ft
theorem ag.freeze {code:Code}{α:Type}[aj α]{key:Option Nat}{xs:List α}{cap T:Nat}(i s:Nat)(ao:look E s=some (.eq (aS key xs.length cap)))(al:L[i]? =some ⟨key,.row T xs cap⟩)
 (k:ag c Q code ((s,.of xs)::E) (L.set i ⟨none,.dead⟩)):ag c Q code E L:=fun a W st=>k a W (st.freeze ao al)
theorem bN.adx {a:Act}{W:World}{α:Type}[aj α](T:TypeId)(h:bN c E L a W):bN c E (⟨none,.row T ([]:List α) 0⟩::L) a W:=
 {h with
  own:=fun e he=>by
   rcases List.mem_cons.1 he with rfl | he
   ·exact⟨rfl,rfl⟩
   exact h.own e he }
theorem ab.own {l:List Oper}{α:Type}[aj α](T:TypeId)(k:ab c ops Q l E (⟨none,.row T ([]:List α) 0⟩::L)):ab c ops Q l E L:=fun a W st=>k a W (st.adx T)
theorem qO:bn c E L (.const (.slice none 0 0)) (.eq (aS none 0 0)):=fun _ _ _=>rfl
theorem tN {key:Option Nat}{n cap:Nat}{e i T:Nat}{α:Type}[aj α]{xs:List α}(hu:c.P.underlying t=some (.slice e))(ar:bn c E L x (.eq (aS key n cap)))(aQ:n=xs.length)(al:L[i]? =some ⟨key,.row T xs cap⟩):b6 c E L ⟨d,.call ⟨.builtin .len,#[x],#[t]⟩,ty,pos,af,g⟩ (.of (n:Int)):= .pure fun a W s=>by
 subst aQ;have h1:a.eval x=_:=ar a W s;have bp:=s.own _ (List.mem_of_getElem? al);cases key with
 | none=>
   have:xs= []:=bp.1
   subst this
   exact⟨.int .i64 0,by simp [execOp,resolve,invoke,builtin,Builtin.len_,h1,aS,run_underlying hu,goInt],of_int.2 rfl⟩
 | some p=>exact⟨.int .i64 xs.length,by simp [execOp,resolve,invoke,builtin,Builtin.len_,h1,aS,run_underlying hu,goInt],of_int.2 rfl⟩
theorem hJ.one {α:Type}[aj α]{A W}{cs:List Value}{xs:List α}(h:hJ A W cs xs):∀ u∈cs,u.oneCell'=true:=by
 intro u hu;obtain⟨j,aF⟩:=List.mem_iff_getElem?.1 hu;have cH:=(List.getElem?_eq_some_iff.1 aF).1;have h1:=h.1;by_cases hs:aj.size α=0
 ·rw [hs,Nat.mul_zero] at h1;omega
 have hp:0<aj.size α:=Nat.pos_of_ne_zero hs;have au:j / aj.size α<_:=(Nat.div_lt_iff_lt_mul hp).2 (by rw [h1] at cH;exact cH);refine aj.one (h.2 _ au) u (List.mem_iff_getElem?.2 ⟨j % aj.size α,?_⟩);rw [List.getElem?_take,if_pos (Nat.mod_lt _ hp),List.getElem?_drop,Nat.mul_comm,Nat.div_add_mod];exact aF
theorem wS {α:Type}[aj α]{A W}{cs ds:List Value}{xs ys:List α}(h:hJ A W cs xs)(dc:hJ A W ds ys):hJ A W (cs++ds) (xs++ys):=by
 refine⟨by rw [List.length_append,h.1,dc.1,List.length_append,Nat.add_mul],fun i au=>?_⟩;rw [List.length_append] at au;by_cases cH:i<xs.length
 ·have h1:=h.2 i cH;have hle:(i+1) * aj.size α≤xs.length * aj.size α:=Nat.mul_le_mul_right _ cH;rw [Nat.succ_mul] at hle;have ny:=h.1;rw [List.drop_append_of_le_length (by omega),List.take_append_of_le_length (by simp;omega)];rw [List.getElem_append_left cH];exact h1
 have h1:=dc.2 (i - xs.length) (by omega);have e:i * aj.size α=cs.length+(i - xs.length) * aj.size α:=by
  rw [h.1,← Nat.add_mul];congr 1;omega
 rw [e,List.drop_append,List.drop_of_length_le (by omega),List.nil_append,show cs.length+(i - xs.length) * aj.size α - cs.length=(i - xs.length) * aj.size α by omega];rw [List.getElem_append_right (by omega)];exact h1
theorem qF.cells {α:Type}[aj α]{A W v}{ys:List α}(h:qF A W v ys):
 (v= .slice none 0 0∧ys= [])∨ ∃ (b off cap:Nat) (news:List Value),v= .slice (some ⟨b,off,none⟩) ys.length cap∧news.length=ys.length * aj.size α∧ (∀ (j:Nat) (u:Value),news[j]? =some u→W.cell? ((⟨b,off,none⟩:Addr).add j)=some u)∧
  (∀ u∈news,u.oneCell'=true)∧hJ A W news ys:=by
 rcases h with h | ⟨b,off,cap,cur,T,iS,h1,ae,aA,aV,bc,bs,df⟩
 ·exact .inl h
 refine .inr ⟨b,off,cap,_,h1,df.1,fun j u hu=>?_,fun u hu=>?_,df⟩
 ·rw [List.getElem?_take] at hu
  split at hu
  ·rw [kU,cell_of_row W b (off+j) cur T iS aA]
   rw [List.getElem?_drop] at hu
   simpa using hu
  cases hu
 exact df.one u hu
theorem bN.grow {a:Act}{W:World}(h:bN c E L a W){i:Nat}{h3:aR}(au:L[i]? =some h3){o:Obj}{cp:e3}(ai:cp.holds (aT L++c.cc) W o):
 bN c E (L.set i ⟨some W.heap.size,cp⟩) a (W.alloc o):=by
 have h1:=h.alloc ai
 refine h1.sub (fun e he=>?_) ?_
 ·obtain⟨j,aF⟩:=List.mem_iff_getElem?.1 he
  rw [List.getElem?_set] at aF
  split at aF
  ·split at aF
   ·simp only [Option.some.injEq] at aF;subst aF;simp
   cases aF
  exact List.mem_cons_of_mem _ (List.mem_of_getElem? aF)
 have sf:W.heap.size ∉ aT L:=fun hm=>Nat.lt_irrefl _ (h.lt _ hm)
 have key:∀ (L:List aR) (i:Nat) (q:Nat),q ∉ aT L→ (aT L).Nodup→ (aT (L.set i ⟨some q,cp⟩)).Nodup∧ ∀ k∈aT (L.set i ⟨some q,cp⟩),k=q∨k∈aT L:=by
  intro L;induction L with
  | nil=>intro i q _ aQ;exact⟨by simpa using aQ,by simp [aT]⟩
  | cons x r cA=>
    intro i q hq aQ
    cases ar:x.key with
    | none=>
      have pI:q ∉ aT r:=by simpa [aT,ar] using hq
      have pH:(aT r).Nodup:=by simpa [aT,ar] using aQ
      cases i with
      | zero=>exact⟨by simp only [List.set_cons_zero,aT];exact List.nodup_cons.2 ⟨pI,pH⟩,fun k hk=>by
       simp only [List.set_cons_zero,aT,List.mem_cons] at hk;rcases hk with rfl | hk
       ·exact .inl rfl
       exact .inr (by simpa [aT,ar] using hk)⟩
      | succ i=>
        obtain⟨h1,ae⟩:=cA i q pI pH
        exact⟨by simpa [aT,ar] using h1,fun k hk=>by have:=ae k (by simpa [aT,ar] using hk);simpa [aT,ar] using this⟩
    | some p=>
      simp only [aT,ar,List.mem_cons,not_or] at hq
      simp only [aT,ar] at aQ
      obtain⟨hp,pH⟩:=List.nodup_cons.1 aQ
      cases i with
      | zero=>exact⟨by simp only [List.set_cons_zero,aT];exact List.nodup_cons.2 ⟨hq.2,pH⟩,fun k hk=>by
       simp only [List.set_cons_zero,aT,List.mem_cons] at hk;rcases hk with rfl | hk
       ·exact .inl rfl
       exact .inr (by simp [aT,ar,hk])⟩
      | succ i=>
        obtain⟨h1,ae⟩:=cA i q hq.2 pH
        refine⟨?_,fun k hk=>?_⟩
        ·simp only [List.set_cons_succ,aT,ar]
         refine List.nodup_cons.2 ⟨fun hm=>?_,h1⟩
         rcases ae p hm with e | Cz
         ·exact hq.1 e.symm
         exact hp Cz
        simp only [List.set_cons_succ,aT,ar,List.mem_cons] at hk
        rcases hk with rfl | hk
        ·exact .inr (by simp [aT,ar])
        rcases ae k hk with e | Cz
        ·exact .inl e
        exact .inr (by simp [aT,ar,Cz])
 exact(key L i _ sf h.nodup).1
theorem Mo {α:Type}[aj α]{A W}{cs ds:List Value}{xs:List α}{T cap:Nat}(h:hJ A W cs xs)(cJ:ds.length=(cap - xs.length) * aj.size α)(aQ:xs.length≤cap)(hm:cap≤maxLen){arr:Array Value}(a7:arr.toList=cs++ds):
 (e3.row T xs cap).holds A W (.cells arr T (0,0)):=by
 refine⟨arr,rfl,?_,aQ,hm,?_⟩
 ·have:arr.size=(cs++ds).length:=by rw [← a7];simp
  rw [this,List.length_append,h.1,cJ,← Nat.add_mul];congr 1;omega
 rw [a7,← h.1,List.take_left];exact h
theorem ab.app {α:Type}[aj α]{rest:List Oper}{bg i e bytes cap:Nat}{key:Option Nat}{xs ys r:List α}{z:α}(hu:c.P.underlying t=some (.slice e))(fl:bx c.P e α)(h9:cI c.P e z)
 (zL:(c.P.info? e).map (·.bytes)=some bytes) (hs:bn c E L x (.eq (aS key xs.length cap))) (al:L[i]? =some ⟨key,.row e xs cap⟩) (a1:bn c E L y (.of ys)) (h:fY bytes xs ys=some r) (aQ:Nat.blt bg c.n=true)
 (k:∀ s7 cap',ab c ops Q rest ((bg,.eq (aS s7 r.length cap'))::E) (L.set i ⟨s7,.row e r cap'⟩)):
 ab c ops Q (⟨some bg,.call ⟨.builtin .append,#[x,y],#[t,t]⟩,ty,pos,af,none⟩::rest) E L:=fun a W s=>by
 obtain⟨tf,oD,rfl⟩:=Rx h
 obtain⟨hg,e4,eL,cJ,ur⟩:=h9.zero
 have pB:hg.size=aj.size α:=by
  obtain⟨i2,h1,ae⟩:=fl.info;rw [eL] at h1;cases h1;exact ae
 have MV:hg.bytes=bytes:=by simpa [eL] using zL
 have zM:e4.cells.size=aj.size α:=by have:=aj.len (ur [] W).2;simpa using this
 subst MV
 have h1:a.eval x=_:=hs a W s
 have bp:=s.own _ (List.mem_of_getElem? al)
 have iT:bg<c.n:=by simpa using aQ
 have qy:=(pj.1 (a1 a W s)).cells
 have tg:maxLen=9223372036854775807:=rfl
 have main:∃ s7 cap' W',(Builtin.append_ #[t,t] ty #[a.eval x,a.eval y]).run c.P W= .ok (aS s7 (xs++ys).length cap') W'∧bN c E (L.set i ⟨s7,.row e (xs++ys) cap'⟩) a W':=by
  cases key with
  | none=>
    obtain⟨J6,zN⟩:xs= []∧cap=0:=bp
    subst J6
    subst zN
    have UX:L.set i ⟨none,.row e ([]:List α) 0⟩=L:=by
     obtain⟨cH,he⟩:=List.getElem?_eq_some_iff.1 al;rw [← he];exact List.set_getElem_self cH
    rcases qy with⟨bm,rfl⟩ | ⟨b,off,cp,news,bm,qq,Jv,CA,ht⟩
    ·refine⟨none,0,W,?_,by simpa [UX] using s⟩
     simp [h1,bm,aS,Builtin.append_,run_underlying hu,Go.sizeOf,typeInfo,eL,Builtin.lenOf,Builtin.firstCells]
    by_cases hm:ys.length=0
    ·have:ys= []:=List.eq_nil_of_length_eq_zero hm
     subst this
     refine⟨none,0,W,?_,by simpa [UX] using s⟩
     simp [h1,bm,aS,Builtin.append_,run_underlying hu,Go.sizeOf,typeInfo,eL,Builtin.lenOf,Builtin.firstCells,loadCells,loadCellsFrom]
    simp only [List.length_nil,Nat.zero_add] at tf oD
    have aI:=run_append_nil (P:=c.P) W t ty e hg e4 hu eL cJ ⟨b,off,none⟩ ys.length cp news (by rw [pB];exact qq) Jv (by omega) (by omega) (by omega)
    refine⟨some W.heap.size,grownCap W ys.length 0 e,_,by rw [h1,bm];simpa [aS] using aI,?_⟩
    have vW:=grownCap_ge W ys.length 0 e
    have hle:=grownCap_le_maxLen W ys.length 0 e oD
    have:=(s.world (Fr.drew W)).grow al (o:= .cells (news.toArray++Builtin.zeroCells e4.cells (grownCap W ys.length 0 e - ys.length)) e) (cp:= .row e ([]++ys) (grownCap W ys.length 0 e))
     (Mo (T:=e) (ht.mono (Ext.eh (Fr.drew W))) (ds:=(Builtin.zeroCells e4.cells (grownCap W ys.length 0 e - ys.length)).toList) (by rw [Array.length_toList,size_zeroCells,zM]) vW hle (by simp))
    simpa using this
  | some p=>
    obtain⟨qC,fC,cs,rfl,ed,aiD,zH,CB⟩:=bp
    have jh:a.eval x= .slice (some ⟨p,0,none⟩) xs.length cap:=h1
    rcases qy with⟨bm,rfl⟩ | ⟨b,off,cp,news,bm,qq,Jv,CA,ht⟩
    ·refine⟨some p,cap,W,?_,?_⟩
     ·simp [jh,bm,aS,Builtin.append_,run_underlying hu,Go.sizeOf,typeInfo,eL,Builtin.lenOf,Builtin.firstCells,storeCells,aiD]
     have:L.set i ⟨some p,.row e (xs++[]) cap⟩=L:=by
      obtain⟨cH,he⟩:=List.getElem?_eq_some_iff.1 al;rw [List.append_nil,← he];exact List.set_getElem_self cH
     rw [this];exact s
    by_cases B9:xs.length+ys.length≤cap
    ·have JN:xs.length * hg.size+news.length≤cs.size:=by rw [pB,qq,ed,← Nat.add_mul];exact Nat.mul_le_mul_right _ B9
     have aI:=run_append_room (P:=c.P) W t ty e hg hu eL p xs.length cap cs fC ⟨b,off,none⟩ ys.length cp news (by rw [pB];exact qq) Jv CA B9 JN
     refine⟨some p,cap,_,by rw [jh,bm];simpa [aS] using aI,?_⟩
     refine s.store al fC ⟨_,rfl,?_,by simpa using B9,zH,?_⟩
     ·simp only [List.size_toArray,List.length_append,List.length_take,List.length_drop,Array.length_toList];omega
     have ao:(cs.toList.take (xs.length * hg.size)).length=xs.length * aj.size α:=by rw [pB];exact CB.1
     have vC:=wS CB ht
     rw [pB]
     have hlen:(xs++ys).length * aj.size α=(cs.toList.take (xs.length * aj.size α)++news).length:=by rw [vC.1]
     have sw:((cs.toList.take (xs.length * aj.size α)++news++cs.toList.drop (xs.length * aj.size α+news.length)).toArray).toList.take ((xs++ys).length * aj.size α)=cs.toList.take (xs.length * aj.size α)++news:=by
      rw [hlen];exact List.take_left
     rw [List.append_assoc] at sw
     rw [sw]
     exact vC
    have holds:∀ (j:Nat) u,(cs.toList.take (xs.length * aj.size α))[j]? =some u→W.cell? ((⟨p,0,none⟩:Addr).add j)=some u:=by
     intro j u oF;rw [List.getElem?_take] at oF;split at oF
     ·rw [kU,Nat.zero_add,cell_of_row W p j cs e (0,0) fC];simpa using oF
     cases oF
    have aI:=run_append_grow (P:=c.P) W t ty e hg e4 hu eL cJ ⟨p,0,none⟩ xs.length cap _ (by rw [pB];exact CB.1) holds ⟨b,off,none⟩ ys.length cp news (by rw [pB];exact qq) Jv (by omega) (by omega) (growslice_fits (by omega) tf)
    have vW:=grownCap_ge W (xs.length+ys.length) cap e
    have hle:=grownCap_le_maxLen W (xs.length+ys.length) cap e oD
    refine⟨some W.heap.size,grownCap W (xs.length+ys.length) cap e,_,by rw [jh,bm];simpa [aS] using aI,?_⟩
    have vC:=(wS CB ht).mono (Ext.eh (Fr.drew W))
    have:=(s.world (Fr.drew W)).grow al (o:= .cells ((cs.toList.take (xs.length * aj.size α)).toArray++news.toArray++Builtin.zeroCells e4.cells (grownCap W (xs.length+ys.length) cap e - (xs.length+ys.length))) e)
     (cp:= .row e (xs++ys) (grownCap W (xs.length+ys.length) cap e))
     (Mo (T:=e) vC (ds:=(Builtin.zeroCells e4.cells (grownCap W (xs.length+ys.length) cap e - (xs.length+ys.length))).toList) (by rw [Array.length_toList,size_zeroCells,zM,List.length_append]) (by rw [List.length_append];exact vW) hle (by simp))
    simpa using this
 obtain⟨s7,cap',W',ka,dk⟩:=main
 refine jl rfl (R:=fun v iF=>v=aS s7 (xs++ys).length cap'∧iF=W') (.mL ?_ ⟨rfl,rfl⟩) fun v iF ⟨bm,hw⟩=>?_
 ·simp only [execOp,resolve,invoke,builtin,Sem.run_bind,Sem.run_pure,Result.andThen_ok]
  have av:(#[x,y]:Array Operand).map a.eval= #[a.eval x,a.eval y]:=by simp
  rw [av,ka]
  rfl
 subst bm
 subst hw
 exact k s7 cap' _ _ (dk.put iT rfl)
inductive p2 (c:dy)(E:List (Nat×I))(L:List aR){α:Type}[aj α]:List α→List (Nat×Operand)→List α→Prop
 | nil {b} :p2 c E L b [] b
 | cons {b b':List α} {v:α} {i:Nat} {x:Operand} {r:List (Nat×Operand)} :i<b.length→bn c E L x (.of v)→p2 c E L (b.set i v) r b'→p2 c E L b ((i,x)::r) b'
theorem p2.run {α:Type}[aj α]{b b':List α}{fi:List (Nat×Operand)}(h:p2 c E L b fi b'):∀ a W,bN c E L a W→ ∀ cs:Array Value,hJ (aT L++c.cc) W cs.toList b→
 ∃ fh,Instr.fill (fun i=>some (i * aj.size α,aj.size α)) cs (fi.map fun(i,x)=>(i,a.eval x))=some fh∧hJ (aT L++c.cc) W fh.toList b'∧b'.length=b.length:=by
 induction h with
 | nil=>intro a W s cs aI;exact⟨cs,rfl,aI,rfl⟩
 | @cons b b' v i x r au ae _ cA=>
   intro a W s cs aI
   have bm:=ae a W s
   have ed:(a.eval x).cells.size=aj.size α:=by have:=aj.len bm.2;simpa using this
   have ao:=aI.1
   have hle:(i+1) * aj.size α≤b.length * aj.size α:=Nat.mul_le_mul_right _ au
   rw [Nat.succ_mul] at hle
   rw [List.map_cons,Io rfl ed (by simp at ao;omega)]
   obtain⟨fh,aA,aV,bc⟩:=cA a W s (hr cs.toList (i * aj.size α) (a.eval x).cells.toList).toArray (by
    have:=LZ aI au bm.2;simpa [hr,aj.len bm.2] using this)
   exact⟨fh,aA,aV,by rw [bc,List.length_set]⟩
theorem En {α:Type}[aj α]{A W}{z:α}{e4:Value}(h:(I.of z).holds A W e4)(n:Nat)(hs:aj.size α≠0):hJ A W ((Array.range (n * aj.size α)).map (e4.cells[· % e4.cells.size]!)).toList (List.replicate n z):=by
 have ao:e4.cells.size=aj.size α:=by have:=aj.len h.2;simpa using this
 have hp:0<aj.size α:=Nat.pos_of_ne_zero hs;refine⟨by simp,fun i au=>?_⟩;have hX:i<n:=by simpa using au
 have hle:(i+1) * aj.size α≤n * aj.size α:=Nat.mul_le_mul_right _ hX;rw [Nat.succ_mul] at hle;have:((((Array.range (n * aj.size α)).map (e4.cells[· % e4.cells.size]!)).toList.drop (i * aj.size α)).take (aj.size α))=e4.cells.toList:=by
  apply List.ext_getElem?;intro j;rw [List.getElem?_take];split
  ·rename_i aF;rw [List.getElem?_drop];have cH:i * aj.size α+j<n * aj.size α:=by omega
   have zz:(i * aj.size α+j) % aj.size α=j:=by rw [Nat.mul_comm,Nat.mul_add_mod];exact Nat.mod_eq_of_lt aF
   simp only [Array.getElem?_toList,Array.getElem?_map,Array.getElem?_range,cH,if_true,Option.map_some,ao,zz];rw [getElem!_pos e4.cells j (by omega)];simp [ao,aF]
  rename_i aF;symm;simp only [Array.getElem?_toList];exact Array.getElem?_eq_none (by omega)
 rw [this];simpa using h.2
theorem jx {α:Type}[aj α]{e n:Nat}{z:α}{r:List α}{fi:List (Nat×Operand)}(hu:c.P.underlying t=some (.slice e))(fl:bx c.P e α)(h9:cI c.P e z)(hs:Nat.beq (aj.size α) 0=false)(aQ:Nat.ble (n * aj.size α) 16777216=true)
 (aY:p2 c E L (List.replicate n z) fi r):b6 c E L ⟨d,.buildSlice t n fi.toArray,ty,pos,af,g⟩ (.of r):=fun a W s=>by
 obtain⟨hg,e4,eL,cJ,ur⟩:=h9.zero
 have pB:hg.size=aj.size α:=by
  obtain⟨i2,h1,ae⟩:=fl.info;rw [eL] at h1;cases h1;exact ae
 have j2:aj.size α≠0:=fun h=>by rw [h] at hs;cases hs
 have tk:=En (ur (aT L++c.cc) W) n j2
 obtain⟨fh,aA,aV,bc⟩:=aY.run a W s _ tk
 have hlen:r.length=n:=by rw [bc];simp
 have hm:(fi.toArray.map fun(x:Nat×Operand)=>(x.1,a.eval x.2)).toList=fi.map fun(i,x)=>(i,a.eval x):=by simp
 have ahM:=Nat.le_of_ble_eq_true aQ
 refine .mL (v:= .slice (some ⟨W.heap.size,0,none⟩) n n) (W':=W.alloc (.cells fh e)) ?_ ⟨Fr.alloc W _,pj.2 ?_⟩
 ·simp only [execOp,Instr.buildSlice,Sem.run_bind,run_underlying hu,Result.andThen_ok,Go.sizeOf,typeInfo,run_program,eL,Sem.run_pure,pB]
  rw [if_neg (by omega)]
  try simp only [Sem.run_pure,Result.andThen_ok,Sem.run_bind]
  by_cases bH:n * aj.size α=0
  ·have uq:n=0:=by
    rcases Nat.mul_eq_zero.1 bH with h | h
    ·exact h
    exact absurd h j2
   subst uq
   simp only [Nat.zero_mul,if_true,Sem.run_pure,Result.andThen_ok]
   try simp only [Nat.zero_mul] at aA
   have h3:((Array.range 0).map (fun x=>(#[]:Array Value)[x % (#[]:Array Value).size]!))=((Array.range 0).map (e4.cells[· % e4.cells.size]!)):=by simp
   simp only [pure_bind]
   rw [h3,hm,aA]
   simp [newRow]
  simp only [bH,if_false,Sem.run_bind,zeroValue,typeInfo,run_program,Result.andThen_ok,eL,cJ,Sem.run_pure]
  rw [hm,aA]
  simp [newRow]
 have iN:Ext (aT L++c.cc) W (aT L++c.cc) (W.alloc (.cells fh e)):=Ext.eh (Fr.alloc W _)
 refine .inr ⟨W.heap.size,0,n,fh,e,(0,0),by rw [hlen],fun Cl=>Nat.lt_irrefl _ (s.IX _ Cl),TD W _,by omega,?_,?_,?_⟩
 ·have:r.length * 1≤n * aj.size α:=by rw [hlen];exact Nat.mul_le_mul_left _ (by omega)
  have:maxLen=9223372036854775807:=rfl
  omega
 ·have:=aV.1;simp at this;omega
 have bs:=aV.1
 rw [List.drop_zero,← bs,List.take_length]
 exact aV.mono iN
end
theorem yU {cs:List Value}{o s:Nat}{u:Value}(h:u∈cs.drop o):u∈ (cs.drop o).take s∨u∈cs.drop (o+s):=by
 rw [← List.take_append_drop s (cs.drop o)] at h;rcases List.mem_append.1 h with h | h
 ·exact .inl h
 rw [List.drop_drop] at h;exact .inr h
theorem Mp {cs:List Value}{n o:Nat}{u:Value}{p:Prop}(ao:cs.length=n)(bp:o=n)(h:u∈cs.drop o):p:=by
 rw [List.drop_of_length_le (by omega)] at h;cases h
theorem ady {cs ds:List Value}{o s n:Nat}(ao:cs.length=n)(hd:ds.length=s)(h:o+s≤n):(cs.take o++ds++cs.drop (o+s)).length=n:=by
 simp only [List.length_append,List.length_take,List.length_drop];omega
theorem SX {cs ds:List Value}{o s n:Nat}(ao:cs.length=n)(hd:ds.length=s)(h:o+s≤n):((cs.take o++ds++cs.drop (o+s)).drop o).take s=ds:=by
 have h1:(cs.take o).length=o:=by simp;omega
 rw [List.append_assoc,List.drop_append,h1,List.drop_of_length_le (by omega),List.nil_append,Nat.sub_self,List.drop_zero,List.take_append_of_le_length (by omega),List.take_of_length_le (by omega)]
theorem L0 {cs ds:List Value}{o s n cY s2:Nat}(ao:cs.length=n)(hd:ds.length=s)(h:o+s≤n)(dC:cY+s2≤o∨o+s≤cY):((cs.take o++ds++cs.drop (o+s)).drop cY).take s2=(cs.drop cY).take s2:=by
 apply List.ext_getElem?;intro i;simp only [List.getElem?_take,List.getElem?_drop];split
 ·rename_i au;simp only [List.getElem?_append,List.length_append,List.length_take,List.getElem?_take,List.getElem?_drop];have h1:min o cs.length=o:=by omega
  rw [h1,hd];rcases dC with ae | ae
  ·rw [if_pos (by omega),if_pos (by omega),if_pos (by omega)]
  rw [if_neg (by omega)];congr 1;omega
 rfl
structure xS (P:Type) where
 size:Nat
 rep:List Nat→World→List Value→Nat→P→Prop
 one:∀ {A W cs o x n},rep A W cs o x→cs.length=n→o+size=n→ ∀ u∈cs.drop o,u.oneCell'=true
 mono:∀ {A W dd W' cs o x},Ext A W dd W'→rep A W cs o x→rep dd W' cs o x
 o3:∀ {A W cs o x n ds p s},rep A W cs o x→cs.length=n→ds.length=s→p+s≤n→p+s≤o→rep A W (cs.take p++ds++cs.drop (p+s)) o x
@[reducible] def hP (B:Type) [aj B]:xS B where
  size:=aj.size B
  rep A W cs o x:=aj.rep A W ((cs.drop o).take (aj.size B)) x
  one h ao bp u hu:=by
   rcases yU (s:=aj.size B) hu with h1 | bH
   ·exact aj.one h u h1
   exact Mp ao bp bH
  mono e h:=aj.mono e h
  o3 h ao hd aQ hp:=by rw [L0 ao hd aQ (.inr hp)];exact h
@[reducible] def dD (B:Type) [aj B] {P:Type} (S:xS P):xS (B×P) where
  size:=aj.size B+S.size
  rep A W cs o x:=aj.rep A W ((cs.drop o).take (aj.size B)) x.1∧S.rep A W cs (o+aj.size B) x.2
  one h ao bp u hu:=by
   rcases yU (s:=aj.size B) hu with h1 | bH
   ·exact aj.one h.1 u h1
   exact S.one h.2 ao (by omega) u bH
  mono e h:=⟨aj.mono e h.1,S.mono e h.2⟩
  o3 h ao hd aQ hp:=⟨by rw [L0 ao hd aQ (.inr hp)];exact h.1,S.o3 h.2 ao hd aQ (by omega)⟩
@[reducible] def aj.str {T P:Type} (S:xS P) (to:T→P) (N:Nat) (iT:S.size=N:=by rfl):aj T where
  size:=N
  agg:=true
  rep A W cs x:=cs.length=N∧S.rep A W cs 0 (to x)
  len h:=h.1
  one h:=fun u hu=>S.one h.2 h.1 (by omega) u (by simpa using hu)
  flat h:=by cases h
  mono e h:=⟨h.1,S.mono e h.2⟩
structure Ga {P:Type}(S:xS P)(G:Type)[aj G] where
 off:Nat
 get:P→G
 set:P→G→P
 hv:off+aj.size G≤S.size
 jU:∀ {A W cs o b},S.rep A W cs o b→aj.rep A W ((cs.drop (o+off)).take (aj.size G)) (get b)
 nM:∀ {A W cs n o b ds g},cs.length=n→o+S.size≤n→S.rep A W cs o b→aj.rep A W ds g→S.rep A W (cs.take (o+off)++ds++cs.drop (o+off+aj.size G)) o (set b g)
def hY {B:Type}[aj B]:Ga (hP B) B where
 off:=0
 get b:=b
 set _ g:=g
 hv:=by show 0+aj.size B≤aj.size B;omega
 jU h:=h
 nM ao bp _ bO:=by
  have h:=SX ao (aj.len bO) bp;show aj.rep _ _ ((List.drop _ _).take _) _;rw [Nat.add_zero,h];exact bO
def dK {B:Type}[aj B]{P:Type}{S:xS P} :Ga (dD B S) B where
 off:=0
 get b:=b.1
 set b g:=(g,b.2)
 hv:=by show 0+aj.size B≤aj.size B+S.size;omega
 jU h:=h.1
 nM {A W cs n o b ds g} ao bp h bO:=by
  have bp:o+(aj.size B+S.size)≤n:=bp;refine⟨?_,S.o3 h.2 ao (aj.len bO) (by omega) (by omega)⟩;rw [Nat.add_zero,SX ao (aj.len bO) (by omega)];exact bO
def bE {B:Type}[aj B]{P:Type}{S:xS P}{G:Type}[aj G](l:Ga S G):Ga (dD B S) G where
 off:=aj.size B+l.off
 get b:=l.get b.2
 set b g:=(b.1,l.set b.2 g)
 hv:=by have:=l.hv;show aj.size B+l.off+aj.size G≤aj.size B+S.size;omega
 jU h:=by rw [← Nat.add_assoc];exact l.jU h.2
 nM {A W cs n o b ds g} ao bp h bO:=by
  have bp:o+(aj.size B+S.size)≤n:=bp;have au:=l.hv;have ae:=l.nM ao (by omega) h.2 bO;rw [Nat.add_assoc o] at ae;exact⟨by rw [L0 ao (aj.len bO) (by omega) (.inl (by omega))];exact h.1,ae⟩
def aJ.str {T P G:Type}[aj G]{S:xS P}{to:T→P}{N:Nat}(l:Ga S G)(off:Nat)(get:T→G)(set:T→G→T)(iT:S.size=N:=by rfl)(bp:l.off=off:=by rfl)(h1:∀ b,l.get (to b)=get b:=by intro b;rfl)(ae:∀ b g,l.set (to b) g=to (set b g):=by intro b g;rfl): @aJ T G (aj.str S to N iT) _:=
 @aJ.mk T G (aj.str S to N iT) _ off get set (by have:=l.hv;show off+aj.size G≤N;omega)
  (fun {A W cs b} h=>by have:=l.jU h.2;rw [Nat.zero_add,bp,h1] at this;exact this)
  (fun {A W cs b ds g} h bO=>by
   have aA:=l.nM h.1 (by omega) h.2 bO;rw [Nat.zero_add,bp,ae] at aA;have aV:=l.hv;exact⟨ady h.1 (aj.len bO) (by omega),aA⟩)
class bf (α:Type) [aj α] [Inhabited α] where
 cells:List Value
 ok:∀ A W,aj.rep A W cells (default:α)
instance:bf Bool:=⟨[.bool false],fun _ _=>rfl⟩
instance:bf Int:=⟨[.int .i64 0],fun _ _=>rfl⟩
instance:bf (BitVec 64):=⟨[.int .u64 0],fun _ _=>rfl⟩
instance:bf (BitVec 32):=⟨[.int .u32 0],fun _ _=>rfl⟩
instance:bf (BitVec 16):=⟨[.int .u16 0],fun _ _=>rfl⟩
instance:bf (BitVec 8):=⟨[.int .u8 0],fun _ _=>rfl⟩
instance:bf ByteArray:=⟨[.string ByteArray.empty],fun _ _=>rfl⟩
instance {α:Type} [aj α]:bf (List α):=⟨[.slice none 0 0],fun _ _=>⟨_,rfl,.inl ⟨rfl,rfl⟩⟩⟩
theorem RX {α:Type}[aj α]{A W}{wo:List Value}{z:α}(h:aj.rep A W wo z):∀ n,hJ A W (List.replicate n wo).flatten (List.replicate n z)
 | 0=>⟨by simp,fun i au=>by simp at au⟩
 | n+1=>by
   have h1:=RX h n;have ae:hJ A W wo [z]:=⟨by simp [aj.len h],fun i au=>by
    have:i=0:=by simpa using au
    subst this;rw [Nat.zero_mul,List.drop_zero,← aj.len h,List.take_length];exact h⟩
   have:=wS ae h1;simpa [List.replicate_succ] using this
instance {α:Type} [aj α] [Inhabited α] [bf α] {n:Nat} :bf (Vector α n):=⟨(List.replicate n (bf.cells α)).flatten,fun A W=>by
 have:=RX (bf.ok (α:=α) A W) n;show hJ A W _ (Vector.replicate n default).toList;simpa using this⟩
def Of (α:Type)[aj α][Inhabited α][bf α]:Value:=if aj.agg α=true then .agg (bf.cells α).toArray else(bf.cells α).headD undef
theorem cI.of {P:Program}{t:TypeId}{α:Type}[aj α][Inhabited α][bf α](h:(P.info? t).bind (·.zero)=some (Of α)):cI P t (default:α) where
 zero:=by
  cases au:P.info? t with
  | none=>simp [au] at h
  | some i=>
    refine⟨i,Of α,rfl,by simpa [au] using h,fun A W=>?_⟩
    have ok:=bf.ok (α:=α) A W
    unfold Of
    cases a7:aj.agg α with
    | true=>simp only [if_true];exact⟨by simp [shaped,a7],by simpa [Value.cells] using ok⟩
    | false=>
      have h1:=aj.len ok
      rw [aj.flat a7] at h1
      obtain⟨v,bm⟩:=List.length_eq_one_iff.1 h1
      have aA:v.oneCell'=true:=aj.one ok v (by rw [bm];simp)
      simp only [Bool.false_eq_true,if_false,bm,List.headD_cons]
      exact⟨by simp [shaped,a7,aA],by rw [cells_one aA];rw [bm] at ok;exact ok⟩
theorem bx.of {P:Program}{t:TypeId}{α:Type}[aj α]{d:TypeDesc}(a7:(match d with | .struct _ | .array _ _=>true | _=>false)=aj.agg α)(hu:P.underlying t=some d)(hs:(P.info? t).map (·.size)=some (aj.size α)):bx P t α:=⟨hs,d,hu,a7⟩
theorem bU.of {P:Program}{s f o:Nat}{fs:Array Field}{fd:Field}{γ:Type}[aj γ](hu:P.underlying s=some (.struct fs))(aY:fs[f]? =some fd)(bp:fd.offset=o)(eO:bx P fd.type γ)(hs:Nat.beq (aj.size γ) 0=false):bU P s f o:=by
 obtain⟨i,h1,ae⟩:=eO.info;exact⟨fs,fd,i,hu,aY,bp,h1,fun h=>by rw [← ae,h] at hs;cases hs⟩
theorem qD.of {P:Program}{t n e s:Nat}{γ:Type}[aj γ](hu:P.underlying t=some (.array n e))(eO:bx P e γ)(hs:aj.size γ=s):qD P t n s:=by
 obtain⟨i,h1,ae⟩:=eO.info;exact⟨e,i,hu,h1,by rw [ae,hs]⟩
theorem bind_some {α β:Type}{m:Option α}{f:α→Option β}{r:β}(h:m.bind f=some r):∃ y,m=some y∧f y=some r:=Option.bind_eq_some_iff.1 h
theorem hE {α:Type}{b:Bool}{p q:Option α}{r:α}(hb:b=true)(h:cond b p q=some r):p=some r:=by rw [hb] at h;exact h
theorem hF {α:Type}{b:Bool}{p q:Option α}{r:α}(hb:b=false)(h:cond b p q=some r):q=some r:=by rw [hb] at h;exact h
theorem di {α:Type}{a b:α}(h:some a=some b):a=b:=Option.some.inj h
def cX {α:Type}[Inhabited α](b want:Bool)(m:Option α):Option α:=if b=want then m else some default
theorem gz {α:Type}[Inhabited α]{b want:Bool}{m:Option α}{y:α}(h:cX b want m=some y)(hb:b=want):m=some y:=by unfold cX at h;rw [if_pos hb] at h;exact h
def eD:Nat:=2 ^ 80
theorem bN.r3 {c E L a W}(h:bN c E L a W)(n:Nat):bN c E (L.drop n) a W:=
 h.sub (fun e he=>List.mem_of_mem_drop he) (by
   have:(aT (L.drop n)).Sublist (aT L):=by
    induction L generalizing n with
    | nil=>simp
    | cons x r cA=>
      cases n with
      | zero=>simp
      | succ n=>
        have aI:∀ n,(aT (r.drop n)).Sublist (aT r):=by
         intro n;have key:∀ (r:List aR) n,(aT (r.drop n)).Sublist (aT r):=by
          intro r;induction r with
          | nil=>intro n;simp
          | cons y r Wn=>
            intro n
            cases n with
            | zero=>simp
            | succ n=>
              simp only [List.drop_succ_cons]
              cases hk:y.key with
              | none=>simpa [aT,hk] using Wn n
              | some p=>simp only [aT,hk];exact(Wn n).cons _
         exact key r n
        simp only [List.drop_succ_cons]
        cases hk:x.key with
        | none=>simpa [aT,hk] using aI n
        | some p=>simp only [aT,hk];exact(aI n).cons _
   exact h.nodup.sublist this)
section
variable {c:dy} {E:List (Nat×I)} {L:List aR} {ops:Array Oper} {Q:Exit→Act→World→Prop}
theorem ag.cX {γ:Type}{x:Operand}{b:Bool}{y z:Code}(E':γ→List (Nat×I))(L':γ→List aR)(ao:bn c E L x (.of b))(x7:∀ g,ad c Q .normal (E' g) (L' g))
 (bP:(∀ g,ad c Q .normal (E' g) (L' g))→b=true→ag c Q y E L) (aY:(∀ g,ad c Q .normal (E' g) (L' g))→b=false→ag c Q z E L):ag c Q (.cond x y z) E L:=
 ag.cond ao (bP x7) (aY x7)
theorem ad.meet {x:Exit}{E':List (Nat×I)}{L':List aR}(n:Nat)(al:L.drop n=L')(h:gO E E')(k:ad c Q x E' L'):ad c Q x E L:=fun a W s=>k a W (by rw [← al];exact(s.r3 n).less h.look)
def CC {σ ε γ δ:Type}(c:dy)(E:σ→γ→List (Nat×I))(L:σ→γ→List aR)(xs:ε→Exit)(hy:ε→δ→List (Nat×I))(Lx:ε→δ→List aR):σ ⊕ ε→Exit→Act→World→Prop
 | .inl s,x,a,W=>x= .normal∧ ∃ g,bN c (E s g) (L s g) a W
 | .inr e,x,a,W=>x≠ .normal∧x=xs e∧ ∃ g,bN c (hy e g) (Lx e g) a W
theorem ad.adz {σ ε γ δ:Type}{E':σ→γ→List (Nat×I)}{L':σ→γ→List aR}{xs:ε→Exit}{hy:ε→δ→List (Nat×I)}{Lx:ε→δ→List aR}{s:σ}(g:γ)(n:Nat)
 (al:L.drop n=L' s g) (h:gO E (E' s g)):ad c (CC c E' L' xs hy Lx (.inl s)) .normal E L:=fun a W st=>⟨rfl,g,by rw [← al];exact(st.r3 n).less h.look⟩
theorem ad.adA {σ ε γ δ:Type}{E':σ→γ→List (Nat×I)}{L':σ→γ→List aR}{xs:ε→Exit}{hy:ε→δ→List (Nat×I)}{Lx:ε→δ→List aR}{e:ε}{x:Exit}(g:δ)(n:Nat)
 (ar:x=xs e) (aQ:x≠ .normal) (al:L.drop n=Lx e g) (h:gO E (hy e g)):ad c (CC c E' L' xs hy Lx (.inr e)) x E L:=fun a W st=>⟨aQ,ar,g,by rw [← al];exact(st.r3 n).less h.look⟩
theorem ag.tU {σ ε γ δ:Type}{body:Code}{N:Nat}{b:σ→Option (σ ⊕ ε)}{cT:σ}{e:ε}(ao:eI N b cT=some e)
 (E':σ→γ→List (Nat×I)) (L':σ→γ→List aR) (xs:ε→Exit) (hy:ε→δ→List (Nat×I)) (Lx:ε→δ→List aR) (g0:γ) (al:L=L' cT g0) (an:gO E (E' cT g0))
 (zg:∀ s r,b s=some r→ ∀ g,ag c (CC c E' L' xs hy Lx r) body (E' s g) (L' s g))
 (sU:∀ g,ad c Q (xs e) (hy e g) (Lx e g)):ag c Q (.loop body) E L:=fun a W st=>by
 subst al
 exact aaB b (fun s a W=> ∃ g,bN c (E' s g) (L' s g) a W) (fun e x a W=>x=xs e∧ ∃ g,bN c (hy e g) (Lx e g) a W)
  (fun s r hs a W ⟨g,nC⟩=>wpIn_mono (zg s r hs g a W nC) (fun x a W h=>by
   cases r with
   | inl cD=>exact h
   | inr e'=>exact⟨h.1,h.2⟩)) Q e (fun x a W ⟨ar,g,hs⟩=>by subst ar;exact sU g a W hs) ao ⟨g0,st.less an.look⟩
end
theorem b6.ik {c E L o}{α:Type}[aj α]{a b:α}(h:b6 c E L o (.of a))(e:a=b):b6 c E L o (.of b):=by subst e;exact h
def I.zE {α β:Type}[aj α][aj β](P:Program)(F:α→Option β):I where
 holds A W v:= ∃ f fst cap,v= .func (.func f) fst cap∧bF P f∧ ∀ dd W',Ext A W dd W'→ (∀ k∈dd,k<W'.heap.size)→ ∀ x r n9,F x=some r→ (I.of x).holds dd W' n9→
  Calls P f (fst++ #[n9]++cap) W' fun e xT=> ∃ v,e= .returned v∧Fr [] W' xT∧ (I.of r).holds dd xT v
 mono e h:=let⟨f,fst,cap,h1,ae,aA⟩:=h; ⟨f,fst,cap,h1,ae,fun dd W' e'=>aA dd W' (e.trans e')⟩
def I.xJ {α β γ:Type}[aj α][aj β][aj γ](P:Program)(F:α→β→Option γ):I where
 holds A W v:= ∃ f fst cap,v= .func (.func f) fst cap∧bF P f∧ ∀ dd W',Ext A W dd W'→ (∀ k∈dd,k<W'.heap.size)→ ∀ x y r n9 tw,F x y=some r→ (I.of x).holds dd W' n9→ (I.of y).holds dd W' tw→
  Calls P f (fst++ #[n9,tw]++cap) W' fun e xT=> ∃ v,e= .returned v∧Fr [] W' xT∧ (I.of r).holds dd xT v
 mono e h:=let⟨f,fst,cap,h1,ae,aA⟩:=h; ⟨f,fst,cap,h1,ae,fun dd W' e'=>aA dd W' (e.trans e')⟩
section
variable {c:dy} {E:List (Nat×I)} {L:List aR} {d:Option Tmp} {ty:TypeId} {pos:String} {af:Array Edge} {g:Option (Nat×Bool)}
theorem abk {α β:Type}[aj α][aj β]{F:α→Option β}{f:FuncId}(eB:bF c.P f)(h:∀ x r,F x=some r→b2 c.P f [.of x] (.of r)):bn c E L (.func f) (.zE c.P F):=fun a W s=>
 ⟨f,#[],#[],rfl,eB,fun dd W' _ fT x r n9 mG ar=>by simpa using h x r mG dd W' [n9] fT (.cons ar .nil)⟩
theorem RU {α β γ:Type}[aj α][aj β][aj γ]{F:α→β→Option γ}{f:FuncId}(eB:bF c.P f)(h:∀ x y r,F x y=some r→b2 c.P f [.of x,.of y] (.of r)):bn c E L (.func f) (.xJ c.P F):=fun a W s=>
 ⟨f,#[],#[],rfl,eB,fun dd W' _ fT x y r n9 tw mG ar a1=>by simpa using h x y r mG dd W' [n9,tw] fT (.cons ar (.cons a1 .nil))⟩
theorem Ik {α β:Type}[aj α][aj β]{F:α→Option β}{qG x:Operand}{ats:Array TypeId}{GO:α}{r:β}(aY:bn c E L qG (.zE c.P F))(ar:bn c E L x (.of GO))(h:F GO=some r):
 b6 c E L ⟨d,.call ⟨.value qG,#[x],ats⟩,ty,pos,af,g⟩ (.of r):=fun a W s=>by
 obtain⟨f,fst,cap,h1,eB,ae⟩:=aY a W s
 refine .wX (f:=f) (args:=fst++ #[a.eval x]++cap) (W':=W) ?_ (ae _ W (Ext.refl _ _) s.IX _ _ _ h (ar a W s))
 simp [execOp,resolve,Deferred.ofValue,h1,invoke,eB.run]
theorem Il {α β γ:Type}[aj α][aj β][aj γ]{F:α→β→Option γ}{qG x y:Operand}{ats:Array TypeId}{GO:α}{W3:β}{r:γ}(aY:bn c E L qG (.xJ c.P F))(ar:bn c E L x (.of GO))(a1:bn c E L y (.of W3))(h:F GO W3=some r):
 b6 c E L ⟨d,.call ⟨.value qG,#[x,y],ats⟩,ty,pos,af,g⟩ (.of r):=fun a W s=>by
 obtain⟨f,fst,cap,h1,eB,ae⟩:=aY a W s
 refine .wX (f:=f) (args:=fst++ #[a.eval x,a.eval y]++cap) (W':=W) ?_ (ae _ W (Ext.refl _ _) s.IX _ _ _ _ _ h (ar a W s) (a1 a W s))
 simp [execOp,resolve,Deferred.ofValue,h1,invoke,eB.run]
end
end Gv
namespace Gv
open Go Go.ChangeShapes Go.WideShapes Go.RowKit
structure Arg (P:Program)(t:TypeId)(α:Type)[aj α]:Prop where
 cells:P.cellsOf t=aj.size α
 read:∀ {H:Type} {enc:TypeId×Value→H} {W:World} {n:Nat} {cs:List Value} {x:DataW H×List MemPlace},DataW.trod enc P W 0 (fun _=>true) true n t cs=some x→ ∃ a:α,aj.rep [] W cs a
 form:∀ {W:World} {b:Nat} {v:Value},Value.okWide P W .any b t v→shaped (aj.agg α) v
variable {P:Program} {t e:TypeId}
theorem aaC (hu:P.underlying t=some .bool){H:Type}{enc:TypeId×Value→H}{W:World}{n:Nat}{cs:List Value}{x:DataW H×List MemPlace}(h:DataW.trod enc P W 0 (fun _=>true) true n t cs=some x):
 ∃ b:Bool,cs= [.bool b]:=by
 cases n with
 | zero=>simp [DataW.trod] at h
 | succ n=>
   unfold DataW.trod at h
   rw [hu] at h
   split at h <;> first | exact⟨_,rfl⟩ | (simp at h)
   all_goals simp_all
theorem Arg.bool (hu:P.underlying t=some .bool)(ai:P.cellsOf t=1):Arg P t Bool where
 cells:=ai
 read {H enc W n cs x} h:=by
  obtain⟨b,rfl⟩:=aaC hu h;exact⟨b,rfl⟩
 form {W b v} h:=by
  unfold Value.okWide Cell.okWide at h;simp only [hu] at h;unfold Cell.ok at h;rw [hu] at h;cases v <;> first | rfl | simp at h
theorem Eu {k:IntKind}(hu:P.underlying t=some (.int k)){H:Type}{enc:TypeId×Value→H}{W:World}{n:Nat}{cs:List Value}{x:DataW H×List MemPlace}(h:DataW.trod enc P W 0 (fun _=>true) true n t cs=some x):
 ∃ z:Int,cs= [.int k z]∧k.min≤z∧z≤k.max:=by
 cases n with
 | zero=>simp [DataW.trod] at h
 | succ n=>
   unfold DataW.trod at h
   rw [hu] at h
   split at h <;> simp_all [Lit.wf]
theorem Ev {k:IntKind}(hu:P.underlying t=some (.int k)){W:World}{b:Nat}{v:Value}(h:Value.okWide P W .any b t v):v.oneCell'=true:=by
 unfold Value.okWide Cell.okWide at h;simp only [hu] at h;unfold Cell.ok at h;rw [hu] at h;cases v <;> first | rfl | simp at h
theorem Arg.int (hu:P.underlying t=some (.int .i64))(ai:P.cellsOf t=1):Arg P t Int where
 cells:=ai
 read h:=by obtain⟨z,rfl,_⟩:=Eu hu h;exact⟨z,rfl⟩
 form h:=Ev hu h
theorem Arg.u64 (hu:P.underlying t=some (.int .u64))(ai:P.cellsOf t=1):Arg P t (BitVec 64) where
 cells:=ai
 read h:=by
  obtain⟨z,rfl,h1,ae⟩:=Eu hu h;simp [IntKind.min,IntKind.max,IntKind.signed,IntKind.bits] at h1 ae;exact⟨BitVec.ofInt 64 z,by show [_]= [_];simp;omega⟩
 form h:=Ev hu h
theorem Arg.u32 (hu:P.underlying t=some (.int .u32))(ai:P.cellsOf t=1):Arg P t (BitVec 32) where
 cells:=ai
 read h:=by
  obtain⟨z,rfl,h1,ae⟩:=Eu hu h;simp [IntKind.min,IntKind.max,IntKind.signed,IntKind.bits] at h1 ae;exact⟨BitVec.ofInt 32 z,by show [_]= [_];simp;omega⟩
 form h:=Ev hu h
theorem Arg.u16 (hu:P.underlying t=some (.int .u16))(ai:P.cellsOf t=1):Arg P t (BitVec 16) where
 cells:=ai
 read h:=by
  obtain⟨z,rfl,h1,ae⟩:=Eu hu h;simp [IntKind.min,IntKind.max,IntKind.signed,IntKind.bits] at h1 ae;exact⟨BitVec.ofInt 16 z,by show [_]= [_];simp;omega⟩
 form h:=Ev hu h
theorem Arg.u8 (hu:P.underlying t=some (.int .u8))(ai:P.cellsOf t=1):Arg P t (BitVec 8) where
 cells:=ai
 read h:=by
  obtain⟨z,rfl,h1,ae⟩:=Eu hu h;simp [IntKind.min,IntKind.max,IntKind.signed,IntKind.bits] at h1 ae;exact⟨BitVec.ofInt 8 z,by show [_]= [_];simp;omega⟩
 form h:=Ev hu h
theorem abt (hs:(∃ fs,P.underlying t=some (.struct fs))∨ (∃ n e,P.underlying t=some (.array n e))){W:World}{b:Nat}{v:Value}(h:Value.okWide P W .any b t v):shaped true v:=by
 unfold Value.okWide at h;rcases hs with⟨fs,hu⟩ | ⟨n,e,hu⟩ <;> rw [hu] at h <;> exact⟨h.choose,h.choose_spec.1⟩
theorem Arg.arr {α:Type}[aj α][Inhabited α]{n:Nat}(hu:P.underlying t=some (.array n e))(he:Arg P e α)(ai:P.cellsOf t=n * aj.size α):Arg P t (Vector α n) where
 cells:=ai
 read {H enc W m cs x} h:=by
  obtain⟨xs,q,_,_,ao,hlen,aY⟩:=DataW.trod_array hu h;have aI:∀ i,i<n→ ∃ a:α,aj.rep [] W ((cs.drop (i * aj.size α)).take (aj.size α)) a:=by
   intro i au;have h1:=aY i au;rw [List.getElem?_eq_getElem (by omega)] at h1;rw [← he.cells];exact he.read h1
  refine⟨Vector.ofFn fun i=>(aI i.1 i.2).choose,by rw [ao,ai];simp,fun i au=>?_⟩;have hX:i<n:=by simpa using au
  have:=(aI i hX).choose_spec;simpa using this
 form h:=abt (.inr ⟨_,_,hu⟩) h
theorem Ry {H:Type}{enc:TypeId×Value→H}{W W':World}(ao:laidOutB P=true){sp:Nat→Bool} :∀ {eF:List TypeId} {vs:List Value} {ds:List (DataW H)} {fi:List MemPlace},
 (∀ t∈eF,P.readableRec t=true∧t<P.types.size)→DataW.TrodAll enc P W 0 (fun _=>true) true eF vs ds fi→ (∀ p∈fi,W.sameAt W' p)→ (∀ p∈fi,sp p.block=true)→DataW.TrodAll enc P W' 0 sp true eF vs ds fi
 | [],_,_,_,_,h,_,_=>by
   obtain⟨rfl,rfl,rfl⟩:=trodAll_nil h;exact rfl
 | _::_,_,_,_,bP,h,hs,hp=>by
   obtain⟨v,OI,d,OJ,p,q,rfl,rfl,rfl,h1,ae⟩:=trodAll_cons h;have bH:=bP _ (List.mem_cons_self ..);exact⟨p,q,WideElems.Trod_stays ao bH.1 bH.2 h1 (fun x ar=>hs x (by simp [ar])) (fun x ar=>hp x (by simp [ar])),
    Ry ao (fun t zO=>bP t (List.mem_cons_of_mem _ zO)) ae (fun x ar=>hs x (by simp [ar])) (fun x ar=>hp x (by simp [ar])),rfl⟩
theorem Fr.below {W W':World}(h:Fr [] W W'):Below W.heap.size W W':=⟨h.os,h.tape,h.output,h.size,fun k hk=>h.block k hk (by simp)⟩
theorem abu {H:Type}{enc:TypeId×Value→H}{f:Func}{s:ChangeSpec}{W W':World}{args:Array Value}{ds gs:List (DataW H)}{before:List MemPlace}{jG:TypeId}
 (ao:laidOutB P=true) (hp:∀ t∈f.params.toList,P.readableRec t=true∧t<P.types.size) (aI:f.resultTypes= #[jG]) (hb:P.underlying jG=some .bool) (bm:s.vars= [])
 (hs:s.fn H ds= { results:= [.lit (.bool true)],args:=ds })
 (CT:DataW.Whole enc P f.params.toList s.vars false W args.toList ds gs before) (mG:Fr [] W W'):
 s.post enc P f false true false false W args (.bool true) W':=by
 have aiE:=CT
 obtain⟨p,q,fT,PK,rfl,cJ,aQ⟩:=aiE
 rw [bm] at PK
 obtain⟨rfl,rfl⟩:=trodVars_none PK
 have cH:∀ x∈p,x.block<W.heap.size:=fun x ar=>CT.lt x (by simpa using ar)
 have xU:=mG.below
 have afN:∀ x∈p,W.sameAt W' x:=fun x ar=>xU.same (cH x ar)
 have ahN:∀ (b:Nat) (sp:Nat→Bool) (hd:Bool),DataW.TrodAll enc P W' b sp hd f.resultTypes.toList ((Value.bool true).resultList f.resultTypes.size) [.lit (.bool true)] []:=by
  intro b sp hd;rw [aI];exact⟨[],[],shut_bool hb true,rfl,rfl⟩
 refine⟨ds,[],p++[],[],p,[],CT,?_,?_,?_,World.keptBut_mono (fun x ar=>?_) (xU.frame fun _=>False),fun h=>by cases h⟩
 ·rw [List.append_nil,hs];exact ahN _ _ _
 ·rw [List.append_nil,hs];exact Ry ao hp fT afN (fun x ar=>by simpa using cH x ar)
 ·rw [List.append_nil,hs,bm];rfl
 exact ar.elim
end Gv
namespace Gv
open Go Go.ChangeShapes Go.WideShapes Go.RowKit
theorem abv {P:Program}{fits:TypeId→Bool}{d:Nat}{e:TypeId}{count off n:Nat}(h:rowAt P fits d e count off n=true):off≤count * P.cellsOf e:=by
 cases d with
 | zero=>cases h
 | succ d=>
   unfold rowAt at h
   simp only at h
   split at h
   ·cases h
   rename_i hs
   have hp:0<P.cellsOf e:=Nat.pos_of_ne_zero hs
   have akW:=Nat.div_add_mod off (P.cellsOf e)
   rw [Bool.or_eq_true] at h
   rcases h with h | h
   ·simp only [Bool.and_eq_true,beq_iff_eq,decide_eq_true_eq] at h
    have:P.cellsOf e * (off / P.cellsOf e)≤P.cellsOf e * count:=Nat.mul_le_mul_left _ (by omega)
    rw [Nat.mul_comm count];omega
   simp only [Bool.and_eq_true,decide_eq_true_eq] at h
   have hm:=Nat.mod_lt off hp
   have:P.cellsOf e * (off / P.cellsOf e+1)≤P.cellsOf e * count:=Nat.mul_le_mul_left _ (by omega)
   rw [Nat.mul_add] at this
   rw [Nat.mul_comm count];omega
theorem Rz {P:Program} :∀ {d:Nat} {e:TypeId} {count off:Nat} {u:TypeId} {n:Nat},liesAt P d e count off u n=true→off≤count * P.cellsOf e
 | 0,_,_,_,_,_,h=>by cases h
 | d+1,e,count,off,u,n,h=>by
   unfold liesAt at h;rw [Bool.or_eq_true] at h;rcases h with h | h
   ·exact abv h
   split at h
   ·exact Rz h
   cases h
structure FG (P:Program)(t:TypeId)(α:Type)[aj α]:Prop where
 top:∀ {H:Type} {enc:TypeId×Value→H} {W:World} {n b:Nat} {v:Value} {x:DataW H×List MemPlace},DataW.trod enc P W 0 (fun _=>true) true n t v.cells.toList=some x→Value.okWide P W .any b t v→ ∃ a:α,(I.of a).holds [] W v
variable {P:Program} {t e:TypeId}
theorem abw {α:Type}[aj α](hu:P.underlying t=some (.slice e))(he:Arg P e α)(cJ:Nat.beq (aj.size α) 0=false){H:Type}{enc:TypeId×Value→H}{W:World}{n b:Nat}{v:Value}{x:DataW H×List MemPlace}
 (h:DataW.trod enc P W 0 (fun _=>true) true n t [v]=some x) (jA:Cell.okWide P W .any b t v):∃ a:List α,(I.of a).holds [] W v:=by
 have th:aj.size α≠0:=fun h=>by rw [h] at cJ;cases cJ
 rcases DataW.trod_slice hu h with⟨h1,_⟩ | ⟨a,len,cap,elems,rest,m,_,h1,_,_,akX,zH,Gb,ahO,akG,_⟩
 ·have:=List.singleton_inj.1 h1
  subst this
  exact⟨[],pj.2 (.inl ⟨rfl,rfl⟩)⟩
 have:=List.singleton_inj.1 h1
 subst this
 unfold Cell.okWide at jA
 simp only [hu] at jA
 unfold Cell.ok at jA
 rw [hu] at jA
 obtain⟨_,_,_,UY,row,cells,CD,ahP⟩:=jA
 obtain⟨W4,wq,akY⟩:=a
 simp only at UY
 subst UY
 unfold World.shape? at CD
 cases fC:W.heap[W4]? with
 | none=>rw [fC] at CD;cases CD
 | some qC=>
   rw [fC] at CD
   cases qC <;> simp at CD
   rename_i uu T iS
   obtain⟨akc,ed⟩:=CD
   have akM:wq≤uu.size:=by
    have bc:wq≤_:=Rz ahP;have bs:=Nat.div_mul_le_self cells (P.cellsOf row);omega
   have afO:=he.cells
   have ht:∀ i,i<len→ ∃ a:α,aj.rep [] W ((uu.toList.drop (wq+i * aj.size α)).take (aj.size α)) a∧wq+(i+1) * aj.size α≤uu.size:=fun i au=>by
    have bc:=ahO i au;rw [List.getElem?_eq_getElem (by omega)] at bc;obtain⟨fh,bs,df⟩:=Option.bind_eq_some_iff.1 bc;obtain⟨_,ao,ai⟩:=World.cells?_some bs;rw [afO] at ao ai bs;have zf:∀ j,j<aj.size α→uu[wq+i * aj.size α+j]? =fh[j]? :=fun j aF=>by
     rw [← ai j aF,kU,kU];unfold World.cell?;simp [fC]
    have heq:(uu.toList.drop (wq+i * aj.size α)).take (aj.size α)=fh:=by
     apply List.ext_getElem?;intro j;rw [List.getElem?_take];by_cases aF:j<aj.size α
     ·rw [if_pos aF,List.getElem?_drop,Array.getElem?_toList];exact zf j aF
     rw [if_neg aF];symm;exact List.getElem?_eq_none (by omega)
    obtain⟨a,a7⟩:=he.read df;refine⟨a,by rw [heq];exact a7,?_⟩;have dz:=zf (aj.size α - 1) (by omega);rw [List.getElem?_eq_getElem (show aj.size α - 1<fh.length by omega)] at dz;have:=(Array.getElem?_eq_some_iff.1 dz).1;rw [Nat.add_mul];omega
   have hex:∃ xs:List α,xs.length=len∧ ∀ i (h:i<xs.length),aj.rep [] W ((uu.toList.drop (wq+i * aj.size α)).take (aj.size α)) xs[i]:=by
    refine⟨List.ofFn fun i:Fin len=>(ht i.1 i.2).choose,by simp,fun i au=>?_⟩;have hX:i<len:=by simpa using au
    rw [List.getElem_ofFn];exact(ht i hX).choose_spec.1
   obtain⟨xs,F9,OK⟩:=hex
   have hbound:wq+xs.length * aj.size α≤uu.size:=by
    rw [F9];rcases Nat.eq_zero_or_pos len with bH | bH
    ·rw [bH];omega
    have:=(ht (len - 1) (by omega)).choose_spec.2;rw [show len - 1+1=len by omega] at this;exact this
   refine⟨xs,pj.2 (.inr ⟨W4,wq,cap,uu,T,iS,by rw [F9],by simp,fC,by omega,by omega,hbound,?_,fun i au=>?_⟩)⟩
   ·rw [List.length_take,List.length_drop];simp;omega
   have hle:(i+1) * aj.size α≤xs.length * aj.size α:=Nat.mul_le_mul_right _ au
   rw [Nat.succ_mul] at hle
   rw [yB _ _ _ _ _ hle]
   exact OK i au
theorem FG.aiF {α:Type}[aj α](hu:P.underlying t=some (.slice e))(he:Arg P e α)(cJ:Nat.beq (aj.size α) 0=false):FG P t (List α) where
 top {H enc W n b v x} h jA:=by
  have Cm:Cell.okWide P W .any b t v:=by
   unfold Value.okWide at jA;simp only [hu] at jA;exact jA
  have ahQ:v.oneCell'=true:=by
   unfold Cell.okWide at Cm;simp only [hu] at Cm;unfold Cell.ok at Cm;rw [hu] at Cm;cases v <;> first | rfl | simp at Cm
  rw [cells_one ahQ] at h;exact abw hu he cJ h Cm
theorem Ra {H:Type}{enc:TypeId×Value→H}{W:World}{eF:List TypeId}{vs:List Value}{ds:List (DataW H)}{fi:List MemPlace}{α:Type}[aj α]{b:Nat}(a7:FG P t α)
 (h:DataW.TrodAll enc P W 0 (fun _=>true) true (t::eF) vs ds fi) (jA:∀ (j:Nat) u v,(t::eF)[j]? =some u→vs[j]? =some v→Value.okWide P W .any b u v):
 ∃ (a:α) (v:Value) (OL:List Value) (Wo:List (DataW H)) (aiG:List MemPlace) (d:DataW H),vs=v::OL∧ds=d::Wo∧ (I.of a).holds [] W v∧DataW.TrodAll enc P W 0 (fun _=>true) true eF OL Wo aiG∧
   (∀ (j:Nat) u w,eF[j]? =some u→OL[j]? =some w→Value.okWide P W .any b u w):=by
 obtain⟨v,OI,d,OJ,p,q,rfl,rfl,rfl,⟨n,h1⟩,ae⟩:=trodAll_cons h
 obtain⟨a,aA⟩:=a7.top h1 (jA 0 t v rfl rfl)
 exact⟨a,v,OI,OJ,q,d,rfl,rfl,aA,ae,fun j u w aF hw=>jA (j+1) u w (by simpa using aF) (by simpa using hw)⟩
end Gv
namespace Gv
open Go
theorem Z2 {L' L:List aR}(h:L'.Sublist L):(aT L').Sublist (aT L):=by
 induction h with
 | slnil=>simp [aT]
 | cons e _ cA=>cases hk:e.key <;> simp only [aT,hk] <;> first | exact cA | exact cA.cons _
 | cons_cons e _ cA=>cases hk:e.key <;> simp only [aT,hk] <;> first | exact cA | exact cA.cons_cons _
theorem aR.uY {e:aR}{A dd W W'}(h:e.ok A W)(x:Ext A W dd W')(hb:∀ p,e.key=some p→W'.heap[p]? =W.heap[p]?):e.ok dd W':=by
 unfold aR.ok at *;cases hk:e.key with
 | none=>rw [hk] at h;exact h
 | some p=>
   rw [hk] at h
   obtain⟨o,h1,ae⟩:=h
   exact⟨o,by rw [hb p hk];exact h1,e3.mono _ x ae⟩
def ma (X cc:List Nat)(kA:World){δ:Type}(ρ:δ→I)(Lo:δ→List aR):Ending→World→Prop:=fun e W'=>
 ∃ v d,e= .returned v∧Fr X kA W'∧ (aT (Lo d)).Nodup∧ (∀ k∈aT (Lo d),k<W'.heap.size∧ (k<kA.heap.size→k∈X)∧k ∉ cc)∧ (∀ e∈Lo d,e.ok (aT (Lo d)++cc) W')∧ (ρ d).holds (aT (Lo d)++cc) W' v
def bt (P:Program)(f:FuncId)(τs:List I)(Lin:List aR){δ:Type}(ρ:δ→I)(Lo:δ→List aR):Prop:=
 ∀ (A:List Nat) (W:World) (vs:List Value),(∀ k∈A,k<W.heap.size∧k ∉ aT Lin)→ (aT Lin).Nodup→ (∀ k∈aT Lin,k<W.heap.size)→ (∀ e∈Lin,e.ok (aT Lin++A) W)→hB (aT Lin++A) W τs vs→
   Calls P f vs.toArray W (ma (aT Lin) A W ρ Lo)
theorem bt.of {P:Program}{f:FuncId}{fn:Func}{code:Code}{n:Nat}{τs:List I}{Lin:List aR}{δ:Type}{ρ:δ→I}{Lo:δ→List aR}(aY:P.funcs[f]? =some fn)(hb:fn.body=some code)(aQ:fn.ntmps=n)(hlen:Nat.ble τs.length n=true)
 (h:∀ W A,ag ⟨P,n,W,aT Lin,A,none,[]⟩ (bodyPost P fn (ma (aT Lin) A W ρ Lo)) code (params 0 τs) Lin):bt P f τs Lin ρ Lo:=by
 intro A W vs fT k9 cH jA bm
 refine calls_of_wp aY hb (wpIn_wide.1 (h W A _ _ ?_))
 have ao:=bm.length
 have hle:τs.length≤n:=Nat.le_of_ble_eq_true hlen
 exact
 {defers:=rfl
  size:=by simp [aQ,ao];omega
  env:=fun t τ lW=>by
   obtain⟨_,v,ae,aA⟩:=Bk bm 0 t τ lW;refine⟨v,?_,aA⟩;have cH:t<vs.length:=(List.getElem?_eq_some_iff.1 ae).1;rw [Array.getElem?_append_left (by simpa using cH)];simpa using ae
  eh:= .refl _ _
  own:=jA
  nodup:=k9
  lt:=cH
  hf:=fun k hk _=>hk
  fB:=fT }
section
variable {c:dy} {E:List (Nat×I)} {L:List aR} {ops:Array Oper} {Q:Exit→Act→World→Prop}
variable {d:Option Tmp} {ty:TypeId} {pos:String} {af:Array Edge} {g:Option (Nat×Bool)} {x y:Operand} {t t2:TypeId}
def xV (c:dy)(E:List (Nat×I))(L:List aR)(r:ResultVar)(τ:I):Prop:=
 ∀ a W,bN c E L a W→ ∃ v,(y3 a.tmps r).run c.P W= .ok v W∧τ.holds (aT L++c.cc) W v
theorem cO {t:Nat}{τ:I}(h:look E t=some τ):xV c E L (.tmp t) τ:=fun a W s=>by
 obtain⟨v,h1,ae⟩:=s.env t τ h;exact⟨v,by simp [y3,h1],ae⟩
theorem iw {t:Nat}{ty:TypeId}{i p:Nat}{α:Type}[aj α]{x:α}(eO:bx c.P ty α)(h:look E t=some (.eq (.pointer (some ⟨p,0,none⟩))))(al:L[i]? =some ⟨some p,.var x⟩):xV c E L (.cell t ty) (.of x):=fun a W s=>by
 obtain⟨v,h1,ae⟩:=s.env t _ h;subst ae;obtain⟨qC,fC,cs,T,rfl,ht⟩:=s.own _ (List.mem_of_getElem? al);have ao:cs.toList.length=aj.size α:=aj.len ht;have ed:cs.size=aj.size α:=by simpa using ao
 obtain⟨v,aA,aV⟩:=yz (A:=aT L++c.cc) (off:=0) eO fC (by omega) (by rw [List.drop_zero,← ao,List.take_length];exact ht);exact⟨v,by simp [y3,h1,asAddr,aA],aV⟩
theorem bN.ends {a:Act}{W:World}(s:bN c E L a W){δ:Type}{ρ:δ→I}{Lo:δ→List aR}(bg:δ)(hs:(Lo bg).Sublist L){v:Value}(bm:(ρ bg).holds (aT L++c.cc) W v):ma c.X c.cc c.kA ρ Lo (.returned v) W:=by
 have nZ:=Z2 hs;have hk:∀ k∈aT (Lo bg),k∈aT L:=fun k hk=>nZ.subset hk;have iN:Ext (aT L++c.cc) W (aT (Lo bg)++c.cc) W:= .drop fun k hm=>by
  rcases List.mem_append.1 hm with hm | hm
  ·exact List.mem_append.2 (.inl (hk k hm))
  exact List.mem_append.2 (.inr hm)
 exact⟨v,bg,rfl,s.eh,s.nodup.sublist nZ,fun k hm=>⟨s.lt k (hk k hm),s.hf k (hk k hm),fun a7=>(s.fB k a7).2 (hk k hm)⟩,
  fun e he=>aR.uY (s.own e (hs.subset he)) iN fun _ _=>rfl,I.mono _ iN bm⟩
theorem dY {L L':List aR}(n:Nat)(h:L.drop n=L':=by rfl):L'.Sublist L:=h ▸ List.drop_sublist n L
theorem ad.dS {fn:Func}{r:ResultVar}{τ:I}{δ:Type}{ρ:δ→I}{Lo:δ→List aR}(bg:δ)(hs:(Lo bg).Sublist L)(aI:fn.results= #[r])(tl:ρ bg=τ)(h:xV c E L r τ)(gv:c.ds= []:=by rfl):ad c (bodyPost c.P fn (ma c.X c.cc c.kA ρ Lo)) .ret E L:=fun a W s=>by
 subst tl;obtain⟨v,h1,ae⟩:=h a W s;exact⟨s.yL gv,v,by simp [yG,aI,h1],s.ends bg hs ae⟩
theorem ad.je {fn:Func}{r ia:ResultVar}{τ oE:I}{δ:Type}{ρ:δ→I}{Lo:δ→List aR}(bg:δ)(hs:(Lo bg).Sublist L)(aI:fn.results= #[r,ia])(tl:ρ bg= .c4 [τ,oE])(h:xV c E L r τ)(ae:xV c E L ia oE)(gv:c.ds= []:=by rfl):ad c (bodyPost c.P fn (ma c.X c.cc c.kA ρ Lo)) .ret E L:=fun a W s=>by
 obtain⟨v,aA,aV⟩:=h a W s;obtain⟨v2,bc,bs⟩:=ae a W s;exact⟨s.yL gv,.tuple #[v,v2],by simp [yG,aI,aA,bc],s.ends bg hs (by rw [tl];exact⟨_,rfl,.cons aV (.cons bs .nil)⟩)⟩
theorem ad.US {fn:Func}{r ia qE:ResultVar}{τ oE F5:I}{δ:Type}{ρ:δ→I}{Lo:δ→List aR}(bg:δ)(hs:(Lo bg).Sublist L)(aI:fn.results= #[r,ia,qE])(tl:ρ bg= .c4 [τ,oE,F5])(h:xV c E L r τ)(ae:xV c E L ia oE)(aA:xV c E L qE F5)(gv:c.ds= []:=by rfl):ad c (bodyPost c.P fn (ma c.X c.cc c.kA ρ Lo)) .ret E L:=fun a W s=>by
 obtain⟨v,av,f1⟩:=h a W s;obtain⟨v2,aX,f2⟩:=ae a W s;obtain⟨v3,c0,f3⟩:=aA a W s;exact⟨s.yL gv,.tuple #[v,v2,v3],by simp [yG,aI,av,aX,c0],s.ends bg hs (by rw [tl];exact⟨_,rfl,.cons f1 (.cons f2 (.cons f3 .nil))⟩)⟩
theorem wU:∀ {L:List aR} {i:Nat} {e:aR},L[i]? =some e→L.Perm (e::L.eraseIdx i)
 | [],i,e,h=>by simp at h
 | x::r,0,e,h=>by simp only [List.getElem?_cons_zero,Option.some.injEq] at h;subst h;exact .refl _
 | x::r,i+1,e,h=>by
   simp only [List.getElem?_cons_succ] at h;exact((wU h).cons x).trans (.swap e x _)
theorem bN.bI {a:Act}{W:World}(s:bN c E L a W){i:Nat}{e:aR}(h:L[i]? =some e):bN c E (e::L.eraseIdx i) a W:=s.perm (wU h)
theorem ab.bI {l:List Oper}(i:Nat){e:aR}(h:L[i]? =some e)(k:ab c ops Q l E (e::L.eraseIdx i)):ab c ops Q l E L:=fun a W s=>k a W (s.bI h)
theorem ad.bI {z:Exit}(i:Nat){e:aR}(h:L[i]? =some e)(k:ad c Q z E (e::L.eraseIdx i)):ad c Q z E L:=fun a W s=>k a W (s.bI h)
theorem bN.after {a:Act}{W W':World}{Lin Lr:List aR}(s:bN c E (Lin++Lr) a W){Lo:List aR}(aY:Fr (aT Lin) W W')(k9:(aT Lo).Nodup)
 (hk:∀ k∈aT Lo,k<W'.heap.size∧ (k<W.heap.size→k∈aT Lin)∧k ∉ aT Lr++c.cc) (jA:∀ e∈Lo,e.ok (aT Lo++(aT Lr++c.cc)) W'):bN c E (Lo++Lr) a W':=by
 have iN:Ext (aT (Lin++Lr)++c.cc) W (aT (Lo++Lr)++c.cc) W':=
  ⟨aY.size,fun k cH a7=>aY.block k cH fun hm=>a7 (by rw [fG];simp [hm]),fun k hm cH=>by
   rw [fG] at hm ⊢;simp only [List.mem_append] at hm ⊢;rcases hm with(hm | hm) | hm
   ·exact .inl (.inl ((hk k hm).2.1 cH))
   ·exact .inl (.inr hm)
   exact .inr hm⟩
 have mR:=s.nodup
 rw [fG] at mR
 obtain⟨oG,qs,rb⟩:=List.nodup_append.1 mR
 have Cs:∀ k∈aT Lr,k<W.heap.size∧k ∉ aT Lin:=fun k hm=>⟨s.lt k (by rw [fG];exact List.mem_append.2 (.inr hm)),fun h=>rb k h k hm rfl⟩
 exact
 {defers:=s.defers
  size:=s.size
  env:=fun t τ ao=>let⟨v,h1,ae⟩:=s.env t τ ao; ⟨v,h1,τ.mono iN ae⟩
  eh:=⟨aY.os.trans s.eh.os,aY.tape.trans s.eh.tape,aY.output.trans s.eh.output,Nat.le_trans s.eh.drawn aY.drawn,Nat.le_trans s.eh.size aY.size,fun k cH ar=>
   (aY.block k (Nat.lt_of_lt_of_le cH s.eh.size) fun hm=>ar (s.hf k (by rw [fG];exact List.mem_append.2 (.inl hm)) cH)).trans (s.eh.block k cH ar)⟩
  own:=fun e he=>by
   rcases List.mem_append.1 he with he | he
   ·have:=jA e he;refine aR.uY this (.drop fun k hm=>?_) fun _ _=>rfl;rw [fG] at hm;simp only [List.mem_append] at hm ⊢;rcases hm with(hm | hm) | hm
    ·exact .inl hm
    ·exact .inr (.inl hm)
    exact .inr (.inr hm)
   exact aR.uY (s.own e (List.mem_append.2 (.inr he))) iN fun p hp=>by
    have:=Cs p (rQ.2 ⟨e,he,hp⟩);exact aY.block p this.1 this.2
  nodup:=by
   rw [fG];exact List.nodup_append.2 ⟨k9,qs,fun k h1 j ae e=>by subst e;exact(hk k h1).2.2 (List.mem_append.2 (.inl ae))⟩
  lt:=fun k hm=>by
   rw [fG] at hm;rcases List.mem_append.1 hm with hm | hm
   ·exact(hk k hm).1
   exact Nat.lt_of_lt_of_le (Cs k hm).1 aY.size
  hf:=fun k hm bH=>by
   rw [fG] at hm;have cH:k<W.heap.size:=Nat.lt_of_lt_of_le bH s.eh.size;rcases List.mem_append.1 hm with hm | hm
   ·exact s.hf k (by rw [fG];exact List.mem_append.2 (.inl ((hk k hm).2.1 cH))) bH
   exact s.hf k (by rw [fG];exact List.mem_append.2 (.inr hm)) bH
  fB:=fun k hm=>by
   obtain⟨h1,ae⟩:=s.fB k hm;refine⟨Nat.lt_of_lt_of_le h1 aY.size,fun h=>?_⟩;rw [fG] at h ae;rcases List.mem_append.1 h with h | h
   ·exact(hk k h).2.2 (List.mem_append.2 (.inr hm))
   exact ae (List.mem_append.2 (.inr h)) }
theorem jf.TF {xs:List Operand}{τs:List I}(h:jf c E L xs τs){a:Act}{W:World}(s:bN c E L a W):hB (aT L++c.cc) W τs (xs.map a.eval):=h.holds a W s
theorem El {a:Act}{W:World}{f:FuncId}{xs:List Operand}{ats:Array TypeId}{τs:List I}{Lin Lr:List aR}{δ:Type}{ρ:δ→I}{Lo:δ→List aR}(eB:bF c.P f)(h:bt c.P f τs Lin ρ Lo)
 (s:bN c E (Lin++Lr) a W) (ar:hB (aT (Lin++Lr)++c.cc) W τs (xs.map a.eval)):
 hK c.P ⟨d,.call ⟨.value (.func f),xs.toArray,ats⟩,ty,pos,af,g⟩ a W fun v W'=> ∃ bg,bN c E (Lo bg++Lr) a W'∧ (ρ bg).holds (aT (Lo bg++Lr)++c.cc) W' v:=by
 have mR:=s.nodup
 rw [fG] at mR
 obtain⟨oG,qs,rb⟩:=List.nodup_append.1 mR
 have lT:Ext (aT (Lin++Lr)++c.cc) W (aT Lin++(aT Lr++c.cc)) W:= .drop fun k hm=>by
  rw [fG];simp only [List.mem_append] at hm ⊢;rcases hm with hm | hm | hm
  ·exact .inl (.inl hm)
  ·exact .inl (.inr hm)
  exact .inr hm
 have fT:∀ k∈aT Lr++c.cc,k<W.heap.size∧k ∉ aT Lin:=fun k hm=>by
  rcases List.mem_append.1 hm with hm | hm
  ·exact⟨s.lt k (by rw [fG];exact List.mem_append.2 (.inr hm)),fun h=>rb k h k hm rfl⟩
  obtain⟨h1,ae⟩:=s.fB k hm;exact⟨h1,fun h=>ae (by rw [fG];exact List.mem_append.2 (.inl h))⟩
 have cH:∀ k∈aT Lin,k<W.heap.size:=fun k hm=>s.lt k (by rw [fG];exact List.mem_append.2 (.inl hm))
 refine .wX (f:=f) (args:=(xs.map a.eval).toArray) (W':=W) (by simp [execOp,resolve,Deferred.ofValue,Act.eval,invoke,eB.run]) ?_
 refine(h (aT Lr++c.cc) W (xs.map a.eval) fT oG cH (fun e he=>aR.uY (s.own e (List.mem_append.2 (.inl he))) lT fun _ _=>rfl) (ar.mono lT)).mono fun e W' ⟨v,bg,he,aY,h1,ae,aA,aV⟩=>?_
 refine⟨v,he,bg,s.after aY h1 ae aA,(ρ bg).mono (.drop fun k hm=>?_) aV⟩
 rw [fG] at hm
 simp only [List.mem_append] at hm ⊢
 rcases hm with(hm | hm) | hm
 ·exact .inl hm
 ·exact .inr (.inl hm)
 exact .inr (.inr hm)
theorem ab.mq {rest:List Oper}{bg:Nat}{f:FuncId}{xs:List Operand}{ats:Array TypeId}{τs:List I}{Lin Lr:List aR}{δ:Type}{ρ:δ→I}{Lo:δ→List aR}(eB:bF c.P f)(h:bt c.P f τs Lin ρ Lo)
 (ar:jf c E (Lin++Lr) xs τs) (aQ:Nat.blt bg c.n=true) (k:∀ q,ab c ops Q rest ((bg,ρ q)::E) (Lo q++Lr)):
 ab c ops Q (⟨some bg,.call ⟨.value (.func f),xs.toArray,ats⟩,ty,pos,af,none⟩::rest) E (Lin++Lr):=fun a W s=>
 jl rfl (El eB h s (ar.holds a W s)) fun v W' ⟨q,cD,bm⟩=>k q _ _ (cD.put (by simpa using aQ) bm)
end
def ln {α:Type}(xs:List α)(k:Nat)(v:α):List α:=xs.set k v
section
variable {c:dy} {E:List (Nat×I)} {L:List aR} {ops:Array Oper} {Q:Exit→Act→World→Prop}
variable {d:Option Tmp} {ty:TypeId} {pos:String} {af:Array Edge} {g:Option (Nat×Bool)} {x y:Operand} {t t2:TypeId}
theorem bN.rowAt {a:Act}{W:World}(s:bN c E L a W){i:Nat}{key:Option Nat}{T cap:Nat}{α:Type}[aj α]{xs:List α}(al:L[i]? =some ⟨key,.row T xs cap⟩)(ar:0<xs.length):
 ∃ p cs,key=some p∧W.heap[p]? =some (.cells cs T (0,0))∧cs.size=cap * aj.size α∧xs.length≤cap∧cap≤maxLen∧hJ (aT L++c.cc) W (cs.toList.take (xs.length * aj.size α)) xs:=by
 have bp:=s.own _ (List.mem_of_getElem? al)
 cases key with
 | none=>have:xs= []:=bp.1;subst this;simp at ar
 | some p=>
   obtain⟨o,fC,cs,rfl,h1,ae,aA,aV⟩:=bp
   exact⟨p,cs,rfl,fC,h1,ae,aA,aV⟩
theorem rW {e i k T cap:Nat}{key:Option Nat}{α:Type}[aj α]{xs:List α}{z:Int}(hu:c.P.underlying t=some (.slice e))(fl:bx c.P e α)(ar:bn c E L x (.eq (aS key xs.length cap)))(a1:bn c E L y (.of z))
 (al:L[i]? =some ⟨key,.row T xs cap⟩) (hk:k<xs.length∧z=k):b6 c E L ⟨d,.indexAddr t x y,ty,pos,af,g⟩ (.eq (.pointer (some ⟨key.getD 0,k * aj.size α,none⟩))):= .pure fun a W s=>by
 obtain⟨bs,rfl⟩:=hk
 obtain⟨p,cs,rfl,_⟩:=s.rowAt al (by omega)
 have h1:a.eval x=_:=ar a W s
 have bc:=of_int.1 (a1 a W s)
 obtain⟨hg,eL,ed⟩:=fl.info
 exact⟨_,by simp [execOp,Instr.indexAt,asIntOf,run_underlying hu,h1,bc,bs,Go.sizeOf,typeInfo,eL,ed,kU,aS];rfl,by simp [I.eq]⟩
theorem BU {k n s:Nat}(h:k<n):k * s+s≤n * s:=by rw [← Nat.succ_mul];exact Nat.mul_le_mul_right _ h
theorem yS {i k T cap o:Nat}{key:Option Nat}{α γ:Type}[aj α][Inhabited α][aj γ]{xs:List α}(l:aJ α γ){r:γ}(eO:bx c.P t γ)(ar:bn c E L x (.eq (.pointer (some ⟨key.getD 0,o,none⟩))))
 (al:L[i]? =some ⟨key,.row T xs cap⟩) (hk:k<xs.length) (bp:o=k * aj.size α+l.off) (aI:l.get (aE xs k)=r):b6 c E L ⟨d,.load t x,ty,pos,af,g⟩ (.of r):= .pure fun a W s=>by
 subst bp;subst aI
 obtain⟨p,cs,rfl,fC,h1,ae,aA,aV⟩:=s.rowAt al (by omega)
 have gu:=BU (s:=aj.size α) hk
 have ao:=l.hv
 have hle:xs.length * aj.size α≤cap * aj.size α:=Nat.mul_le_mul_right _ ae
 have ht:=l.jU (aV.2 k hk)
 rw [yB _ _ _ _ _ l.hv,List.drop_take,List.take_take,Nat.min_eq_left (by omega)] at ht
 rw [e7 xs hk]
 obtain⟨v,bc,bs⟩:=yz (A:=aT L++c.cc) eO fC (off:=k * aj.size α+l.off) (by omega) ht
 have df:a.eval x=_:=ar a W s
 simp only [Option.getD_some] at df
 exact⟨v,by simp [execOp,Instr.loadAt,Instr.sureAddr,df,bc],bs⟩
theorem ab.EM {rest:List Oper}{i k T cap o:Nat}{key:Option Nat}{α γ:Type}[aj α][Inhabited α][aj γ]{xs r:List α}{v:γ}(l:aJ α γ)(eO:bx c.P t γ)(ar:bn c E L x (.eq (.pointer (some ⟨key.getD 0,o,none⟩))))(a1:bn c E L y (.of v))
 (al:L[i]? =some ⟨key,.row T xs cap⟩) (hk:k<xs.length) (bp:o=k * aj.size α+l.off) (aI:ln xs k (l.set (aE xs k) v)=r)
 (k':ab c ops Q rest E (L.set i ⟨key,.row T r cap⟩)):ab c ops Q (⟨none,.store t x y,ty,pos,af,none⟩::rest) E L:=fun a W s=>by
 subst bp;subst aI
 obtain⟨p,cs,rfl,fC,h1,ae,aA,aV⟩:=s.rowAt al (by omega)
 have gu:=BU (s:=aj.size α) hk
 have ao:=l.hv
 have hle:xs.length * aj.size α≤cap * aj.size α:=Nat.mul_le_mul_right _ ae
 have bm:=a1 a W s
 have xW:(a.eval y).cells.toList.length=aj.size γ:=aj.len bm.2
 have bc:=HQ (A:=aT L++c.cc) eO fC (off:=k * aj.size α+l.off) (by omega) bm
 have df:a.eval x=_:=ar a W s
 simp only [Option.getD_some] at df
 refine jl rfl (R:=fun v W'=>W'=W.setRow p (hr cs.toList (k * aj.size α+l.off) (a.eval y).cells.toList).toArray) (.BC ?_ rfl) fun u W' hw=>?_
 ·simp [execOp,Instr.storeAt,Instr.sureAddr,df,bc]
 subst hw
 refine k' _ _ (s.store al fC ?_)
 have ny:cs.toList.length=cap * aj.size α:=by simpa using h1
 have sl:(hr cs.toList (k * aj.size α+l.off) (a.eval y).cells.toList).length=cs.toList.length:=by
  simp only [hr,List.length_append,List.length_take,List.length_drop,xW];omega
 refine⟨_,rfl,by simpa [ny] using sl,by simpa [ln] using ae,aA,?_⟩
 have g1:=aV.2 k hk
 have g2:=l.nM g1 bm.2
 have g3:=LZ aV hk g2
 have qq:(cs.toList.take (xs.length * aj.size α)).length=xs.length * aj.size α:=by rw [List.length_take];omega
 rw [Rw _ _ _ _ _ _ l.hv (by omega)] at g3
 have hlen:(ln xs k (l.set (aE xs k) v)).length=xs.length:=by simp [ln]
 rw [hlen,List.toList_toArray]
 have e:(hr cs.toList (k * aj.size α+l.off) (a.eval y).cells.toList).take (xs.length * aj.size α)=
  (cs.toList.take (xs.length * aj.size α)).take (k * aj.size α+l.off)++(a.eval y).cells.toList++(cs.toList.take (xs.length * aj.size α)).drop (k * aj.size α+l.off+aj.size γ):=by
  have av:(cs.toList.take (k * aj.size α+l.off)).length=k * aj.size α+l.off:=by rw [List.length_take];omega
  have aX:(cs.toList.take (k * aj.size α+l.off)++(a.eval y).cells.toList).length=k * aj.size α+l.off+aj.size γ:=by rw [List.length_append,av,xW]
  rw [hr,xW,List.take_append,aX,List.take_of_length_le (by omega),List.take_take,Nat.min_eq_left (by omega),List.drop_take]
 rw [e,show ln xs k (l.set (aE xs k) v)=xs.set k (l.set xs[k] v) by rw [ln,e7 xs hk]]
 exact g3
def jn (key:Option Nat)(lo n cap size:Nat):Value:=match key with
 | some p=>.slice (some (if cap=lo then⟨p,0,none⟩ else⟨p,lo * size,none⟩)) n (cap - lo)
 | none=>.slice none 0 0
theorem Br {key:Option Nat}{n cap size:Nat} :jn key 0 n cap size=aS key n cap:=by
 cases key <;> simp [jn,aS]
theorem Es {i T cap:Nat}{key:Option Nat}{α:Type}[aj α]{xs:List α}{e:TypeId}{lo au:Option Operand}{m n:Nat}{GP GQ:Int}(hu:c.P.underlying t=some (.slice e))(fl:bx c.P e α)(ar:bn c E L x (.eq (aS key xs.length cap)))
 (al:L[i]? =some ⟨key,.row T xs cap⟩) (ij:x6 c E L lo GP 0) (gW:x6 c E L au GQ xs.length) (hm:GP=m) (aQ:GQ=n) (h:m≤n∧n≤xs.length):
 b6 c E L ⟨d,.slice t x lo au none,ty,pos,af,g⟩ (.eq (jn key m (n - m) cap (aj.size α))):= .pure fun a W s=>by
 subst hm;subst aQ
 obtain⟨vO,mh⟩:=h
 obtain⟨hg,eL,ed⟩:=fl.info
 have h1:a.eval x=_:=ar a W s
 have bp:=s.own _ (List.mem_of_getElem? al)
 cases key with
 | none=>
   have o5:xs= []:=bp.1
   subst o5
   have uq:n=0:=by simpa using mh
   have iB:m=0:=by omega
   subst uq
   subst iB
   refine⟨.slice none 0 0,?_,rfl⟩
   have al:(match lo.map a.eval with | some v=>Instr.sliceBound v 0 .sliceB | none=>pure 0:Sem Nat).run c.P W= .ok 0 W:=by
    cases ij with
    | none=>rfl
    | some ao=>exact rF (Nat.le_refl _) (of_int.1 (ao a W s))
   have hH:(match au.map a.eval,(none:Option Value) with | some v,some _=>Instr.sliceBound v 0 .slice3B | some v,none=>Instr.sliceBound v 0 .sliceAcap | none,none=>pure 0 | none,some _=>stuck "Slice: max without high" :Sem Nat).run c.P W= .ok 0 W:=by
    cases gW with
    | none=>rfl
    | some ao=>exact rF (Nat.le_refl _) (of_int.1 (ao a W s))
   cases ij <;> cases gW
   all_goals
    simp only [aS,execOp,Instr.sliceAt,Instr.slice,Instr.sliceBounds,h1,Sem.run_bind,run_underlying hu,Result.andThen_ok,Option.map_none,Option.map_some,Option.isSome_none,Bool.false_eq_true,if_false,if_true,Sem.run_pure] at al hH ⊢
    try simp only [al,hH,Result.andThen_ok,Go.sizeOf,typeInfo,Sem.run_bind,run_program,eL,Sem.run_pure]
    try simp [eL]
 | some p=>
   obtain⟨o,fC,cs,rfl,g1,g2,g3,g4⟩:=bp
   refine⟨_,?_,rfl⟩
   simp only [jn]
   have al:∀ v,v=Value.int .i64 m→ (Instr.sliceBound v n .sliceB).run c.P W= .ok m W:=fun v bm=>rF vO bm
   have hH:∀ v,v=Value.int .i64 n→ (Instr.sliceBound v cap .sliceAcap).run c.P W= .ok n W:=fun v bm=>rF (by omega) bm
   generalize gu:(n:Int)=WZ at gW
   generalize vV:(m:Int)=W0 at ij
   generalize F9:(xs.length:Int)=W1 at gW
   generalize Wl:(0:Int)=W2 at ij
   cases ij with
   | none=>
     have iB:m=0:=by omega
     cases gW with
     | none=>
       have mh:n=xs.length:=by omega
       subst mh
       subst iB
       simp [execOp,Instr.sliceAt,Instr.slice,Instr.sliceBounds,h1,aS,run_underlying hu,Go.sizeOf,typeInfo,eL,ed,kU]
     | some cB=>
       subst gu
       subst iB
       simp [execOp,Instr.sliceAt,Instr.slice,Instr.sliceBounds,h1,aS,run_underlying hu,Go.sizeOf,typeInfo,eL,ed,kU,hH _ (of_int.1 (cB a W s))]
   | some ao=>
     subst vV
     cases gW with
     | none=>
       have mh:n=xs.length:=by omega
       subst mh
       simp [execOp,Instr.sliceAt,Instr.slice,Instr.sliceBounds,h1,aS,run_underlying hu,Go.sizeOf,typeInfo,eL,ed,kU,al _ (of_int.1 (ao a W s))]
       split <;> rfl
     | some cB=>
       subst gu
       simp [execOp,Instr.sliceAt,Instr.slice,Instr.sliceBounds,h1,aS,run_underlying hu,Go.sizeOf,typeInfo,eL,ed,kU,al _ (of_int.1 (ao a W s)),hH _ (of_int.1 (cB a W s))]
       split <;> rfl
theorem bN.again {a:Act}{W:World}(s:bN c E L a W){i:Nat}{key:Option Nat}{cp cp':e3}(al:L[i]? =some ⟨key,cp⟩)(h:∀ A W o,cp.holds A W o→cp'.holds A W o)(aQ:cp.o1→cp'.o1):bN c E (L.set i ⟨key,cp'⟩) a W:=by
 have iA:aT (L.set i ⟨key,cp'⟩)=aT L:=IY (e:=⟨key,cp⟩) (cp:=cp') al;exact
 {defers:=s.defers
  size:=s.size
  env:=fun t τ ao=>by rw [iA];exact s.env t τ ao
  eh:=s.eh
  own:=fun e he=>by
   rw [iA];obtain⟨j,aF⟩:=List.mem_iff_getElem?.1 he;rw [List.getElem?_set] at aF;split at aF
   ·split at aF
    ·simp only [Option.some.injEq] at aF;subst aF;have bp:=s.own _ (List.mem_of_getElem? al);cases key with
     | none=>exact aQ bp
     | some p=>obtain⟨o,h1,ae⟩:=bp;exact⟨o,h1,h _ _ _ ae⟩
    cases aF
   exact s.own e (List.mem_of_getElem? aF)
  nodup:=by rw [iA];exact s.nodup
  lt:=by rw [iA];exact s.lt
  hf:=by rw [iA];exact s.hf
  fB:=by rw [iA];exact s.fB }
theorem Im {T cap n:Nat}{α:Type}[aj α]{xs:List α}(aQ:n≤xs.length){A W o}(h:(e3.row T xs cap).holds A W o):(e3.row T (xs.take n) cap).holds A W o:=by
 obtain⟨cs,rfl,h1,ae,aA,aV⟩:=h;have ao:(xs.take n).length=n:=by rw [List.length_take];omega
 have hle:n * aj.size α≤xs.length * aj.size α:=Nat.mul_le_mul_right _ aQ;have JM:xs.length * aj.size α≤cap * aj.size α:=Nat.mul_le_mul_right _ ae;refine⟨cs,rfl,h1,by omega,aA,?_⟩;rw [ao];have ny:cs.toList.length=cap * aj.size α:=by simpa using h1
 refine⟨by rw [List.length_take,ao];omega,fun i au=>?_⟩;have hX:i<n:=by omega
 have gu:=BU (s:=aj.size α) hX;have:=aV.2 i (by omega);rw [List.drop_take,List.take_take,Nat.min_eq_left (by omega)] at this ⊢;rw [List.getElem_take];exact this
theorem ab.afJ {l:List Oper}{i T cap n:Nat}{key:Option Nat}{α:Type}[aj α]{xs r:List α}(bg:Nat)(ao:look E bg=some (.eq (jn key 0 (n - 0) cap (aj.size α))))(al:L[i]? =some ⟨key,.row T xs cap⟩)(aQ:n≤xs.length)(aI:xs.take n=r)
 (k:ab c ops Q l ((bg,.eq (aS key r.length cap))::E) (L.set i ⟨key,.row T r cap⟩)):ab c ops Q l E L:=fun a W s=>by
 subst aI
 have hlen:(xs.take n).length=n:=by rw [List.length_take];omega
 have cD:=s.again al (fun _ _ _ h=>Im aQ h) (cp':= .row T (xs.take n) cap) (fun⟨h1,ae⟩=>⟨by rw [h1];simp,ae⟩)
 refine k a W { cD with env:=fun t τ ft=>?_ }
 simp only [look] at ft
 by_cases e:Nat.beq bg t=true
 ·rw [e] at ft
  simp only [cond_true,Option.some.injEq] at ft
  subst ft
  have:=fm.1 e
  subst this
  obtain⟨v,h1,ae⟩:=s.env bg _ ao
  refine⟨v,h1,?_⟩
  have mA:v=_:=ae
  rw [Nat.sub_zero,Br] at mA
  rw [hlen]
  exact mA
 simp only [Bool.not_eq_true] at e
 rw [e] at ft
 exact cD.env t τ ft
end
def tO {α:Type}[Inhabited α](xs:List α)(lo n:Nat):List α:=xs.take lo++List.replicate n default++xs.drop (lo+n)
theorem RA {α:Type}[aj α]{A W}{cs ds:List Value}{xs ys:List α}{lo:Nat}(h:hJ A W cs xs)(dc:hJ A W ds ys)(hk:lo+ys.length≤xs.length):
 hJ A W (cs.take (lo * aj.size α)++ds++cs.drop (lo * aj.size α+ds.length)) (xs.take lo++ys++xs.drop (lo+ys.length)):=by
 have ao:=h.1
 have hle:lo * aj.size α≤xs.length * aj.size α:=Nat.mul_le_mul_right _ (by omega)
 have t1:hJ A W (cs.take (lo * aj.size α)) (xs.take lo):=by
  have e:(xs.take lo).length=lo:=by rw [List.length_take];omega
  refine⟨by rw [List.length_take,e];omega,fun i au=>?_⟩;have hX:i<lo:=by omega
  have:=h.2 i (by omega);have gu:=BU (s:=aj.size α) hX;rw [List.drop_take,List.take_take,Nat.min_eq_left (by omega),List.getElem_take];exact this
 have t3:hJ A W (cs.drop (lo * aj.size α+ds.length)) (xs.drop (lo+ys.length)):=by
  have e:lo * aj.size α+ds.length=(lo+ys.length) * aj.size α:=by rw [dc.1,Nat.add_mul]
  rw [e];refine⟨by rw [List.length_drop,List.length_drop,ao,← Nat.sub_mul],fun i au=>?_⟩;rw [List.length_drop] at au;have:=h.2 (lo+ys.length+i) (by omega);rw [List.drop_drop,← Nat.add_mul,List.getElem_drop];exact this
 exact wS (wS t1 dc) t3
section
variable {c:dy} {E:List (Nat×I)} {L:List aR} {ops:Array Oper} {Q:Exit→Act→World→Prop}
variable {d:Option Tmp} {ty:TypeId} {pos:String} {af:Array Edge} {g:Option (Nat×Bool)} {x y:Operand} {t t2:TypeId}
theorem ab.clear {rest:List Oper}{i e T cap lo n:Nat}{key:Option Nat}{α:Type}[aj α][Inhabited α]{xs r:List α}(hu:c.P.underlying t=some (.slice e))(fl:bx c.P e α)(h9:cI c.P e (default:α))(ed:Nat.beq (aj.size α) 0=false)
 (ar:bn c E L x (.eq (jn key lo n cap (aj.size α)))) (al:L[i]? =some ⟨key,.row T xs cap⟩) (aQ:lo+n≤xs.length) (aI:tO xs lo n=r)
 (k:ab c ops Q rest E (L.set i ⟨key,.row T r cap⟩)):ab c ops Q (⟨none,.call ⟨.builtin .clear,#[x],#[t]⟩,ty,pos,af,none⟩::rest) E L:=fun a W s=>by
 subst aI
 have h1:a.eval x=_:=ar a W s
 have bp:=s.own _ (List.mem_of_getElem? al)
 have lT:∀ cp,L.set i ⟨key,cp⟩=L.set i ⟨key,cp⟩:=fun _=>rfl
 by_cases bH:n=0∨key=none
 ·have o5:tO xs lo n=xs:=by
   rcases bH with bH | bH
   ·subst bH;simp [tO]
   subst bH;have:xs= []:=bp.1;subst this;have:n=0:=by simp at aQ;omega
   subst this;simp [tO]
  have ka:(execOp a.eval ⟨none,.call ⟨.builtin .clear,#[x],#[t]⟩,ty,pos,af,none⟩).run c.P W= .ok (.value (.tuple #[])) W:=by
   rcases bH with bH | bH
   ·subst bH;cases key <;> simp [execOp,resolve,invoke,builtin,Builtin.clear_,h1,jn,run_underlying hu]
   subst bH;simp [execOp,resolve,invoke,builtin,Builtin.clear_,h1,jn,run_underlying hu]
  refine jl rfl (R:=fun v W'=>W'=W) (.mL ka rfl) fun v W' hw=>?_
  subst hw
  rw [o5] at k
  have:L.set i ⟨key,.row T xs cap⟩=L:=by
   apply List.ext_getElem?;intro j;rw [List.getElem?_set];split
   ·rename_i gr;subst gr;have:=(List.getElem?_eq_some_iff.1 al).1;rw [if_pos this,al]
   rfl
  rw [this] at k
  exact k _ _ s
 have uq:0<n:=by
  rcases Nat.eq_zero_or_pos n with h | h
  ·exact absurd (.inl h) bH
  exact h
 obtain⟨p,cs,rfl,fC,g1,g2,g3,g4⟩:=s.rowAt al (by omega)
 obtain⟨hg,e4,eL,cJ,OM⟩:=h9.zero
 have J7:=OM (aT L++c.cc) W
 have aiH:e4.cells.toList.length=aj.size α:=aj.len J7.2
 have th:aj.size α≠0:=fun h=>by rw [h] at ed;cases ed
 have Gc:=En J7 n th
 have zM:e4.cells.size=aj.size α:=by simpa using aiH
 have ON:Builtin.zeroCells e4.cells n=(Array.range (n * aj.size α)).map (e4.cells[· % e4.cells.size]!):=by rw [Builtin.zeroCells,zM]
 rw [← ON] at Gc
 generalize mZ:(Builtin.zeroCells e4.cells n).toList=D at Gc
 have akZ:D.length=n * aj.size α:=by rw [Gc.1];simp
 have ij:cap≠lo:=by omega
 have hle:(lo+n) * aj.size α≤cap * aj.size α:=Nat.mul_le_mul_right _ (by omega)
 rw [Nat.add_mul] at hle
 have dk:=run_storeCells_at (P:=c.P) p (lo * aj.size α) _ D 0 cs W fC (by omega) Gc.one
 have ka:(execOp a.eval ⟨none,.call ⟨.builtin .clear,#[x],#[t]⟩,ty,pos,af,none⟩).run c.P W= .ok (.value (.tuple #[])) (W.setRow p (hr cs.toList (lo * aj.size α) D).toArray):=by
  obtain⟨m,rfl⟩:∃ m,n=m+1:=⟨n - 1,by omega⟩;simp only [Nat.add_zero] at dk;simp [execOp,resolve,invoke,builtin,Builtin.clear_,h1,jn,run_underlying hu,ij,zeroValue,typeInfo,run_program,eL,cJ,mZ,dk,hr]
 refine jl rfl (R:=fun v W'=>W'=W.setRow p (hr cs.toList (lo * aj.size α) D).toArray) (.mL ka rfl) fun v W' hw=>?_
 subst hw
 refine k _ _ (s.store al fC ?_)
 have ny:cs.toList.length=cap * aj.size α:=by simpa using g1
 have hlen:(tO xs lo n).length=xs.length:=by simp [tO];omega
 have qq:(cs.toList.take (xs.length * aj.size α)).length=xs.length * aj.size α:=by
  rw [List.length_take];have:xs.length * aj.size α≤cap * aj.size α:=Nat.mul_le_mul_right _ g2;omega
 have ahR:(lo+n) * aj.size α≤xs.length * aj.size α:=Nat.mul_le_mul_right _ aQ
 rw [Nat.add_mul] at ahR
 have akN:xs.length * aj.size α≤cap * aj.size α:=Nat.mul_le_mul_right _ g2
 refine⟨_,rfl,?_,by rw [hlen];exact g2,g3,?_⟩
 ·simp only [List.size_toArray,hr,List.length_append,List.length_take,List.length_drop];omega
 rw [hlen,List.toList_toArray]
 have g5:=RA (lo:=lo) g4 Gc (by simpa using aQ)
 have e:(hr cs.toList (lo * aj.size α) D).take (xs.length * aj.size α)=(cs.toList.take (xs.length * aj.size α)).take (lo * aj.size α)++D++(cs.toList.take (xs.length * aj.size α)).drop (lo * aj.size α+D.length):=by
  have av:(cs.toList.take (lo * aj.size α)).length=lo * aj.size α:=by rw [List.length_take];omega
  have aX:(cs.toList.take (lo * aj.size α)++D).length=lo * aj.size α+D.length:=by rw [List.length_append,av]
  rw [hr,List.take_append,aX,List.take_of_length_le (by omega),List.take_take,Nat.min_eq_left (by omega),List.drop_take]
 rw [e]
 simpa [tO] using g5
theorem bN.share {a:Act}{W:World}(s:bN c E L a W){i gH p:Nat}{α:Type}[aj α]{z:α}(ao:look E gH=some (.eq (.pointer (some ⟨p,0,none⟩))))(al:L[i]? =some ⟨some p,.var z⟩):bN c ((gH,.ptr z)::E) (L.set i ⟨none,.dead⟩) a W:=by
 have hk:=s.kill i;refine { hk with env:=fun t τ ft=>?_ };simp only [look] at ft;by_cases e:Nat.beq gH t=true
 ·rw [e] at ft;simp only [cond_true,Option.some.injEq] at ft;subst ft;have:=fm.1 e;subst this;obtain⟨v,h1,ae⟩:=s.env gH _ ao;have mA:v=_:=ae;subst mA;obtain⟨o,fC,cs,T,rfl,aI⟩:=s.own _ (List.mem_of_getElem? al);have hlen:cs.toList.length=aj.size α:=aj.len aI;refine⟨_,h1,p,0,cs,T,(0,0),rfl,s.Et al,fC,by simp at hlen;omega,?_⟩;rw [List.drop_zero,← hlen,List.take_length];have nZ:=A5 (L:=L) (i:=i) (cp:= .dead);exact aj.mono (.drop fun k hm=>by
   rcases List.mem_append.1 hm with hm | hm
   ·exact List.mem_append.2 (.inl (nZ.subset hm))
   exact List.mem_append.2 (.inr hm)) aI
 simp only [Bool.not_eq_true] at e;rw [e] at ft;exact hk.env t τ ft
theorem ab.share {l:List Oper}{p:Nat}{α:Type}[aj α]{z:α}(i gH:Nat)(ao:look E gH=some (.eq (.pointer (some ⟨p,0,none⟩))))(al:L[i]? =some ⟨some p,.var z⟩)(k:ab c ops Q l ((gH,.ptr z)::E) (L.set i ⟨none,.dead⟩)):ab c ops Q l E L:=
 fun a W s=>k a W (s.share ao al)
theorem IS {α β:Type}[aj α][aj β]{F:α→Option β}{f:FuncId}{xs:List Operand}{τs:List I}(eB:bF c.P f)(ar:jf c E L xs τs)(h:∀ x r,F x=some r→b2 c.P f (.of x::τs) (.of r)):
 b6 c E L ⟨d,.makeFunc (.func f) #[] xs.toArray,ty,pos,af,g⟩ (.zE c.P F):= .pure fun a W s=>by
 have cB:=ar.holds a W s
 refine⟨.func (.func f) #[] (xs.map a.eval).toArray,by simp [execOp,Instr.makeFunc],f,_,_,rfl,eB,fun dd W' e fT x r n9 mG bm=>?_⟩
 simpa using h x r mG dd W' (n9::xs.map a.eval) fT (.cons bm (cB.mono e))
def I.Flat (τ:I):Prop:= ∀ A W dd W' v,τ.holds A W v→τ.holds dd W' v
theorem Em {b:Bool} :(I.of b).Flat:=fun _ _ _ _ _ h=>h
theorem wW {b:Int} :(I.of b).Flat:=fun _ _ _ _ _ h=>h
theorem b6.VB {o:Oper}{τ:I}{T cap:Nat}{key:Option Nat}{α:Type}[aj α]{xs:List α}(i s:Nat)(ao:look E s=some (.eq (aS key xs.length cap)))(al:L[i]? =some ⟨key,.row T xs cap⟩)(aY:τ.Flat)
 (h:b6 c ((s,.of xs)::E) (L.set i ⟨none,.dead⟩) o τ):b6 c E L o τ:=fun a W st=>by
 have:=h a W (st.freeze ao al)
 unfold hK at this ⊢
 exact Oper.wp_mono (fun hx W' ⟨v,h1,ae,aA⟩=>⟨v,h1,ae,aY _ _ _ _ _ aA⟩) this
def I.VR {α:Type}(xs:List α):I where
 holds _ _ v:= ∃ b:Bool,v= .bool b∧ (b=true→xs= [])
 mono _ h:=h
theorem Rb {P:Program}{e:TypeId}(W:World)(d:Nat){t:TypeId}(a:Option Addr)(l cp:Nat)(h:P.underlying t=some (.slice e)):(Op.equalIn (d+1) t (.slice a l cp) (.slice none 0 0)).run P W= .ok a.isNone W:=by
 cases a <;> simp [Op.equalIn,run_underlying h]
theorem Uh {α:Type}[aj α]{xs:List α}{e:TypeId}(hu:c.P.underlying t=some (.slice e))(ar:bn c E L x (.of xs)):b6 c E L ⟨d,.binOp .eql t x (.const (.slice none 0 0)) t2,ty,pos,af,g⟩ (.VR xs):= .pure fun a W s=>by
 have aQ:a.eval (.const (.slice none 0 0))= .slice none 0 0:=rfl;rcases pj.1 (ar a W s) with⟨h1,rfl⟩ | ⟨b,off,cap,cur,T,iS,h1,ae⟩
 ·exact⟨.bool true,by
   simp only [execOp,eqGuard,binOp,h1,aQ,Op.equal,Op.maxDepth];simp [Rb W 9999 none 0 0 hu],true,rfl,fun _=>rfl⟩
 exact⟨.bool false,by
  simp only [execOp,eqGuard,binOp,h1,aQ,Op.equal,Op.maxDepth];simp [Rb W 9999 (some ⟨b,off,none⟩) xs.length cap hu],false,rfl,fun h=>by cases h⟩
theorem ag.Ui {α:Type}{y z:Code}{xs:List α}(ao:bn c E L x (.VR xs))(bP:xs= []→ag c Q y E L)(aY:ag c Q z E L):ag c Q (.cond x y z) E L:=fun a W s=>by
 obtain⟨b,h1,ae⟩:=ao a W s;exact wpIn_cond_split h1 (fun h=>bP (ae h) a W s) (fun _=>aY a W s)
end
def bb (c:dy)(ops:Array Oper)(Q:Exit→Act→World→Prop)(f:Nat)(bD:Array Bool)(E:List (Nat×I))(L:List aR):Prop:=
 ∀ a W,bN c E L a W→wpAnyIn c.F 9 c.P .any ops Q f bD a W
def qH (K:Act→World→Prop)(Q:Exit→Act→World→Prop):Exit→Act→World→Prop
 | .normal,a,W=>K a W
 | x,a,W=>Q x a W
def VS:Nat→Nat→List Bool
 | 0,_=>[]
 | n+1,k=>Nat.beq (k % 2) 1::VS n (k / 2)
def b9 (n k:Nat):Array Bool:=Array.mk (VS n k)
section
variable {c:dy} {E:List (Nat×I)} {L:List aR} {ops:Array Oper} {Q:Exit→Act→World→Prop}
theorem Oper.aaD {F:Fence}{n:Nat}{P:Program}{o:Oper}{a:Act}{K:Act→World→Prop}{r:Result Next}(h:o.uponIn F n P a K (qH K Q) r):o.uponIn F n P a K Q r:=by
 cases r with
 | ok m qB=>
   cases m <;> simp only [Oper.uponIn] at h ⊢ <;>
    first
     | exact h
     | exact⟨h.1,CallsIn.mono h.2 (fun e xQ he=>by cases e <;> exact he)⟩
     | exact⟨h.1,RoundIn.mono h.2 (fun e xQ he=>by cases e <;> exact he)⟩
 | halt x qB=>cases x <;> simp only [Oper.uponIn] at h ⊢ <;> exact h
theorem HU {i:Nat}{o:Oper}{K:Act→World→Prop}{a:Act}{W:World}(au:ops[i]? =some o)(h:c.ti ops (qH K Q) [o] a W):wpOpIn c.F 9 c.P ops Q i K a W:=by
 unfold wpOpIn;simp only [au];simp only [dy.ti,wpListIn] at h;split
 ·rename_i hw;rw [if_pos hw] at h;exact⟨h.1,Oper.aaD h.2⟩
 rename_i hw;rw [if_neg hw] at h;exact h
def Cd (c:dy)(ops:Array Oper)(Q:Exit→Act→World→Prop)(f:Nat)(bD:Array Bool)(E:List (Nat×I))(L:List aR):List Nat→Prop
 | []=>True
 | i::r=>(∃ o,ops[i]? =some o∧ab c ops (qH (wpAnyIn c.F 9 c.P .any ops Q f (bD.setIfInBounds i true)) Q) [o] E L)∧Cd c ops Q f bD E L r
theorem Cd.get {f:Nat}{bD:Array Bool} :∀ {tx:List Nat},Cd c ops Q f bD E L tx→ ∀ i∈tx,∃ o,ops[i]? =some o∧ab c ops (qH (wpAnyIn c.F 9 c.P .any ops Q f (bD.setIfInBounds i true)) Q) [o] E L
 | _::_,h,i,au=>by
   rcases List.mem_cons.1 au with rfl | au
   ·exact h.1
   exact Cd.get h.2 i au
theorem bb.step {f:Nat}{bD:Array Bool}(tx:List Nat)(aI:Region.ready .any ops bD=tx)(dC:tx.isEmpty=false)(h:Cd c ops Q f bD E L tx):bb c ops Q (f+1) bD E L:=fun a W s=>
 ⟨fun bH=>(by rw [← aI,bH] at dC;exact absurd dC (by simp)),fun i au=>(by
  rw [aI] at au;obtain⟨o,h1,ae⟩:=h.get i au;exact HU h1 (ae a W s))⟩
theorem bb.le {f:Nat}{bD:Array Bool}{E':List (Nat×I)}(h:gO E E')(k:bb c ops Q f bD E' L):bb c ops Q f bD E L:=fun a W s=>k a W (s.less h.look)
theorem ad.any {f:Nat}{bD sM:Array Bool}(ao:bD=sM)(k:bb c ops Q f sM E L):ad c (qH (wpAnyIn c.F 9 c.P .any ops Q f bD) Q) .normal E L:=fun a W s=>by
 subst ao;exact k a W s
theorem ad.bl {f:Nat}{bD sM:Array Bool}{E':List (Nat×I)}(k:bb c ops Q f sM E' L)(h:gO E E':=by repeat (first | exact gO.nil | refine gO.same rfl ?_))(ao:bD=sM:=by kernel_rfl):ad c (qH (wpAnyIn c.F 9 c.P .any ops Q f bD) Q) .normal E L:= .any ao (.le h k)
theorem bb.iQ {f:Nat}{bD:Array Bool}(tx:List Nat)(h:Cd c ops Q f bD E L tx)(aI:Region.ready .any ops bD=tx:=by kernel_rfl)(dC:tx.isEmpty=false:=by rfl):bb c ops Q (f+1) bD E L:= .step tx aI dC h
theorem ag.E8 {oH:Nat}{l:List Oper}(hm:c.P.follows .mixedOrders=true)(n:Nat)(ls:Array Bool)(aQ:l.length=n)(Gd:Array.replicate n false=ls)(h:bb c l.toArray Q n ls E L):ag c Q (.region oH l.toArray true) E L:=fun a W s=>by
 subst aQ Gd;refine wpIn_region_any hm ?_;have:=h a W.drew (s.world (Fr.drew W));simpa using this
end
section
variable {c:dy} {E:List (Nat×I)} {L:List aR} {ops:Array Oper} {Q:Exit→Act→World→Prop}
variable {d:Option Tmp} {ty:TypeId} {pos:String} {af:Array Edge} {g:Option (Nat×Bool)} {x y:Operand} {t t2:TypeId}
theorem ab.sb {α:Type}[aj α]{rest:List Oper}{bg e n:Nat}{z:α}{r:List α}{fi:List (Nat×Operand)}(hu:c.P.underlying t=some (.slice e))(fl:bx c.P e α)(h9:cI c.P e z)(hs:Nat.beq (aj.size α) 0=false)(aQ:Nat.ble (n * aj.size α) 16777216=true)
 (aY:p2 c E L (List.replicate n z) fi r) (iT:Nat.blt bg c.n=true) (k:∀ p,ab c ops Q rest ((bg,.eq (aS p r.length n))::E) (⟨p,.row e r n⟩::L)):
 ab c ops Q (⟨some bg,.buildSlice t n fi.toArray,ty,pos,af,none⟩::rest) E L:=fun a W s=>by
 obtain⟨hg,e4,eL,cJ,ur⟩:=h9.zero
 have pB:hg.size=aj.size α:=by
  obtain⟨i2,h1,ae⟩:=fl.info;rw [eL] at h1;cases h1;exact ae
 have j2:aj.size α≠0:=fun h=>by rw [h] at hs;cases hs
 have tk:=En (ur (aT L++c.cc) W) n j2
 obtain⟨fh,aA,aV,bc⟩:=aY.run a W s _ tk
 have hlen:r.length=n:=by rw [bc];simp
 have hm:(fi.toArray.map fun(x:Nat×Operand)=>(x.1,a.eval x.2)).toList=fi.map fun(i,x)=>(i,a.eval x):=by simp
 have ahM:=Nat.le_of_ble_eq_true aQ
 refine jl rfl (R:=fun v W'=>v= .slice (some ⟨W.heap.size,0,none⟩) n n∧W'=W.alloc (.cells fh e)) (.mL (v:= .slice (some ⟨W.heap.size,0,none⟩) n n) (W':=W.alloc (.cells fh e)) ?_ ⟨rfl,rfl⟩) fun v W' ⟨h1,ae⟩=>?_
 ·simp only [execOp,Instr.buildSlice,Sem.run_bind,run_underlying hu,Result.andThen_ok,Go.sizeOf,typeInfo,run_program,eL,Sem.run_pure,pB]
  rw [if_neg (by omega)]
  try simp only [Sem.run_pure,Result.andThen_ok,Sem.run_bind]
  by_cases bH:n * aj.size α=0
  ·have uq:n=0:=by
    rcases Nat.mul_eq_zero.1 bH with h | h
    ·exact h
    exact absurd h j2
   subst uq
   simp only [Nat.zero_mul,if_true,Sem.run_pure,Result.andThen_ok]
   try simp only [Nat.zero_mul] at aA
   have h3:((Array.range 0).map (fun x=>(#[]:Array Value)[x % (#[]:Array Value).size]!))=((Array.range 0).map (e4.cells[· % e4.cells.size]!)):=by simp
   simp only [pure_bind]
   rw [h3,hm,aA]
   simp [newRow]
  simp only [bH,if_false,Sem.run_bind,zeroValue,typeInfo,run_program,Result.andThen_ok,eL,cJ,Sem.run_pure]
  rw [hm,aA]
  simp [newRow]
 subst h1 ae
 have xC:n≤maxLen:=by
  have:n * 1≤n * aj.size α:=Nat.mul_le_mul_left _ (by omega);have:maxLen=9223372036854775807:=rfl;omega
 have ed:fh.size=n * aj.size α:=by have:=aV.1;rw [hlen] at this;simpa using this
 have cD:=s.alloc (o:= .cells fh e) (cp:= .row e r n) ⟨fh,rfl,ed,by omega,xC,by
  have bs:=aV.1;rw [← bs,List.take_length];exact aV⟩
 refine k (some W.heap.size) _ _ (cD.put (τ:= .eq (aS (some W.heap.size) r.length n)) (by simpa using iT) ?_)
 show _=_
 rw [hlen];rfl
theorem ab.p6 {l:List Oper}{key:Option Nat}{n m cap:Nat}(gH:Nat)(ao:look E gH=some (.eq (aS key n cap)))(aQ:n=m)(k:ab c ops Q l ((gH,.eq (aS key m cap))::E) L):ab c ops Q l E L:=fun a W s=>by
 subst aQ;refine k a W (s.less fun t τ h=>?_);simp only [look] at h;by_cases e:Nat.beq gH t=true
 ·rw [e] at h;simp only [cond_true] at h;have:=fm.1 e;subst this;exact⟨τ,by rw [ao,h],fun _ _ _ h=>h⟩
 simp only [Bool.not_eq_true] at e;rw [e] at h;exact⟨τ,h,fun _ _ _ h=>h⟩
end
theorem sK {α:Type}{xs r:List α}{k:Nat}{v:α}(h:ln xs k v=r):xs.length=r.length:=by rw [← h];simp [ln]
theorem Ru {α:Type}{b:Nat}{r:List α}(h:((fY b [] ([]:List α)).bind fun y=>some y)=some r):r= []:=by
 obtain⟨y,h1,ae⟩:=bind_some h;obtain⟨_,_,aA⟩:=Rx h1;rw [aA] at ae;exact(di ae).symm
def mf:Value:= .slice none 0 0
def blank:List (Nat×Value)→List Value→List Value
 | [],cs=>cs
 | o::r,cs=>blank r (cs.set o.1 mf)
theorem Ef:∀ {os:List (Nat×Value)} {cs:List Value},(blank os cs).length=cs.length
 | [],_=>rfl
 | o::r,cs=>by rw [blank,Ef,List.length_set]
theorem tH:∀ {os:List (Nat×Value)} {cs:List Value} (i:Nat),(blank os cs)[i]? =if os.any (fun h=>Nat.beq h.1 i)=true then cs[i]?.map (fun _=>mf) else cs[i]?
 | [],_,i=>by simp [blank]
 | o::r,cs,i=>by
   rw [blank,tH i,List.any_cons];by_cases h:o.1=i
   ·subst h;simp only [Nat.beq_refl,Bool.true_or,if_true,List.getElem?_set];by_cases ao:o.1<cs.length
    ·simp [ao]
    simp [ao]
   have hb:Nat.beq o.1 i=false:=by
    cases hb:Nat.beq o.1 i
    ·rfl
    exact absurd (fm.1 hb) h
   rw [hb,Bool.false_or,List.getElem?_set_ne h]
def vc (os:List (Nat×Value))(off n:Nat):Bool:=os.all fun h=>Nat.blt h.1 off||Nat.ble (off+n) h.1
theorem Rc {os:List (Nat×Value)}{off n i:Nat}(h:vc os off n=true)(h1:off≤i)(ae:i<off+n):os.any (fun h=>Nat.beq h.1 i)=false:=by
 rw [List.any_eq_false];intro x ar hb;have aA:=List.all_eq_true.1 h x ar;have aV:=fm.1 hb;simp only [Bool.or_eq_true,Nat.blt_eq,Nat.ble_eq] at aA;omega
theorem aaE {os:List (Nat×Value)}{off n:Nat}{cs:List Value}(h:vc os off n=true):((blank os cs).drop off).take n=(cs.drop off).take n:=by
 apply List.ext_getElem?;intro i;simp only [List.getElem?_take,List.getElem?_drop];split
 ·rw [tH,Rc h (by omega) (by omega)];rfl
 rfl
theorem yH {cs ds:List Value}{off:Nat}(h:off+ds.length≤cs.length)(i:Nat):(hr cs off ds)[i]? =if i<off then cs[i]? else if i<off+ds.length then ds[i - off]? else cs[i]? :=by
 have h1:(cs.take off).length=off:=by rw [List.length_take];omega
 unfold hr;rw [List.append_assoc];by_cases au:i<off
 ·rw [if_pos au,List.getElem?_append_left (by omega),List.getElem?_take,if_pos au]
 rw [if_neg au,List.getElem?_append_right (by omega),h1];by_cases ae:i<off+ds.length
 ·rw [if_pos ae,List.getElem?_append_left (by omega)]
 rw [if_neg ae,List.getElem?_append_right (by omega),List.getElem?_drop];congr 1;omega
theorem Zr {os:List (Nat×Value)}{off:Nat}{cs ds:List Value}(h:vc os off ds.length=true)(hs:off+ds.length≤cs.length):blank os (hr cs off ds)=hr (blank os cs) off ds:=by
 apply List.ext_getElem?;intro i;rw [tH,yH hs,yH (by rw [Ef];exact hs),tH];by_cases h1:i<off
 ·simp only [if_pos h1]
 simp only [if_neg h1];by_cases ae:i<off+ds.length
 ·simp only [if_pos ae,Rc h (Nat.not_lt.1 h1) ae];rfl
 simp only [if_neg ae]
def w5 (os:List (Nat×Value))(o:Nat)(u:Value):List (Nat×Value):=
 bif os.any (fun h=>Nat.beq h.1 o) then os.map (fun h=>bif Nat.beq h.1 o then(o,u) else h) else(o,u)::os
theorem ZG {os:List (Nat×Value)}{o:Nat}{u:Value}{h:Nat×Value}(hm:h∈w5 os o u):h=(o,u)∨ (h∈os∧h.1≠o):=by
 unfold w5 at hm;cases hb:os.any (fun h=>Nat.beq h.1 o)
 ·rw [hb] at hm;simp only [cond_false] at hm;rcases List.mem_cons.1 hm with hm | hm
  ·exact .inl hm
  refine .inr ⟨hm,fun e=>?_⟩;have:=List.any_eq_false.1 hb h hm;exact this (fm.2 e)
 rw [hb] at hm;simp only [cond_true] at hm;obtain⟨x,ar,he⟩:=List.mem_map.1 hm;cases h1:Nat.beq x.1 o
 ·rw [h1] at he;simp only [cond_false] at he;subst he;exact .inr ⟨ar,fun e=>by rw [fm.2 e] at h1;cases h1⟩
 rw [h1] at he;exact .inl he.symm
theorem ZH {os:List (Nat×Value)}{o i:Nat}{u:Value} :(w5 os o u).any (fun h=>Nat.beq h.1 i)=(Nat.beq o i||os.any (fun h=>Nat.beq h.1 i)):=by
 unfold w5;cases hb:os.any (fun h=>Nat.beq h.1 o)
 ·simp only [cond_false,List.any_cons]
 simp only [cond_true,List.any_map];rw [Bool.eq_iff_iff,Bool.or_eq_true,List.any_eq_true,List.any_eq_true];constructor
 ·rintro ⟨x,ar,he⟩;simp only [Function.comp] at he;cases h1:Nat.beq x.1 o
  ·rw [h1] at he;exact .inr ⟨x,ar,he⟩
  rw [h1] at he;exact .inl he
 rintro (h | ⟨x,ar,he⟩)
 ·obtain⟨x,ar,h1⟩:=List.any_eq_true.1 hb;exact⟨x,ar,by simp only [Function.comp,h1,cond_true];exact h⟩
 refine⟨x,ar,?_⟩;simp only [Function.comp];cases h1:Nat.beq x.1 o
 ·exact he
 have av:=fm.1 h1;have aX:=fm.1 he;simp only [cond_true];exact fm.2 (by omega)
def tJ (os:List (Nat×Value))(o:Nat):List (Nat×Value):=os.filter (fun h=> !Nat.beq h.1 o)
theorem ZI {os:List (Nat×Value)}{o i:Nat} :(tJ os o).any (fun h=>Nat.beq h.1 i)=(!(Nat.beq o i)&&os.any (fun h=>Nat.beq h.1 i)):=by
 rw [Bool.eq_iff_iff];simp only [List.any_eq_true,Bool.and_eq_true,Bool.not_eq_true',tJ,List.mem_filter];constructor
 ·rintro ⟨x,⟨h1,ae⟩,aA⟩;refine⟨?_,x,h1,aA⟩;cases hb:Nat.beq o i
  ·rfl
  have:=fm.1 hb;have aV:=fm.1 aA;rw [aV,← this,Nat.beq_refl] at ae;cases ae
 rintro ⟨bH,x,h1,aA⟩;refine⟨x,⟨h1,?_⟩,aA⟩;cases hb:Nat.beq x.1 o
 ·rfl
 have:=fm.1 hb;have aV:=fm.1 aA;rw [← this,aV,Nat.beq_refl] at bH;cases bH
def nr {α:Type}[aj α](A:List Nat)(W:World)(cs:List Value)(x:α)(os:List (Nat×Value)):Prop:=aj.rep A W (blank os cs) x∧ ∀ h∈os,cs[h.1]? =some h.2∧h.2.oneCell'=true
theorem nr.len {α:Type}[aj α]{A W}{cs:List Value}{x:α}{os:List (Nat×Value)}(h:nr A W cs x os):cs.length=aj.size α:=by rw [← Ef (os:=os)];exact aj.len h.1
theorem nr.mono {α:Type}[aj α]{A W dd W'}{cs:List Value}{x:α}{os:List (Nat×Value)}(e:Ext A W dd W')(h:nr A W cs x os):nr dd W' cs x os:=⟨aj.mono e h.1,h.2⟩
theorem nr.one {α:Type}[aj α]{A W}{cs:List Value}{x:α}{os:List (Nat×Value)}(h:nr A W cs x os):∀ u∈cs,u.oneCell'=true:=by
 intro u hu;obtain⟨i,au⟩:=List.mem_iff_getElem?.1 hu;by_cases hb:os.any (fun h=>Nat.beq h.1 i)=true
 ·obtain⟨o,bp,he⟩:=List.any_eq_true.1 hb;have he:=fm.1 he;obtain⟨h1,ae⟩:=h.2 o bp;rw [he,au] at h1;cases h1;exact ae
 have h1:=tH (os:=os) (cs:=cs) i;rw [if_neg hb,au] at h1;exact aj.one h.1 u (List.mem_of_getElem? h1)
def e3.cE {α:Type}[aj α](x:α)(os:List (Nat×Value)):e3 where
 holds A W o:= ∃ cs T,o= .cells cs T (0,0)∧nr A W cs.toList x os
 o1:=False
 mono e h:=let⟨cs,T,bp,aI⟩:=h; ⟨cs,T,bp,aI.mono e⟩
def I.OO {α:Type}[aj α](x:α)(os:List (Nat×Value)):I where
 holds A W v:=shaped (aj.agg α) v∧nr A W v.cells.toList x os
 mono e h:=⟨h.1,h.2.mono e⟩
structure hy where
 v:Value
instance:aj hy where
 size:=1
 agg:=false
 rep _ _ cs x:=cs= [x.v]∧x.v.oneCell'=true
 len h:=by rw [h.1];rfl
 one h:=by rw [h.1];intro u hu;rw [List.mem_singleton.1 hu];exact h.2
 flat _:=rfl
 mono _ h:=h
theorem UZ {A W v}{u:Value} :(I.of (⟨u⟩:hy)).holds A W v↔v=u∧u.oneCell'=true:=by
 constructor
 ·rintro ⟨h1,ae,aA⟩;have h1:v.oneCell'=true:=h1;exact⟨oR h1 ae,aA⟩
 rintro ⟨rfl,h⟩;exact⟨h,by show v.cells.toList= [v]∧_;rw [cells_one h];exact⟨rfl,h⟩⟩
theorem bx.ex {P:Program}{t:TypeId}{γ:Type}[aj γ](h:bx P t (List γ)):bx P t hy:=⟨h.size,h.Wk⟩
theorem iZ {key:Option Nat}{n cap:Nat} :(aS key n cap).oneCell'=true:=by cases key <;> rfl
theorem acu {A W}{γ:Type}[aj γ]:aj.rep A W [mf] ([]:List γ):=⟨mf,rfl,.inl ⟨rfl,rfl⟩⟩
theorem RY {α γ:Type}[aj α][aj γ]{A W}{cs ds:List Value}{x:α}{v:γ}{os:List (Nat×Value)}(l:aJ α γ)(h:nr A W cs x os)(hd:aj.rep A W ds v)(a7:vc os l.off (aj.size γ)=true):nr A W (hr cs l.off ds) (l.set x v) os:=by
 have h1:=h.len;have gu:=l.hv;have ao:=aj.len hd;refine⟨?_,fun o hm=>?_⟩
 ·have bs:=l.nM h.1 hd;rw [Zr (by rw [ao];exact a7) (by rw [ao];omega)];simpa [hr,ao] using bs
 refine⟨?_,(h.2 o hm).2⟩;rw [yH (by rw [ao];omega)];have df:=List.all_eq_true.1 a7 o hm;simp only [Bool.or_eq_true,Nat.blt_eq,Nat.ble_eq] at df;rw [ao];by_cases dz:o.1<l.off
 ·rw [if_pos dz];exact(h.2 o hm).1
 rw [if_neg dz,if_neg (by omega)];exact(h.2 o hm).1
theorem RB {α γ:Type}[aj α][aj γ]{A W}{cs:List Value}{x:α}{u:Value}{os:List (Nat×Value)}(l:aJ α (List γ))(h:nr A W cs x os)(hu:u.oneCell'=true):nr A W (hr cs l.off [u]) (l.set x []) (w5 os l.off u):=by
 have h1:=h.len;have gu:l.off+1≤aj.size α:=l.hv;refine⟨?_,fun o hm=>?_⟩
 ·have bs:aj.rep A W ((blank os cs).take l.off++[mf]++(blank os cs).drop (l.off+1)) (l.set x []):=l.nM h.1 (acu (γ:=γ));have e:blank (w5 os l.off u) (hr cs l.off [u])=hr (blank os cs) l.off [mf]:=by
   apply List.ext_getElem?;intro i;rw [tH,yH (by simp;omega),yH (by rw [Ef];simp;omega),tH];rw [ZH];by_cases au:l.off=i
   ·subst au;simp
   have hb:Nat.beq l.off i=false:=by
    cases hb:Nat.beq l.off i
    ·rfl
    exact absurd (fm.1 hb) au
   rw [hb];simp only [Bool.false_or,List.length_singleton];by_cases ae:i<l.off
   ·simp only [if_pos ae]
   have ea: ¬ i<l.off+1:=by omega
   simp only [if_neg ae,if_neg ea]
  rw [e];simpa [hr] using bs
 rw [yH (by simp;omega)];rcases ZG hm with rfl | ⟨aA,dC⟩
 ·exact⟨by simp,hu⟩
  
 simp only [List.length_singleton]
 refine⟨?_,(h.2 o aA).2⟩
 by_cases dz:o.1<l.off
 ·rw [if_pos dz];exact(h.2 o aA).1
 rw [if_neg dz,if_neg (by omega)];exact(h.2 o aA).1
theorem RC {α γ:Type}[aj α][aj γ]{A W}{cs:List Value}{x:α}{u:Value}{xs:List γ}{os:List (Nat×Value)}(l:aJ α (List γ))(h:nr A W cs x os)(hm:(l.off,u)∈os)(hs:qF A W u xs):nr A W cs (l.set x xs) (tJ os l.off):=by
 have h1:=h.len;have gu:l.off+1≤aj.size α:=l.hv;have aiI:=(h.2 _ hm).1;refine⟨?_,fun o bp=>h.2 o (List.mem_filter.1 bp).1⟩;have bs:aj.rep A W ((blank os cs).take l.off++[u]++(blank os cs).drop (l.off+1)) (l.set x xs):=l.nM h.1 (ds:= [u]) (g:=xs) ⟨u,rfl,hs⟩;have e:blank (tJ os l.off) cs=hr (blank os cs) l.off [u]:=by
  apply List.ext_getElem?;intro i;rw [tH,yH (by rw [Ef];simp;omega),tH,ZI];by_cases au:l.off=i
  ·subst au;simp [aiI]
  have hb:Nat.beq l.off i=false:=by
   cases hb:Nat.beq l.off i
   ·rfl
   exact absurd (fm.1 hb) au
  rw [hb];simp only [Bool.not_false,Bool.true_and,List.length_singleton];by_cases ae:i<l.off
  ·simp only [if_pos ae]
  have ea: ¬ i<l.off+1:=by omega
  simp only [if_neg ae,if_neg ea]
 rw [e];simpa [hr] using bs
section
variable {c:dy} {E:List (Nat×I)} {L:List aR} {ops:Array Oper} {Q:Exit→Act→World→Prop}
variable {d:Option Tmp} {ty:TypeId} {pos:String} {af:Array Edge} {g:Option (Nat×Bool)} {x y:Operand} {t t2:TypeId}
theorem bN.ES {a:Act}{W:World}(s:bN c E L a W){i:Nat}{key:Option Nat}{cp cp':e3}(al:L[i]? =some ⟨key,cp⟩)(h:∀ o,cp.holds (aT L++c.cc) W o→cp'.holds (aT L++c.cc) W o)(aQ:cp.o1→cp'.o1):bN c E (L.set i ⟨key,cp'⟩) a W:=by
 have iA:aT (L.set i ⟨key,cp'⟩)=aT L:=IY (e:=⟨key,cp⟩) (cp:=cp') al;exact
 {defers:=s.defers
  size:=s.size
  env:=fun t τ ao=>by rw [iA];exact s.env t τ ao
  eh:=s.eh
  own:=fun e he=>by
   rw [iA];obtain⟨j,aF⟩:=List.mem_iff_getElem?.1 he;rw [List.getElem?_set] at aF;split at aF
   ·split at aF
    ·simp only [Option.some.injEq] at aF;subst aF;have bp:=s.own _ (List.mem_of_getElem? al);cases key with
     | none=>exact aQ bp
     | some p=>obtain⟨o,h1,ae⟩:=bp;exact⟨o,h1,h _ ae⟩
    cases aF
   exact s.own e (List.mem_of_getElem? aF)
  nodup:=by rw [iA];exact s.nodup
  lt:=by rw [iA];exact s.lt
  hf:=by rw [iA];exact s.hf
  fB:=by rw [iA];exact s.fB }
theorem ab.rV {l:List Oper}{p:Nat}{β:Type}[aj β]{b:β}(i:Nat)(al:L[i]? =some ⟨some p,.cE b []⟩)(k:ab c ops Q l E (L.set i ⟨some p,.var b⟩)):ab c ops Q l E L:=fun a W s=>
 k a W (s.ES al (fun o ⟨cs,T,h1,ae⟩=>⟨cs,T,h1,ae.1⟩) id)
theorem ad.rV {z:Exit}{p:Nat}{β:Type}[aj β]{b:β}(i:Nat)(al:L[i]? =some ⟨some p,.cE b []⟩)(k:ad c Q z E (L.set i ⟨some p,.var b⟩)):ad c Q z E L:=fun a W s=>
 k a W (s.ES al (fun o ⟨cs,T,h1,ae⟩=>⟨cs,T,h1,ae.1⟩) id)
def MW:Option Value→Bool
 | some (.slice none 0 0)=>true
 | _=>false
theorem Re {v:Option Value}(h:MW v=true):v=some mf:=by
 unfold MW at h;split at h
 ·rfl
 cases h
def kh (P:Program)(t:TypeId)(hs:List Nat):Prop:=((P.info? t).bind (·.zero)).any (fun v=>hs.all fun o=>MW v.cells.toList[o]?)=true
theorem LF:∀ {os:List (Nat×Value)} {cs:List Value},(∀ h∈os,cs[h.1]? =some mf)→blank os cs=cs
 | [],_,_=>rfl
 | o::r,cs,h=>by
   have h1:=h o (by simp);have e:cs.set o.1 mf=cs:=by
    apply List.ext_getElem?;intro i;rw [List.getElem?_set];split
    ·rename_i he;subst he;have:=(List.getElem?_eq_some_iff.1 h1).1;rw [if_pos this,h1]
    rfl
   rw [blank,e];exact LF fun x ar=>h x (by simp [ar])
theorem ab.qS {rest:List Oper}{bg:Nat}{α:Type}[aj α]{z:α}(hs:List Nat)(wu:kh c.P t hs)(h9:cI c.P t z)(aQ:Nat.blt bg c.n=true)
 (k:∀ p,ab c ops Q rest ((bg,.eq (.pointer (some ⟨p,0,none⟩)))::E) (⟨some p,.cE z (hs.map fun o=>(o,mf))⟩::L)):ab c ops Q (⟨some bg,.alloc t,ty,pos,af,none⟩::rest) E L:=fun a W s=>by
 obtain⟨i,e4,h1,ae,aA⟩:=h9.zero
 have cB:∀ o∈hs,e4.cells.toList[o]? =some mf:=fun o bp=>by
  unfold kh at wu;rw [h1] at wu;simp only [Option.bind_some,ae,Option.any_some] at wu;exact Re (List.all_eq_true.1 wu o bp)
 have Wp:∀ h∈hs.map (fun o=>(o,mf)),e4.cells.toList[h.1]? =some h.2:=fun h hm=>by
  obtain⟨o,bp,rfl⟩:=List.mem_map.1 hm;exact cB o bp
 refine jl rfl (R:=fun v W'=>v= .pointer (some ⟨W.heap.size,0,none⟩)∧W'=W.alloc (.cells e4.cells t)) (.mL ?_ ⟨rfl,rfl⟩) fun v W' ⟨bm,hw⟩=>?_
 ·simp [execOp,Instr.alloc,zeroValue,typeInfo,h1,ae,newVar,newRow]
 subst bm
 subst hw
 refine k _ _ _ ((s.alloc (cp:= .cE z (hs.map fun o=>(o,mf))) ⟨e4.cells,t,rfl,?_,fun h hm=>⟨Wp h hm,by obtain⟨o,_,rfl⟩:=List.mem_map.1 hm;rfl⟩⟩).put (by simpa using aQ) rfl)
 rw [LF fun h hm=>by rw [Wp h hm];obtain⟨o,_,rfl⟩:=List.mem_map.1 hm;rfl]
 exact(aA _ _).2
theorem ab.Vp {rest:List Oper}{bg:Nat}{α:Type}[aj α]{z:α}{os:List (Nat×Value)}(ar:bn c E L x (.OO z os))(aQ:Nat.blt bg c.n=true)
 (k:∀ p,ab c ops Q rest ((bg,.eq (.pointer (some ⟨p,0,none⟩)))::E) (⟨some p,.cE z os⟩::L)):ab c ops Q (⟨some bg,.box t x,ty,pos,af,none⟩::rest) E L:=fun a W s=>by
 refine jl rfl (R:=fun v W'=>v= .pointer (some ⟨W.heap.size,0,none⟩)∧W'=W.alloc (.cells (a.eval x).cells t)) (.mL ?_ ⟨rfl,rfl⟩) fun v W' ⟨bm,hw⟩=>?_
 ·simp [execOp,Instr.box,newVar,newRow]
 subst bm
 subst hw
 obtain⟨h1,ae⟩:=ar a W s
 exact k _ _ _ ((s.alloc (cp:= .cE z os) ⟨_,t,rfl,ae⟩).put (by simpa using aQ) rfl)
theorem Iz {t:TypeId}{i p o:Nat}{β γ:Type}[aj β][aj γ]{b:β}{os:List (Nat×Value)}(l:aJ β γ){r:γ}(eO:bx c.P t γ)(ar:bn c E L x (.eq (.pointer (some ⟨p,o,none⟩))))
 (al:L[i]? =some ⟨some p,.cE b os⟩) (bp:o=l.off) (aI:l.get b=r) (a7:vc os l.off (aj.size γ)=true):b6 c E L ⟨d,.load t x,ty,pos,af,g⟩ (.of r):= .pure fun a W s=>by
 subst bp
 subst aI
 obtain⟨qC,fC,cs,T,rfl,ht⟩:=s.own _ (List.mem_of_getElem? al)
 have h1:cs.toList.length=aj.size β:=ht.len
 have bc:=l.jU ht.1
 rw [aaE a7] at bc
 obtain⟨v,ae,aA⟩:=yz (A:=aT L++c.cc) eO fC (by have:=l.hv;simp at h1;omega) bc
 refine⟨v,?_,aA⟩
 have aV:a.eval x=_:=ar a W s
 simp [execOp,Instr.loadAt,Instr.sureAddr,aV,ae]
theorem acv {cs:List Value}{o:Nat}{u:Value}(h:cs[o]? =some u):(cs.drop o).take 1= [u]:=by
 apply List.ext_getElem?;intro i;rw [List.getElem?_take,List.getElem?_drop];cases i with
 | zero=>simpa using h
 | succ i=>simp
theorem hD {t:TypeId}{i p o q:Nat}{β γ:Type}[aj β][aj γ]{b:β}{os:List (Nat×Value)}{u:Value}(eO:bx c.P t (List γ))(ar:bn c E L x (.eq (.pointer (some ⟨p,o,none⟩))))
 (al:L[i]? =some ⟨some p,.cE b os⟩) (hq:os[q]? =some (o,u)):b6 c E L ⟨d,.load t x,ty,pos,af,g⟩ (.eq u):= .pure fun a W s=>by
 obtain⟨qC,fC,cs,T,rfl,ht,cB⟩:=s.own _ (List.mem_of_getElem? al)
 obtain⟨bc,hu⟩:=cB _ (List.mem_of_getElem? hq)
 have cH:o<cs.size:=by have:=(List.getElem?_eq_some_iff.1 bc).1;simpa using this
 obtain⟨v,ae,aA⟩:=yz (α:=hy) (x:=⟨u⟩) (A:=aT L++c.cc) eO.ex fC (show o+1≤cs.size by omega) ⟨acv bc,hu⟩
 refine⟨v,?_,(UZ.1 aA).1⟩
 have aV:a.eval x=_:=ar a W s
 simp [execOp,Instr.loadAt,Instr.sureAddr,aV,ae]
theorem ab.xa {t:TypeId}{rest:List Oper}{i p o:Nat}{β γ:Type}[aj β][aj γ]{b b':β}{v:γ}{os:List (Nat×Value)}(l:aJ β γ)(eO:bx c.P t γ)(ar:bn c E L x (.eq (.pointer (some ⟨p,o,none⟩))))
 (a1:bn c E L y (.of v)) (al:L[i]? =some ⟨some p,.cE b os⟩) (bp:o=l.off) (hb:l.set b v=b') (a7:vc os l.off (aj.size γ)=true)
 (k:ab c ops Q rest E (L.set i ⟨some p,.cE b' os⟩)):ab c ops Q (⟨none,.store t x y,ty,pos,af,none⟩::rest) E L:=fun a W s=>by
 subst bp
 subst hb
 obtain⟨qC,fC,cs,T,rfl,ht⟩:=s.own _ (List.mem_of_getElem? al)
 have h1:cs.toList.length=aj.size β:=ht.len
 have gu:=l.hv
 have bm:=a1 a W s
 have ae:=HQ (A:=aT L++c.cc) eO fC (off:=l.off) (by simp at h1;omega) bm
 have aV:a.eval x=_:=ar a W s
 refine jl rfl (R:=fun v W'=>W'=W.setRow p (hr cs.toList l.off (a.eval y).cells.toList).toArray) (.BC ?_ rfl) fun v W' hw=>?_
 ·simp [execOp,Instr.storeAt,Instr.sureAddr,aV,ae]
 subst hw
 exact k _ _ (s.store al fC ⟨_,T,rfl,by rw [List.toList_toArray];exact RY l ht bm.2 a7⟩)
theorem ab.jK {t:TypeId}{rest:List Oper}{i p o:Nat}{β γ:Type}[aj β][aj γ]{b b':β}{u:Value}{os os':List (Nat×Value)}(l:aJ β (List γ))(eO:bx c.P t (List γ))(ar:bn c E L x (.eq (.pointer (some ⟨p,o,none⟩))))
 (a1:bn c E L y (.eq u)) (hu:u.oneCell'=true) (al:L[i]? =some ⟨some p,.cE b os⟩) (bp:o=l.off) (hb:l.set b []=b') (re:w5 os o u=os')
 (k:ab c ops Q rest E (L.set i ⟨some p,.cE b' os'⟩)):ab c ops Q (⟨none,.store t x y,ty,pos,af,none⟩::rest) E L:=fun a W s=>by
 subst bp
 subst hb
 subst re
 obtain⟨qC,fC,cs,T,rfl,ht⟩:=s.own _ (List.mem_of_getElem? al)
 have h1:cs.toList.length=aj.size β:=ht.len
 have gu:l.off+1≤aj.size β:=l.hv
 have Wq:a.eval y=u:=a1 a W s
 have bm:(I.of (⟨u⟩:hy)).holds (aT L++c.cc) W (a.eval y):=UZ.2 ⟨Wq,hu⟩
 have ae:=HQ (A:=aT L++c.cc) eO.ex fC (off:=l.off) (show l.off+1≤cs.size by simp at h1;omega) bm
 have aV:a.eval x=_:=ar a W s
 have ny:(a.eval y).cells.toList= [u]:=by rw [Wq,cells_one hu]
 rw [ny] at ae
 refine jl rfl (R:=fun v W'=>W'=W.setRow p (hr cs.toList l.off [u]).toArray) (.BC ?_ rfl) fun v W' hw=>?_
 ·simp [execOp,Instr.storeAt,Instr.sureAddr,aV,ae]
 subst hw
 exact k _ _ (s.store al fC ⟨_,T,rfl,by rw [List.toList_toArray];exact RB l ht hu⟩)
theorem YS {P:Program}{W:World}{b off:Nat}{cur:Array Value}{T t:TypeId}{α:Type}[aj α]{v:Value}(ty:bx P t α)
 (hb:W.heap[b]? =some (.cells cur T (0,0))) (hs:off+aj.size α≤cur.size) (ao:v.cells.toList.length=aj.size α) (h1:∀ u∈v.cells.toList,u.oneCell'=true):
 (storeVar t ⟨b,off,none⟩ v).run P W= .ok () (W.setRow b (hr cur.toList off v.cells.toList).toArray):=by
 have ae:=run_storeCells_at P b off T v.cells.toList 0 cur W hb (by rw [ao];omega) h1
 have ed:v.cells.size=aj.size α:=by simpa using ao
 simp only [Nat.add_zero] at ae
 simp only [storeVar,Sem.run_bind,ty.sizeOf,Result.andThen_ok,ed]
 simp only [ne_eq,not_true_eq_false,↓reduceIte,Sem.run_pure,Sem.run_bind,Result.andThen_ok]
 simpa [hr] using ae
theorem ab.u0 {t:TypeId}{rest:List Oper}{i p:Nat}{β:Type}[aj β]{b b':β}{os os':List (Nat×Value)}(eO:bx c.P t β)(ar:bn c E L x (.eq (.pointer (some ⟨p,0,none⟩))))
 (a1:bn c E L y (.OO b' os')) (al:L[i]? =some ⟨some p,.cE b os⟩)
 (k:ab c ops Q rest E (L.set i ⟨some p,.cE b' os'⟩)):ab c ops Q (⟨none,.store t x y,ty,pos,af,none⟩::rest) E L:=fun a W s=>by
 obtain⟨qC,fC,cs,T,rfl,ht⟩:=s.own _ (List.mem_of_getElem? al)
 have h1:cs.toList.length=aj.size β:=ht.len
 obtain⟨g1,g2⟩:=a1 a W s
 have ao:=g2.len
 have ae:=YS eO fC (off:=0) (by simp at h1;omega) ao g2.one
 have aV:a.eval x=_:=ar a W s
 have e:hr cs.toList 0 (a.eval y).cells.toList=(a.eval y).cells.toList:=by
  unfold hr;rw [List.take_zero,List.nil_append,Nat.zero_add,ao,← h1,List.drop_length,List.append_nil]
 rw [e] at ae
 refine jl rfl (R:=fun v W'=>W'=W.setRow p (a.eval y).cells.toList.toArray) (.BC ?_ rfl) fun v W' hw=>?_
 ·simp [execOp,Instr.storeAt,Instr.sureAddr,aV,ae]
 subst hw
 exact k _ _ (s.store al fC ⟨_,T,rfl,by rw [List.toList_toArray];exact g2⟩)
theorem b1 {p:Addr}(ar:bn c E L x (.eq (.pointer (some p)))):b6 c E L ⟨d,.nilCheck x,ty,pos,af,g⟩ (.eq (.pointer (some p))):= .pure fun a W s=>by
 have aV:a.eval x=_:=ar a W s;exact⟨_,by simp [execOp,aV],rfl⟩
theorem BG {γ:Type}[aj γ]{r:γ}(ar:bn c E L x (.ptr r)):b6 c E L ⟨d,.nilCheck x,ty,pos,af,g⟩ (.ptr r):= .pure fun a W s=>by
 have hp:=ar a W s;obtain⟨b,off,cur,T,iS,aV,bc⟩:=hp;exact⟨_,by simp [execOp,aV],b,off,cur,T,iS,rfl,bc⟩
theorem bN.mQ {a:Act}{W:World}(s:bN c E L a W){i j p cap T:Nat}{key:Option Nat}{β γ:Type}[aj β][aj γ]{b b':β}{xs:List γ}{os os':List (Nat×Value)}(l:aJ β (List γ))(gr:i≠j)(al:L[i]? =some ⟨some p,.cE b os⟩)(sx:L[j]? =some ⟨key,.row T xs cap⟩)
 (q:Nat) (hq:os[q]? =some (l.off,aS key xs.length cap)) (hb:l.set b xs=b') (re:tJ os l.off=os'):bN c E ((L.set j ⟨none,.dead⟩).set i ⟨some p,.cE b' os'⟩) a W:=by
 subst hb
 subst re
 have hk:=s.kill j
 have au:(L.set j ⟨none,.dead⟩)[i]? =some ⟨some p,.cE b os⟩:=by rw [List.getElem?_set_ne (fun e=>gr e.symm)];exact al
 have nZ:=A5 (L:=L) (i:=j) (cp:= .dead)
 have sl:qF (aT (L.set j ⟨none,.dead⟩)++c.cc) W (aS key xs.length cap) xs:=by
  have bp:=s.own _ (List.mem_of_getElem? sx);cases key with
  | none=>exact .inl ⟨rfl,bp.1⟩
  | some p=>
    obtain⟨o,fC,cs,rfl,ed,aQ,zH,aI⟩:=bp
    obtain⟨aA,aV⟩:=Ly ed aQ aI
    refine .inr ⟨p,0,cap,cs,T,(0,0),rfl,s.Et sx,fC,aQ,by omega,aA,?_⟩
    exact aV.mono (.drop fun k hm=>by
     rcases List.mem_append.1 hm with hm | hm
     ·exact List.mem_append.2 (.inl (nZ.subset hm))
     exact List.mem_append.2 (.inr hm))
 exact hk.ES au (fun o ⟨cs,T,h1,ae⟩=>⟨cs,T,h1,RC l ae (List.mem_of_getElem? hq) sl⟩) id
theorem ab.mQ {GR:List Oper}{p cap T:Nat}{key:Option Nat}{β γ:Type}[aj β][aj γ]{b b':β}{xs:List γ}{os os':List (Nat×Value)}(l:aJ β (List γ))(i j q:Nat)(gr:Nat.beq i j=false)(al:L[i]? =some ⟨some p,.cE b os⟩)(sx:L[j]? =some ⟨key,.row T xs cap⟩)
 (hq:os[q]? =some (l.off,aS key xs.length cap)) (hb:l.set b xs=b') (re:tJ os l.off=os') (k:ab c ops Q GR E ((L.set j ⟨none,.dead⟩).set i ⟨some p,.cE b' os'⟩)):ab c ops Q GR E L:=
 fun a W s=>k a W (s.mQ l (fun e=>by rw [e,Nat.beq_refl] at gr;cases gr) al sx q hq hb re)
theorem bN.Jl {a:Act}{W:World}(s:bN c E L a W){i j p cap T gH:Nat}{key:Option Nat}{β γ:Type}[aj β][aj γ]{b b':β}{xs:List γ}{os os':List (Nat×Value)}(l:aJ β (List γ))(gr:i≠j)(al:L[i]? =some ⟨some p,.cE b os⟩)(sx:L[j]? =some ⟨key,.row T xs cap⟩)
 (q:Nat) (hq:os[q]? =some (l.off,aS key xs.length cap)) (hb:l.set b xs=b') (re:tJ os l.off=os') (sl:look E gH=some (.eq (aS key xs.length cap))):bN c ((gH,.of xs)::E) ((L.set j ⟨none,.dead⟩).set i ⟨some p,.cE b' os'⟩) a W:=by
 have h1:=s.freeze sl sx
 subst hb
 subst re
 have au:(L.set j ⟨none,.dead⟩)[i]? =some ⟨some p,.cE b os⟩:=by rw [List.getElem?_set_ne (fun e=>gr e.symm)];exact al
 obtain⟨v,ae,aA⟩:=h1.env gH (.of xs) (by simp [look,Nat.beq_refl])
 obtain⟨GS,aV,bc⟩:=s.env gH _ sl
 rw [ae] at aV
 cases aV
 have bc:v=_:=bc
 subst bc
 exact h1.ES au (fun o ⟨cs,T,g1,g2⟩=>⟨cs,T,g1,RC l g2 (List.mem_of_getElem? hq) (pj.1 aA)⟩) id
theorem ad.Jl {z:Exit}{p cap T:Nat}{key:Option Nat}{β γ:Type}[aj β][aj γ]{b b':β}{xs:List γ}{os os':List (Nat×Value)}(l:aJ β (List γ))(i j q gH:Nat)(gr:Nat.beq i j=false)(al:L[i]? =some ⟨some p,.cE b os⟩)(sx:L[j]? =some ⟨key,.row T xs cap⟩)
 (hq:os[q]? =some (l.off,aS key xs.length cap)) (hb:l.set b xs=b') (re:tJ os l.off=os') (sl:look E gH=some (.eq (aS key xs.length cap))) (k:ad c Q z ((gH,.of xs)::E) ((L.set j ⟨none,.dead⟩).set i ⟨some p,.cE b' os'⟩)):ad c Q z E L:=
 fun a W s=>k a W (s.Jl l (fun e=>by rw [e,Nat.beq_refl] at gr;cases gr) al sx q hq hb re sl)
inductive xf (c:dy)(E:List (Nat×I))(L:List aR)(place:Nat→Option (Nat×Nat)){β:Type}[aj β]:β→List (Nat×Value)→List (Nat×Operand)→β→List (Nat×Value)→Prop
 | nil {b os} :xf c E L place b os [] b os
 | cons {b ew b':β} {os os':List (Nat×Value)} {γ:Type} [aj γ] {v:γ} {i:Nat} {x:Operand} {r:List (Nat×Operand)} (l:aJ β γ):place i=some (l.off,aj.size γ)→bn c E L x (.of v)→l.set b v=ew→vc os l.off (aj.size γ)=true→xf c E L place ew os r b' os'→xf c E L place b os ((i,x)::r) b' os'
 | hole {b ew b':β} {os OP os':List (Nat×Value)} {γ:Type} [aj γ] {u:Value} {i:Nat} {x:Operand} {r:List (Nat×Operand)} (l:aJ β (List γ)):place i=some (l.off,1)→bn c E L x (.eq u)→u.oneCell'=true→l.set b []=ew→w5 os l.off u=OP→xf c E L place ew OP r b' os'→xf c E L place b os ((i,x)::r) b' os'
theorem xf.run {place:Nat→Option (Nat×Nat)}{β:Type}[aj β]{b b':β}{os os':List (Nat×Value)}{fi:List (Nat×Operand)}(h:xf c E L place b os fi b' os'):∀ a W,bN c E L a W→ ∀ cs:Array Value,nr (aT L++c.cc) W cs.toList b os→
 ∃ fh,Instr.fill place cs (fi.map fun(i,x)=>(i,a.eval x))=some fh∧nr (aT L++c.cc) W fh.toList b' os':=by
 induction h with
 | nil=>intro a W s cs aI;exact⟨cs,rfl,aI⟩
 | @cons b ew b' os os' γ _ v i x r l h1 ae aA aV _ cA=>
   intro a W s cs aI
   subst aA
   have bm:=ae a W s
   have ed:(a.eval x).cells.size=aj.size γ:=by have:=aj.len bm.2;simpa using this
   have ao:cs.toList.length=aj.size β:=aI.len
   have gu:=l.hv
   rw [List.map_cons,Io h1 ed (by simp at ao;omega)]
   refine cA a W s _ ?_
   have:=RY l aI bm.2 aV
   simpa [hr,aj.len bm.2] using this
 | @hole b ew b' os OP os' γ _ u i x r l h1 ae aA aV bc _ cA=>
   intro a W s cs aI
   subst aV
   subst bc
   have bm:a.eval x=u:=ae a W s
   have ai:(a.eval x).cells.toList= [u]:=by rw [bm,cells_one aA]
   have ed:(a.eval x).cells.size=1:=by have:=congrArg List.length ai;simpa using this
   have ao:cs.toList.length=aj.size β:=aI.len
   have gu:l.off+1≤aj.size β:=l.hv
   rw [List.map_cons,Io h1 ed (by simp at ao;omega)]
   refine cA a W s _ ?_
   have:=RB l aI aA
   simpa [hr,ai] using this
theorem sJ {β:Type}[aj β]{z b:β}{fi:List (Nat×Operand)}{pl:Array (Nat×Nat)}{os:List (Nat×Value)}(th:List Nat)(wu:kh c.P t th)(a7:aj.agg β=true)(GN:hn c.P t pl)(h9:cI c.P t z)
 (aY:xf c E L (pl[·]?) z (th.map fun o=>(o,mf)) fi b os):b6 c E L ⟨d,.build t fi.toArray,ty,pos,af,g⟩ (.OO b os):= .pure fun a W s=>by
 obtain⟨fs,hu,hs,rfl⟩:=GN.at_
 obtain⟨i,e4,h1,ae,aA⟩:=h9.zero
 have cB:∀ o∈th,e4.cells.toList[o]? =some mf:=fun o bp=>by
  unfold kh at wu;rw [h1] at wu;simp only [Option.bind_some,ae,Option.any_some] at wu;exact Re (List.all_eq_true.1 wu o bp)
 obtain⟨fh,aV,bc⟩:=aY.run a W s e4.cells ⟨by
  rw [LF fun h hm=>by obtain⟨o,bp,rfl⟩:=List.mem_map.1 hm;exact cB o bp];exact(aA _ _).2,fun h hm=>by obtain⟨o,bp,rfl⟩:=List.mem_map.1 hm;exact⟨cB o bp,rfl⟩⟩
 refine⟨.agg fh,?_,by simp [shaped,a7],by simpa [Value.cells] using bc⟩
 have hm:(fi.toArray.map fun(x:Nat×Operand)=>(x.1,a.eval x.2)).toList=fi.map fun(i,x)=>(i,a.eval x):=by simp
 simp only [execOp,Instr.build,Sem.run_bind,zeroValue,typeInfo,run_program,Result.andThen_ok,h1,ae,Sem.run_pure,run_underlying hu,QJ fs hs]
 rw [hm,aV]
 rfl
def zJ {α:Type}[Inhabited α](bytes:Nat)(n:Int):Option (List α):=if 0≤n∧n≤140737488355328∧bytes * n≤140737488355328 then some (List.replicate n.toNat default) else none
theorem abx {α:Type}[Inhabited α]{bytes:Nat}{n:Int}{r:List α}(h:zJ bytes n=some r):0≤n∧n≤140737488355328∧bytes * n≤140737488355328∧List.replicate n.toNat default=r:=by
 unfold zJ at h;split at h
 ·rename_i ai;exact⟨ai.1,ai.2.1,ai.2.2,di h⟩
 cases h
theorem ab.V6 {α:Type}[aj α][Inhabited α]{rest:List Oper}{bg e bytes:Nat}{r:List α}{n:Int}(hu:c.P.underlying t=some (.slice e))(fl:bx c.P e α)(h9:cI c.P e (default:α))(hs:Nat.beq (aj.size α) 0=false)(hb:(c.P.info? e).map (·.bytes)=some bytes)
 (ar:bn c E L x (.of n)) (a1:bn c E L y (.of n)) (hm:zJ bytes n=some r) (iT:Nat.blt bg c.n=true) (k:∀ p,ab c ops Q rest ((bg,.eq (aS p r.length r.length))::E) (⟨p,.row e r r.length⟩::L)):
 ab c ops Q (⟨some bg,.makeSlice t x y,ty,pos,af,none⟩::rest) E L:=fun a W s=>by
 obtain⟨bH,aQ,ak0,rfl⟩:=abx hm
 obtain⟨m,rfl⟩:=Int.eq_ofNat_of_zero_le bH
 obtain⟨hg,e4,eL,cJ,ur⟩:=h9.zero
 have pB:hg.size=aj.size α:=by
  obtain⟨i2,h1,ae⟩:=fl.info;rw [eL] at h1;cases h1;exact ae
 have zL:hg.bytes=bytes:=by rw [eL] at hb;simpa using hb
 have j2:aj.size α≠0:=fun h=>by rw [h] at hs;cases hs
 have tk:=En (ur (aT L++c.cc) W) m j2
 have h1:=of_int.1 (ar a W s)
 have ae:=of_int.1 (a1 a W s)
 have hw:IntKind.i64.wrap (m:Int)=m:=by have:bC (m:Int)=m:=ib (by omega) (by omega);exact this
 have hp:(2:Int) ^ 48=281474976710656:=by decide
 simp only [Int.toNat_natCast,List.length_replicate] at k
 generalize mZ:(Array.range (m * aj.size α)).map (e4.cells[· % e4.cells.size]!)=D at tk
 refine jl rfl (R:=fun v W'=>v= .slice (some ⟨W.heap.size,0,none⟩) m m∧W'=W.alloc (.cells D e)) (.mL (v:= .slice (some ⟨W.heap.size,0,none⟩) m m) (W':=W.alloc (.cells D e)) ?_ ⟨rfl,rfl⟩) fun v W' ⟨aA,aV⟩=>?_
 ·have cZ:((decide ((m:Int)<0)||decide ((hg.bytes:Int) * m>2 ^ 48))||decide ((m:Int)<0)||decide ((m:Int)>m))=false:=by
   rw [zL,hp];simp;omega
  have J8:((Array.range (m * hg.size)).map fun i=>(if m * hg.size=0 then(#[]:Array Value) else e4.cells)[i % (if m * hg.size=0 then(#[]:Array Value) else e4.cells).size]!)=D:=by
   rw [← mZ,pB];by_cases iB:m * aj.size α=0
   ·rw [iB];simp
   simp only [if_neg iB]
  have a7:(asInt (.int .i64 (m:Int)):Sem Int).run c.P W= .ok (m:Int) W:=by simp [asInt,asIntOf]
  simp only [execOp,Instr.makeSlice,Sem.run_bind,run_underlying hu,Result.andThen_ok,h1,ae,a7,Sem.run_pure,typeInfo,run_program,eL,hw,cZ,Bool.false_eq_true,if_false,run_askRoom,Go.sizeOf,Int.toNat_natCast]
  by_cases iB:m * hg.size=0
  ·simp only [iB,if_true,Sem.run_pure,Result.andThen_ok,Sem.run_bind,newRow] at J8 ⊢
   rw [J8]
   simp
  simp only [iB,if_false,Sem.run_pure,Result.andThen_ok,Sem.run_bind,newRow,zeroValue,typeInfo,run_program,eL,cJ] at J8 ⊢
  rw [J8]
  simp
 subst aA aV
 have xC:m≤maxLen:=by
  have:maxLen=9223372036854775807:=rfl;omega
 have ed:D.size=m * aj.size α:=by have:=tk.1;simpa using this
 have cD:=s.alloc (o:= .cells D e) (cp:= .row e (List.replicate m (default:α)) m) ⟨D,rfl,ed,by simp,xC,by
  have bs:=tk.1;rw [List.length_replicate] at bs ⊢;rw [← bs,List.take_length];exact tk⟩
 exact k (some W.heap.size) _ _ (cD.put (τ:= .eq (aS (some W.heap.size) m m)) (by simpa using iT) rfl)
theorem ad.j8 {fn:Func}{δ:Type}{ρ:δ→I}{Lo:δ→List aR}(bg:δ)(hs:(Lo bg).Sublist L)(aI:fn.results= #[])(tl:ρ bg= .c4 [])(gv:c.ds= []:=by rfl):ad c (bodyPost c.P fn (ma c.X c.cc c.kA ρ Lo)) .ret E L:=fun a W s=>
 ⟨s.yL gv,.tuple #[],by simp [yG,aI],s.ends bg hs (by rw [tl];exact⟨_,rfl,.nil⟩)⟩
end
end Gv
