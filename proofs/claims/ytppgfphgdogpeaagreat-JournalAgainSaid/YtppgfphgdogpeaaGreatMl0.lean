/-
  The library of the decompiler, as far as it is needed here. Conditions: none.
-/
import Derived.WalkKit
import Derived.StillTail
import Derived.OwnWalkIn
import Derived.RangeFuncNested
import Derived.RangeFuncLeaves
import Derived.RangeFuncCalls
import Derived.ChangeSame
import Derived.OpenShut
import Derived.Carry
import Derived.DataReads
set_option linter.unusedVariables false
set_option linter.unusedSimpArgs false
namespace Gv
open Go
theorem M0 (w:World)(o:Obj)(i:Nat)(h:i<w.heap.size):(w.alloc o).heap[i]? =w.heap[i]? :=by
 show(w.heap.push o)[i]? =w.heap[i]?;rw [Array.getElem?_push,if_neg (Nat.ne_of_lt h)]
theorem Uh (w:World)(o:Obj):(w.alloc o).heap[w.heap.size]? =some o:=by
 show(w.heap.push o)[w.heap.size]? =some o;simp
structure Fr (X:List Nat)(W W':World):Prop where
 os:W'.os=W.os
 tape:W'.tape=W.tape
 output:W'.output=W.output
 drawn:W.drawn≤W'.drawn
 size:W.heap.size≤W'.heap.size
 block:∀ k,k<W.heap.size→k ∉ X→W'.heap[k]? =W.heap[k]?
theorem Fr.refl (X:List Nat)(W:World):Fr X W W:=⟨rfl,rfl,rfl,Nat.le_refl _,Nat.le_refl _,fun _ _ _=>rfl⟩
theorem Fr.trans {X:List Nat}{A B C:World}(h:Fr X A B)(k:Fr X B C):Fr X A C:=
 ⟨k.os.trans h.os,k.tape.trans h.tape,k.output.trans h.output,Nat.le_trans h.drawn k.drawn,Nat.le_trans h.size k.size,
   fun i ao al=>(k.block i (Nat.lt_of_lt_of_le ao h.size) al).trans (h.block i ao al)⟩
theorem Fr.weaken {X Y:List Nat}{A B:World}(h:Fr X A B)(s:∀ k∈X,k∈Y):Fr Y A B:=
 ⟨h.os,h.tape,h.output,h.drawn,h.size,fun i ao al=>h.block i ao fun hm=>al (s _ hm)⟩
theorem Fr.nil {X:List Nat}{A B:World}(h:Fr [] A B):Fr X A B:=h.weaken (by simp)
theorem Fr.alloc {X:List Nat}(W:World)(o:Obj):Fr X W (W.alloc o):=
 ⟨rfl,rfl,rfl,Nat.le_refl _,by simp,fun k hk _=>M0 W o k hk⟩
theorem Fr.drew {X:List Nat}(W:World):Fr X W W.drew:=⟨rfl,rfl,rfl,Nat.le_succ _,Nat.le_refl _,fun _ _ _=>rfl⟩
theorem Fr.setRow {X:List Nat}(W:World)(g:Nat)(cs:Array Value)(h:g∈X):Fr X W (W.setRow g cs):=
 ⟨rfl,rfl,rfl,Nat.le_refl _,by simp,fun k _ al=>setRow_other W g k cs (fun e=>al (e ▸ h))⟩
structure Ext (A:List Nat)(W:World)(cM:List Nat)(W':World):Prop where
 size:W.heap.size≤W'.heap.size
 block:∀ k,k<W.heap.size→k ∉ A→W'.heap[k]? =W.heap[k]?
 new:∀ k∈cM,k<W.heap.size→k∈A
theorem Ext.refl (A:List Nat)(W:World):Ext A W A W:=⟨Nat.le_refl _,fun _ _ _=>rfl,fun _ h _=>h⟩
theorem Ext.trans {A B C:List Nat}{U V W:World}(h:Ext A U B V)(k:Ext B V C W):Ext A U C W:=
 ⟨Nat.le_trans h.size k.size,
  fun i ao aW=>(k.block i (Nat.lt_of_lt_of_le ao h.size) (fun hb=>aW (h.new i hb ao))).trans (h.block i ao aW),
  fun i ad ao=>h.new i (k.new i ad (Nat.lt_of_lt_of_le ao h.size)) ao⟩
theorem Ext.VN {A X:List Nat}{W W':World}(h:Fr X W W')(s:∀ k∈X,k∈A):Ext A W A W':=
 ⟨h.size,fun k hk aW=>h.block k hk fun al=>aW (s k al),fun _ h _=>h⟩
theorem Ext.dO {A:List Nat}{W W':World}(h:Fr [] W W'):Ext A W A W':= .VN h (by simp)
theorem Ext.drop {A cM:List Nat}{W:World}(s:∀ k∈cM,k∈A):Ext A W cM W:=⟨Nat.le_refl _,fun _ _ _=>rfl,fun k h _=>s k h⟩
structure I where
 holds:List Nat→World→Value→Prop
 mono:∀ {A W cM W' v},Ext A W cM W'→holds A W v→holds cM W' v
class ah (α:Type) where
 size:Nat
 agg:Bool
 rep:List Nat→World→List Value→α→Prop
 len:∀ {A W cs x},rep A W cs x→cs.length=size
 one:∀ {A W cs x},rep A W cs x→ ∀ v∈cs,v.oneCell'=true
 flat:agg=false→size=1
 mono:∀ {A W cM W' cs x},Ext A W cM W'→rep A W cs x→rep cM W' cs x
def shaped (b:Bool)(v:Value):Prop:=if b=true then ∃ cs,v= .agg cs else v.oneCell'=true
theorem cells_one {v:Value}(h:v.oneCell'=true):v.cells= #[v]:=by cases v <;> first | rfl | simp [Value.oneCell'] at h
def I.of {α:Type}[ah α](x:α):I where
 holds A W v:=shaped (ah.agg α) v∧ah.rep A W v.cells.toList x
 mono e h:=⟨h.1,ah.mono e h.2⟩
def I.eq (u:Value):I where
 holds _ _ v:=v=u
 mono _ h:=h
def I.cond (c:Prop)(τ:I):I where
 holds A W v:=(c→τ.holds A W v)∧ (¬ c→v=undef)
 mono e h:=⟨fun ad=>τ.mono e (h.1 ad),h.2⟩
def I.any:I where
 holds _ _ _:=True
 mono _ h:=h
inductive ho (A:List Nat)(W:World):List I→List Value→Prop
 | nil:ho A W [] []
 | cons {τ v τs vs} :τ.holds A W v→ho A W τs vs→ho A W (τ::τs) (v::vs)
theorem ho.mono {A W cM W'}(e:Ext A W cM W'):∀ {τs vs},ho A W τs vs→ho cM W' τs vs
 | _,_,.nil=>.nil
 | _,_,.cons h r=>.cons (I.mono _ e h) (r.mono e)
theorem ho.length {A W} :∀ {τs vs},ho A W τs vs→vs.length=τs.length
 | _,_,.nil=>rfl
 | _,_,.cons _ r=>by simp [r.length]
def I.bP (τs:List I):I where
 holds A W v:= ∃ vs:Array Value,v= .tuple vs∧ho A W τs vs.toList
 mono e h:=let⟨vs,bb,bQ⟩:=h; ⟨vs,bb,bQ.mono e⟩
def I.ptr {α:Type}[ah α](x:α):I where
 holds A W v:= ∃ b off cur T hU,v= .pointer (some ⟨b,off,none⟩)∧b ∉ A∧W.heap[b]? =some (.cells cur T hU)∧off+ah.size α≤cur.size∧ah.rep A W ((cur.toList.drop off).take (ah.size α)) x
 mono e h:=by
  obtain⟨b,off,cur,T,hU,rfl,hb,bQ,hs,aA⟩:=h;have cj:b<_:=(Array.getElem?_eq_some_iff.1 bQ).1;exact⟨b,off,cur,T,hU,rfl,fun hm=>hb (e.new b hm cj),by rw [e.block b cj hb];exact bQ,hs,ah.mono e aA⟩
structure eG where
 holds:List Nat→World→Obj→Prop
 oM:Prop
 mono:∀ {A W cM W' o},Ext A W cM W'→holds A W o→holds cM W' o
def eG.var {α:Type}[ah α](x:α):eG where
 holds A W o:= ∃ cs T,o= .cells cs T (0,0)∧ah.rep A W cs.toList x
 oM:=False
 mono e h:=let⟨cs,T,bg,aA⟩:=h; ⟨cs,T,bg,ah.mono e aA⟩
def hx {α:Type}[ah α](A:List Nat)(W:World)(cs:List Value)(xs:List α):Prop:=
 cs.length=xs.length * ah.size α∧ ∀ i (h:i<xs.length),ah.rep A W ((cs.drop (i * ah.size α)).take (ah.size α)) xs[i]
theorem hx.mono {α:Type}[ah α]{A W cM W'}{cs:List Value}{xs:List α}(e:Ext A W cM W')(h:hx A W cs xs):hx cM W' cs xs:=
 ⟨h.1,fun i ao=>ah.mono e (h.2 i ao)⟩
def eG.row {α:Type}[ah α](T:TypeId)(xs:List α)(cap:Nat):eG where
 holds A W o:= ∃ cs,o= .cells cs T (0,0)∧cs.size=cap * ah.size α∧xs.length≤cap∧cap≤maxLen∧hx A W (cs.toList.take (xs.length * ah.size α)) xs
 oM:=xs= []∧cap=0
 mono e h:=let⟨cs,h1,ab,ax,aO,a7⟩:=h; ⟨cs,h1,ab,ax,aO,a7.mono e⟩
def eG.dead:eG where
 holds _ _ _:=True
 oM:=True
 mono _ h:=h
structure aF where
 key:Option Nat
 cp:eG
def aF.ok (A:List Nat)(W:World)(e:aF):Prop:=
 match e.key with
 | some p=> ∃ o,W.heap[p]? =some o∧e.cp.holds A W o
 | none=>e.cp.oM
def aP:List aF→List Nat
 | []=>[]
 | e::r=>match e.key with
   | some p=>p::aP r
   | none=>aP r
theorem rH {L:List aF}{k:Nat} :k∈aP L↔ ∃ e∈L,e.key=some k:=by
 induction L with
 | nil=>simp [aP]
 | cons e r b2=>
   cases hk:e.key with
   | none=>simp [aP,hk,b2]
   | some p=>simp [aP,hk,b2,eq_comm]
structure cF where
 P:Program
 n:Nat
 jY:World
 X:List Nat
 bZ:List Nat
 rd:Option Nat
 ds:List Nat
def JE (D:Nat):Deferred:= { target:= .collected D,args:= #[] }
abbrev cF.F (c:cF):Fence:= { fn:=fun _=>True,depth:=none,alive:=false,round:=c.rd }
abbrev cF.wp (c:cF)(y:Code)(Q:Exit→Act→World→Prop):Act→World→Prop:=y.wpIn c.F 9 c.P Q
abbrev cF.s3 (c:cF)(ops:Array Oper)(Q:Exit→Act→World→Prop):List Oper→Act→World→Prop:=wpListIn c.F 9 c.P ops Q
def look:List (Nat×I)→Nat→Option I
 | [],_=>none
 | (s,τ)::r,t=>bif Nat.beq s t then some τ else look r t
structure bI (c:cF)(E:List (Nat×I))(L:List aF)(a:Act)(W:World):Prop where
 defers:a.defers=c.ds.map JE
 size:a.tmps.size=c.n
 env:∀ t τ,look E t=some τ→ ∃ v,a.tmps[t]? =some v∧τ.holds (aP L++c.bZ) W v
 dO:Fr c.X c.jY W
 own:∀ e∈L,e.ok (aP L++c.bZ) W
 nodup:(aP L).Nodup
 lt:∀ k∈aP L,k<W.heap.size
 gL:∀ k∈aP L,k<c.jY.heap.size→k∈c.X
 e6:∀ k∈c.bZ,k<W.heap.size∧k ∉ aP L
theorem eS {s t:Nat} :Nat.beq s t=true↔s=t:=by
 constructor
 ·exact Nat.eq_of_beq_eq_true
 rintro rfl;exact Nat.beq_refl s
theorem bI.IS {c E L a W}(h:bI c E L a W):∀ k∈aP L++c.bZ,k<W.heap.size:=by
 intro k hk;rcases List.mem_append.1 hk with hk | hk
 ·exact h.lt k hk
 exact(h.e6 k hk).1
theorem bI.world {c E L a W W'}(h:bI c E L a W)(f:Fr [] W W'):bI c E L a W' where
 defers:=h.defers
 size:=h.size
 env t τ ak:=let⟨v,h1,ab⟩:=h.env t τ ak; ⟨v,h1,τ.mono (.dO f) ab⟩
 dO:=h.dO.trans f.nil
 own e he:=by
  have h1:=h.own e he;unfold aF.ok at *;split at h1
  ·rename_i p hp;obtain⟨o,bg,bQ⟩:=h1;have cj:=h.lt p (rH.2 ⟨e,he,hp⟩);exact⟨o,by rw [f.block p cj (by simp)];exact bg,eG.mono _ (.dO f) bQ⟩
  exact h1
 nodup:=h.nodup
 lt k hk:=Nat.lt_of_lt_of_le (h.lt k hk) f.size
 gL:=h.gL
 e6 k hk:=⟨Nat.lt_of_lt_of_le (h.e6 k hk).1 f.size,(h.e6 k hk).2⟩
theorem bI.put {c E L a W}(h:bI c E L a W){d:Nat}(hd:d<c.n){v:Value}{τ:I}(bb:τ.holds (aP L++c.bZ) W v):
 bI c ((d,τ)::E) L (a.put (some d) v) W where
 defers:=h.defers
 size:=by simp [Act.put,h.size]
 env t vI ak:=by
  simp only [look] at ak;simp only [Act.put];by_cases e:Nat.beq d t=true
  ·rw [e] at ak;simp only [cond_true,Option.some.injEq] at ak;subst ak;have:=eS.1 e;subst this;exact⟨v,by simp [h.size,hd],bb⟩
  simp only [Bool.not_eq_true] at e;rw [e] at ak;simp only [cond_false] at ak;obtain⟨u,h1,ab⟩:=h.env t vI ak;have de:d≠t:=fun h=>by rw [eS.2 h] at e;cases e
  exact⟨u,by rw [Array.getElem?_setIfInBounds_ne de];exact h1,ab⟩
 dO:=h.dO
 own:=h.own
 nodup:=h.nodup
 lt:=h.lt
 gL:=h.gL
 e6:=h.e6
theorem bI.yG {c E L a W}(s:bI c E L a W)(h:c.ds= []):a.defers= []:=by rw [s.defers,h];rfl
theorem bI.less {c E E' L a W}(h:bI c E L a W)(aE:∀ t τ,look E' t=some τ→ ∃ σ,look E t=some σ∧ ∀ A W v,σ.holds A W v→τ.holds A W v):bI c E' L a W:=
 {h with env:=fun t τ ak=>let⟨_,h1,ab⟩:=aE t τ ak;let⟨v,ax,aO⟩:=h.env t _ h1; ⟨v,ax,ab _ _ _ aO⟩ }
theorem bI.alloc {c E L a W}(h:bI c E L a W){o:Obj}{cp:eG}(ad:cp.holds (aP L++c.bZ) W o):
 bI c E (⟨some W.heap.size,cp⟩::L) a (W.alloc o):=by
 have r2:W.heap.size ∉ aP L:=fun hm=>Nat.lt_irrefl _ (h.lt _ hm)
 have iz:Ext (aP L++c.bZ) W (aP (⟨some W.heap.size,cp⟩::L)++c.bZ) (W.alloc o):=
  ⟨by simp,fun k hk _=>M0 W o k hk,fun k hk cj=>by
   simp only [aP,List.cons_append,List.mem_cons] at hk;rcases hk with rfl | hk
   ·exact absurd cj (Nat.lt_irrefl _)
   exact hk⟩
 exact
 {defers:=h.defers
  size:=h.size
  env:=fun t τ ak=>let⟨v,h1,ab⟩:=h.env t τ ak; ⟨v,h1,τ.mono iz ab⟩
  dO:=h.dO.trans (Fr.alloc W o)
  own:=fun e he=>by
   rcases List.mem_cons.1 he with rfl | he
   ·exact⟨o,Uh W o,cp.mono iz ad⟩
   have h1:=h.own e he;unfold aF.ok at *;split at h1
   ·rename_i p hp;obtain⟨o',bg,bQ⟩:=h1;exact⟨o',by rw [M0 W o p (h.lt p (rH.2 ⟨e,he,hp⟩))];exact bg,eG.mono _ iz bQ⟩
   exact h1
  nodup:=by simp only [aP];exact List.nodup_cons.2 ⟨r2,h.nodup⟩
  lt:=fun k hk=>by
   simp only [aP,List.mem_cons] at hk;rw [World.size_alloc];rcases hk with rfl | hk
   ·omega
   have:=h.lt k hk;omega
  gL:=fun k hk cj=>by
   simp only [aP,List.mem_cons] at hk;rcases hk with rfl | hk
   ·have:=h.dO.size;omega
   exact h.gL k hk cj
  e6:=fun k hk=>by
   obtain⟨h1,ab⟩:=h.e6 k hk;refine⟨by rw [World.size_alloc];omega,fun hm=>?_⟩;simp only [aP,List.mem_cons] at hm;rcases hm with rfl | hm
   ·omega
   exact ab hm }
theorem bI.sub {c E L L' a W}(h:bI c E L a W)(aq:∀ e∈L',e∈L)(aH:(aP L').Nodup):bI c E L' a W:=by
 have hk:∀ k∈aP L',k∈aP L:=fun k hk=>by
  obtain⟨e,he,ab⟩:=rH.1 hk;exact rH.2 ⟨e,aq e he,ab⟩
 have iz:Ext (aP L++c.bZ) W (aP L'++c.bZ) W:= .drop fun k hm=>by
  rcases List.mem_append.1 hm with hm | hm
  ·exact List.mem_append.2 (.inl (hk k hm))
  exact List.mem_append.2 (.inr hm)
 exact
 {defers:=h.defers
  size:=h.size
  env:=fun t τ ak=>let⟨v,h1,ab⟩:=h.env t τ ak; ⟨v,h1,τ.mono iz ab⟩
  dO:=h.dO
  own:=fun e he=>by
   have h1:=h.own e (aq e he);unfold aF.ok at *;split at h1
   ·obtain⟨o',bg,bQ⟩:=h1;exact⟨o',bg,eG.mono _ iz bQ⟩
   exact h1
  nodup:=aH
  lt:=fun k hm=>h.lt k (hk k hm)
  gL:=fun k hm=>h.gL k (hk k hm)
  e6:=fun k hm=>⟨(h.e6 k hm).1,fun ab=>(h.e6 k hm).2 (hk k ab)⟩ }
theorem ff (L R:List aF):aP (L++R)=aP L++aP R:=by
 induction L with
 | nil=>rfl
 | cons e r b2=>cases hk:e.key <;> simp [aP,hk,b2]
theorem IT {L:List aF}{i:Nat}{e:aF}{cp:eG}(ao:L[i]? =some e):aP (L.set i ⟨e.key,cp⟩)=aP L:=by
 induction L generalizing i with
 | nil=>simp at ao
 | cons x r b2=>
   cases i with
   | zero=>simp only [List.getElem?_cons_zero,Option.some.injEq] at ao;subst ao;simp [aP]
   | succ i=>simp only [List.getElem?_cons_succ] at ao;simp [aP,b2 ao]
theorem M1 {L:List aF}(aH:(aP L).Nodup){i j:Nat}{e f:aF}{p:Nat}(ao:L[i]? =some e)(aB:L[j]? =some f)(he:e.key=some p)(aT:f.key=some p):i=j:=by
 induction L generalizing i j with
 | nil=>simp at ao
 | cons x r b2=>
   have aA:(aP r).Nodup:=by
    cases al:x.key with
    | none=>simpa [aP,al] using aH
    | some q=>simp only [aP,al] at aH;exact(List.nodup_cons.1 aH).2
   have FB:∀ q,x.key=some q→q ∉ aP r:=fun q al=>by simp only [aP,al] at aH;exact(List.nodup_cons.1 aH).1
   cases i with
   | zero=>
     simp only [List.getElem?_cons_zero,Option.some.injEq] at ao
     subst ao
     cases j with
     | zero=>rfl
     | succ j=>
       simp only [List.getElem?_cons_succ] at aB
       exact absurd (rH.2 ⟨f,List.mem_of_getElem? aB,aT⟩) (FB p he)
   | succ i=>
     simp only [List.getElem?_cons_succ] at ao
     cases j with
     | zero=>
       simp only [List.getElem?_cons_zero,Option.some.injEq] at aB
       subst aB
       exact absurd (rH.2 ⟨e,List.mem_of_getElem? ao,he⟩) (FB p aT)
     | succ j=>
       simp only [List.getElem?_cons_succ] at aB
       rw [b2 aA ao aB]
theorem bI.store {c E L a W}(h:bI c E L a W){i p:Nat}{cp cp':eG}(ao:L[i]? =some ⟨some p,cp⟩){cs eP:Array Value}{T:TypeId}
 (bg:W.heap[p]? =some (.cells cs T (0,0))) (ad:cp'.holds (aP L++c.bZ) W (.cells eP T (0,0))):
 bI c E (L.set i ⟨some p,cp'⟩) a (W.setRow p eP):=by
 have ig:aP (L.set i ⟨some p,cp'⟩)=aP L:=IT (cp:=cp') ao
 have hp:p∈aP L:=rH.2 ⟨_,List.mem_of_getElem? ao,rfl⟩
 have iz:Ext (aP L++c.bZ) W (aP L++c.bZ) (W.setRow p eP):=
  ⟨by simp,fun k _ aW=>setRow_other W p k eP (fun e=>aW (e ▸ List.mem_append.2 (.inl hp))),fun _ h _=>h⟩
 exact
 {defers:=h.defers
  size:=h.size
  env:=fun t τ ak=>by rw [ig];exact let⟨v,h1,ab⟩:=h.env t τ ak; ⟨v,h1,τ.mono iz ab⟩
  dO:=⟨h.dO.os,h.dO.tape,h.dO.output,h.dO.drawn,by simpa using h.dO.size,fun k hk al=>by
   rw [setRow_other W p k eP (fun e=>al (e ▸ h.gL p hp (e ▸ hk)))];exact h.dO.block k hk al⟩
  own:=fun e he=>by
   rw [ig];obtain⟨j,aB⟩:=List.mem_iff_getElem?.1 he;rw [List.getElem?_set] at aB;split at aB
   ·rename_i fS;subst fS;split at aB
    ·simp only [Option.some.injEq] at aB;subst aB;exact⟨_,setRow_heap W p cs eP T (0,0) bg,cp'.mono iz ad⟩
    cases aB
   rename_i fS;have h1:=h.own e (List.mem_of_getElem? aB);unfold aF.ok at *;split at h1
   ·rename_i q hq;obtain⟨o',vJ,bQ⟩:=h1;have de:q≠p:=fun e'=>fS (M1 h.nodup ao aB rfl (e' ▸ hq));exact⟨o',by rw [setRow_other W p q eP de];exact vJ,eG.mono _ iz bQ⟩
   exact h1
  nodup:=by rw [ig];exact h.nodup
  lt:=by rw [ig];simpa using h.lt
  gL:=by rw [ig];exact h.gL
  e6:=by rw [ig];simpa using h.e6 }
abbrev ah.scalar {α:Type}(val:α→Value)(h:∀ x,(val x).oneCell'=true):ah α where
 size:=1
 agg:=false
 rep _ _ cs x:=cs= [val x]
 len h:=by rw [h];rfl
 one aA:=by subst aA;intro v bb;rw [List.mem_singleton.1 bb];exact h _
 flat _:=rfl
 mono _ h:=h
instance:ah Bool:= .scalar Value.bool fun _=>rfl
instance:ah Int:= .scalar (Value.int .i64) fun _=>rfl
instance:ah (BitVec 64):= .scalar (fun x=>Value.int .u64 (x.toNat:Int)) fun _=>rfl
instance:ah (BitVec 32):= .scalar (fun x=>Value.int .u32 (x.toNat:Int)) fun _=>rfl
instance:ah (BitVec 16):= .scalar (fun x=>Value.int .u16 (x.toNat:Int)) fun _=>rfl
instance:ah (BitVec 8):= .scalar (fun x=>Value.int .u8 (x.toNat:Int)) fun _=>rfl
instance:ah ByteArray:= .scalar Value.string fun _=>rfl
theorem nV {v u:Value}(h:v.oneCell'=true)(e:v.cells.toList= [u]):v=u:=by
 rw [cells_one h] at e;simpa using e
theorem of_bool {A W v}{b:Bool} :(I.of b).holds A W v↔v= .bool b:=
 ⟨fun h=>nV h.1 h.2,fun h=>by subst h;exact⟨rfl,rfl⟩⟩
theorem of_int {A W v}{x:Int} :(I.of x).holds A W v↔v= .int .i64 x:=
 ⟨fun h=>nV h.1 h.2,fun h=>by subst h;exact⟨rfl,rfl⟩⟩
theorem h8 {A W v}{x:BitVec 64} :(I.of x).holds A W v↔v= .int .u64 (x.toNat:Int):=
 ⟨fun h=>nV h.1 h.2,fun h=>by subst h;exact⟨rfl,rfl⟩⟩
theorem ah5 {A W v}{x:BitVec 8} :(I.of x).holds A W v↔v= .int .u8 (x.toNat:Int):=
 ⟨fun h=>nV h.1 h.2,fun h=>by subst h;exact⟨rfl,rfl⟩⟩
theorem afV {A W v}{x:ByteArray} :(I.of x).holds A W v↔v= .string x:=
 ⟨fun h=>nV h.1 h.2,fun h=>by subst h;exact⟨rfl,rfl⟩⟩
def aN (c:cF)(E:List (Nat×I))(L:List aF)(x:Operand)(τ:I):Prop:= ∀ a W,bI c E L a W→τ.holds (aP L++c.bZ) W (a.eval x)
section
variable {c:cF} {E:List (Nat×I)} {L:List aF}
theorem ae {t:Nat}{τ:I}(h:look E t=some τ):aN c E L (.tmp t) τ:=fun a W s=>by
 obtain⟨v,h1,ab⟩:=s.env t τ h;have:a.eval (.tmp t)=v:=by simp [Act.eval,h1]
 rw [this];exact ab
theorem cD {t:Nat}{τ:I}{p:Prop}(h:look E t=some (.cond p τ))(hp:p):aN c E L (.tmp t) τ:=fun a W s=>(ae h a W s).1 hp
theorem ES (v:Value):aN c E L (.const v) (.eq v):=fun _ _ _=>rfl
theorem c9 (k:Int):aN c E L (.const (.int .i64 k)) (.of k):=fun _ _ _=>of_int.2 rfl
theorem hn (b:Bool):aN c E L (.const (.bool b)) (.of b):=fun _ _ _=>of_bool.2 rfl
theorem Bo (x:BitVec 64){k:Int}(h:(x.toNat:Int)=k):aN c E L (.const (.int .u64 k)) (.of x):=fun _ _ _=>h8.2 (by rw [h];rfl)
theorem h6 (s:ByteArray):aN c E L (.const (.string s)) (.of s):=fun _ _ _=>afV.2 rfl
def hy (P:Program)(o:Oper)(a:Act)(W:World)(R:Value→World→Prop):Prop:=
 o.wp P a W (fun gv W'=> ∃ v,gv=a.put o.dst v∧R v W') (fun _ _ _=>False)
theorem CallsIn.Md {rd:Option Nat}{n:Nat}{P:Program}{f:FuncId}{args:Array Value}{w:World}{R:Ending→World→Prop}
 (h:Calls P f args w R):CallsIn { fn:=fun _=>True,depth:=none,alive:=false,round:=rd } n P f args w R:=
 (callsIn_wide (n:=n)).2 h
theorem RowsIn.afW {rd:Option Nat}{n:Nat}{P:Program}{row:String}{args:Array Value}{w:World}{R:Value→World→Prop}
 (h:Rows P row args w R):RowsIn { fn:=fun _=>True,depth:=none,alive:=false,round:=rd } n P row args w R:=
 fun c cs _=>let⟨v,qy,r,s⟩:=h c cs; ⟨v,qy,r,stepsIn_wide.2 s⟩
theorem hy.wp {P:Program}{o:Oper}{a:Act}{W:World}{R:Value→World→Prop}{next:Act→World→Prop}{Q:Exit→Act→World→Prop}
 (h:hy P o a W R) (hk:∀ v W',R v W'→next (a.put o.dst v) W'):o.wp P a W next Q:=by
 unfold hy Oper.wp at *
 generalize (execOp a.eval o).run P W=r at *
 cases r with
 | ok n W'=>
   cases n <;> simp only [Oper.upon] at h ⊢
   case value v=>obtain⟨u,h1,ab⟩:=h;rw [h1];exact hk _ _ ab
   case skip=>obtain⟨u,h1,ab⟩:=h;rw [h1];exact hk _ _ ab
   case defer d=>obtain⟨u,h1,ab⟩:=h;rw [h1];exact hk _ _ ab
   case enter f args=>
    refine h.mono fun e xu he=>?_
    cases e with
    | returned v=>obtain⟨u,h1,ab⟩:=he;simp only at h1 ⊢;rw [h1];exact hk _ _ ab
    | panicked lI=>exact he.elim
    | outgrown=>obtain⟨_,_,h1⟩:=he;exact h1.elim
   case row row args=>exact h.mono fun v xu ⟨u,h1,ab⟩=>by rw [h1];exact hk _ _ ab
 | halt x W'=>cases x <;> simp only [Oper.upon] at h
theorem hy.adw {P:Program}{o:Oper}{a:Act}{W:World}{R:Value→World→Prop}(h:hy P o a W R):∀ c,o.op≠ .defer c:=by
 intro c bg;unfold hy Oper.wp execOp at h;rw [bg] at h;simp only [Sem.run_bind] at h;generalize (resolve a.eval c o.type).run P W=r at h;cases r with
 | ok d W'=>
   simp only [Result.andThen,Sem.run_pure,Oper.upon] at h
   obtain⟨v,h1,_⟩:=h
   have:=congrArg Act.defers h1
   cases hd:o.dst <;> simp [Act.put,hd] at this
 | halt x W'=>cases x <;> simp only [Result.andThen,Oper.upon] at h
theorem hy.wpIn {c:cF}{n:Nat}{o:Oper}{a:Act}{W:World}{R:Value→World→Prop}{next:Act→World→Prop}{Q:Exit→Act→World→Prop}
 (h:hy c.P o a W R) (hk:∀ v W',R v W'→next (a.put o.dst v) W'):o.wpIn c.F n c.P a W next Q:=by
 refine⟨fun _ _=>trivial,?_⟩
 rw [Oper.semAt_eq _ _ _ h.adw]
 unfold hy Oper.wp at h
 generalize (execOp a.eval o).run c.P W=r at *
 cases r with
 | ok m W'=>
   cases m <;> simp only [Oper.upon,Oper.uponIn] at h ⊢
   case value v=>obtain⟨u,h1,ab⟩:=h;rw [h1];exact hk _ _ ab
   case skip=>obtain⟨u,h1,ab⟩:=h;rw [h1];exact hk _ _ ab
   case defer d=>obtain⟨u,h1,ab⟩:=h;rw [h1];exact hk _ _ ab
   case enter f args=>
    refine⟨fun h=>by simp at h,CallsIn.Md ?_⟩
    refine h.mono fun e xu he=>?_
    cases e with
    | returned v=>obtain⟨u,h1,ab⟩:=he;simp only at h1 ⊢;rw [h1];exact hk _ _ ab
    | panicked lI=>exact he.elim
    | outgrown=>obtain⟨_,_,h1⟩:=he;exact h1.elim
   case row row args=>
    refine⟨fun h=>by simp at h,RowsIn.afW ?_⟩
    exact h.mono fun v xu ⟨u,h1,ab⟩=>by rw [h1];exact hk _ _ ab
 | halt x W'=>cases x <;> simp only [Oper.upon] at h
theorem HL {F:Fence}{n:Nat}{P:Program}{md:Region.Mode}{ops:Array Oper}{wa:Exit→Act→World→Prop} :∀ (l:List Oper) (k:Nat) (bs:Array Bool) (a:Act) (w:World),(∀ j,l[j]? =ops[k+j]?)→
 Region.seqB md ops l.length k bs=true→wpListIn F n P ops wa l a w→wpAnyIn F n P md ops wa l.length bs a w
 | [],_,_,_,_,_,fo,h=>⟨by simpa [Region.seqB] using fo,h⟩
 | o::l,k,bs,a,w,ak,fo,h=>by
   have bq:ops[k]? =some o:=by simpa using (ak 0).symm
   simp only [List.length_cons,Region.seqB,Bool.and_eq_true,decide_eq_true_eq] at fo;refine⟨fun h1=>(by rw [fo.1] at h1;cases h1),fun i ao=>?_⟩;rw [fo.1] at ao;have s4:i=k:=by simpa using ao
   subst s4;have hw:wpOpIn F n P ops wa i (wpListIn F n P ops wa l) a w:=by unfold wpOpIn;simp only [bq];exact h
   exact wpOpIn_mono (fun gv qy cL=>HL l (i+1) _ gv qy (fun j=>by have:=ak (j+1);simpa [Nat.add_assoc,Nat.add_comm 1 j] using this) fo.2 cL) hw
theorem hy.mv {P:Program}{o:Oper}{a:Act}{W W':World}{R:Value→World→Prop}{v:Value}
 (h:(execOp a.eval o).run P W= .ok (.value v) W') (aA:R v W'):hy P o a W R:=by
 unfold hy Oper.wp
 rw [h]
 exact⟨v,rfl,aA⟩
theorem hy.Bv {P:Program}{o:Oper}{a:Act}{W W':World}{R:Value→World→Prop}
 (h:(execOp a.eval o).run P W= .ok .skip W') (aA:R undef W'):hy P o a W R:=by
 unfold hy Oper.wp
 rw [h]
 exact⟨undef,rfl,aA⟩
theorem hy.wL {P:Program}{o:Oper}{a:Act}{W W':World}{R:Value→World→Prop}{f:FuncId}{args:Array Value}
 (h:(execOp a.eval o).run P W= .ok (.enter f args) W') (aA:Calls P f args W' fun e xu=> ∃ v,e= .returned v∧R v xu):hy P o a W R:=by
 unfold hy Oper.wp
 rw [h]
 exact aA.mono fun e xu ⟨v,he,ab⟩=>by subst he;exact⟨v,rfl,ab⟩
def bc (c:cF)(E:List (Nat×I))(L:List aF)(o:Oper)(τ:I):Prop:=
 ∀ a W,bI c E L a W→hy c.P o a W fun v W'=>Fr [] W W'∧τ.holds (aP L++c.bZ) W' v
theorem bc.pure {o:Oper}{τ:I}(h:∀ a W,bI c E L a W→ ∃ v,(execOp a.eval o).run c.P W= .ok (.value v) W∧τ.holds (aP L++c.bZ) W v):bc c E L o τ:=
 fun a W s=>let⟨_,h1,ab⟩:=h a W s; .mv h1 ⟨.refl _ _,ab⟩
variable {ops:Array Oper} {Q:Exit→Act→World→Prop}
def J (c:cF)(ops:Array Oper)(Q:Exit→Act→World→Prop)(l:List Oper)(E:List (Nat×I))(L:List aF):Prop:=
 ∀ a W,bI c E L a W→c.s3 ops Q l a W
def aj (c:cF)(Q:Exit→Act→World→Prop)(x:Exit)(E:List (Nat×I))(L:List aF):Prop:= ∀ a W,bI c E L a W→Q x a W
theorem J.nil (h:aj c Q .normal E L):J c ops Q [] E L:=fun a W s=>wpListIn_nil (h a W s)
theorem iP {c:cF}{o:Oper}{rest:List Oper}{a:Act}{W:World}(bA:o.guard=none){R:Value→World→Prop}(h:hy c.P o a W R)
 (hk:∀ v W',R v W'→c.s3 ops Q rest (a.put o.dst v) W'):c.s3 ops Q (o::rest) a W:=
 wpListIn_plain bA fun _ wb=>h.wpIn fun v W' aA=>wb _ _ (hk v W' aA)
theorem J.v {o:Oper}{rest:List Oper}{d:Nat}{τ:I}(h:bc c E L o τ)(bA:o.guard=none)(hd:o.dst=some d)(aH:Nat.blt d c.n=true)
 (k:J c ops Q rest ((d,τ)::E) L):J c ops Q (o::rest) E L:=fun a W s=>
 iP bA (h a W s) fun v W' ⟨f,bb⟩=>by
  rw [hd];exact k _ _ ((s.world f).put (by simpa using aH) bb)
theorem H2 {j g:Nat}{b:Bool}(aB:(ops[j]?).bind (·.dst)=some g)(ak:look E g=some (.of b)){a:Act}{W:World}(s:bI c E L a W):
 yielded ops a.tmps j=some b:=by
 obtain⟨v,h1,ab⟩:=s.env g _ ak
 unfold yielded
 rw [aB]
 simp only [Option.bind_some,h1,of_bool.1 ab]
theorem J.g {o:Oper}{rest:List Oper}{d j g:Nat}{b want:Bool}{τ:I}(h:b=want→bc c E L o τ)(bA:o.guard=some (j,want))(aB:(ops[j]?).bind (·.dst)=some g)
 (ak:look E g=some (.of b)) (hd:o.dst=some d) (aH:Nat.blt d c.n=true)
 (k:J c ops Q rest ((d,.cond (b=want) τ)::E) L):J c ops Q (o::rest) E L:=fun a W s=>by
 have aR:=H2 aB ak s
 unfold cF.s3 wpListIn
 by_cases hb:b=want
 ·rw [if_pos (by simp [Region.wanted,bA,aR,hb])]
  refine((h hb a W s).wpIn fun v W' ⟨f,bb⟩=>?_)
  rw [hd]
  exact k _ _ ((s.world f).put (by simpa using aH) ⟨fun _=>bb,fun h=>absurd hb h⟩)
 rw [if_neg (by simp [Region.wanted,bA,aR,hb])]
 rw [hd]
 exact⟨fun _ _=>trivial,k _ _ (s.put (by simpa using aH) ⟨fun h=>absurd h hb,fun _=>rfl⟩)⟩
theorem Rx {j g:Nat}{p:Prop}{b:Bool}(aB:(ops[j]?).bind (·.dst)=some g)(ak:look E g=some (.cond p (.of b))){a:Act}{W:World}(s:bI c E L a W):
 (p→yielded ops a.tmps j=some b)∧ (¬ p→yielded ops a.tmps j=none):=by
 obtain⟨v,h1,ab,ax⟩:=s.env g _ ak
 unfold yielded
 rw [aB]
 simp only [Option.bind_some,h1]
 exact⟨fun hp=>by simp only [of_bool.1 (ab hp)],fun hp=>by simp only [ax hp];rfl⟩
theorem J.gg {o:Oper}{rest:List Oper}{d j g:Nat}{p:Prop}{b want:Bool}{τ:I}(h:p∧b=want→bc c E L o τ)(bA:o.guard=some (j,want))(aB:(ops[j]?).bind (·.dst)=some g)
 (ak:look E g=some (.cond p (.of b))) (hd:o.dst=some d) (aH:Nat.blt d c.n=true)
 (k:J c ops Q rest ((d,.cond (p∧b=want) τ)::E) L):J c ops Q (o::rest) E L:=fun a W s=>by
 have aR:=Rx aB ak s
 unfold cF.s3 wpListIn
 by_cases hb:p∧b=want
 ·rw [if_pos (by simp [Region.wanted,bA,aR.1 hb.1,hb.2])]
  refine((h hb a W s).wpIn fun v W' ⟨f,bb⟩=>?_)
  rw [hd]
  exact k _ _ ((s.world f).put (by simpa using aH) ⟨fun _=>bb,fun h=>absurd hb h⟩)
 have hw:Region.wanted o (yielded ops a.tmps)=false:=by
  by_cases hp:p
  ·have: ¬ (b=want):=fun h=>hb ⟨hp,h⟩;simp [Region.wanted,bA,aR.1 hp,this]
  simp [Region.wanted,bA,aR.2 hp]
 rw [if_neg (by simp [hw])]
 refine⟨fun _ _=>trivial,?_⟩
 rw [hd]
 exact k _ _ (s.put (by simpa using aH) ⟨fun h=>absurd h hb,fun _=>rfl⟩)
inductive fH (E:List (Nat×I)):List (Nat×I)→Prop
 | nil:fH E []
 | cons {t τ σ r} :look E t=some σ→ (∀ A W v,σ.holds A W v→τ.holds A W v)→fH E r→fH E ((t,τ)::r)
theorem fH.same {t:Nat}{τ:I}{r:List (Nat×I)}(h:look E t=some τ)(k:fH E r):fH E ((t,τ)::r):= .cons h (fun _ _ _ h=>h) k
theorem fH.all {r:List (Nat×I)}(h:fH E r:=by repeat (first | exact fH.nil | refine fH.same rfl ?_)):fH E r:=h
theorem fH.look:∀ {E':List (Nat×I)},fH E E'→ ∀ t τ,Gv.look E' t=some τ→ ∃ σ,Gv.look E t=some σ∧ ∀ A W v,σ.holds A W v→τ.holds A W v
 | _,.nil,t,τ,h=>by simp [Gv.look] at h
 | _,.cons (t:=s) (σ:=σ) h1 ab r,t,τ,h=>by
   simp only [Gv.look] at h;by_cases e:Nat.beq s t=true
   ·rw [e] at h;simp only [cond_true,Option.some.injEq] at h;subst h;rw [eS.1 e] at h1;exact⟨σ,h1,ab⟩
   simp only [Bool.not_eq_true] at e;rw [e] at h;exact r.look t τ h
theorem aj.le {x:Exit}{E':List (Nat×I)}(h:fH E E')(k:aj c Q x E' L):aj c Q x E L:=fun a W s=>k a W (s.less h.look)
theorem J.le {l:List Oper}{E':List (Nat×I)}(h:fH E E')(k:J c ops Q l E' L):J c ops Q l E L:=fun a W s=>k a W (s.less h.look)
def aw (c:cF)(Q:Exit→Act→World→Prop)(code:Code)(E:List (Nat×I))(L:List aF):Prop:= ∀ a W,bI c E L a W→c.wp code Q a W
theorem aw.le {code:Code}{E':List (Nat×I)}(h:fH E E')(k:aw c Q code E' L):aw c Q code E L:=fun a W s=>k a W (s.less h.look)
theorem aw.fv {id:Nat}{l:List Oper}(h:J c l.toArray Q l E L):aw c Q (.region id l.toArray false) E L:=fun a W s=>wpIn_region_lit (h a W s)
theorem aw.seq {x y:Code}(h:aw c (Exit.then (c.wp y Q) Q) x E L):aw c Q (.seq x y) E L:=fun a W s=>wpIn_seq (h a W s)
theorem aj.next {y:Code}(h:aw c Q y E L):aj c (Exit.then (c.wp y Q) Q) .normal E L:=fun a W s=>h a W s
theorem aj.exit {y:Act→World→Prop}{id:Nat}(h:aj c Q (.exit id) E L):aj c (Exit.then y Q) (.exit id) E L:=fun a W s=>h a W s
theorem aj.ret {y:Act→World→Prop}(h:aj c Q .ret E L):aj c (Exit.then y Q) .ret E L:=fun a W s=>h a W s
theorem aw.block {id:Nat}{x:Code}(h:aw c (Exit.inBlock id Q) x E L):aw c Q (.block id x) E L:=fun a W s=>wpIn_block (h a W s)
theorem aj.p8 {id:Nat}(h:aj c Q .normal E L):aj c (Exit.inBlock id Q) .normal E L:=fun a W s=>h a W s
theorem aj.mP {id:Nat}(h:aj c Q .normal E L):aj c (Exit.inBlock id Q) (.exit id) E L:=fun a W s=>by
 show(if id=id then Q .normal a W else Q (.exit id) a W);rw [if_pos rfl];exact h a W s
theorem aj.afX {id F0:Nat}(de:Nat.beq F0 id=false)(h:aj c Q (.exit F0) E L):aj c (Exit.inBlock id Q) (.exit F0) E L:=fun a W s=>by
 show(if F0=id then Q .normal a W else Q (.exit F0) a W);rw [if_neg (fun e=>by rw [e,Nat.beq_refl] at de;cases de)];exact h a W s
theorem aj.nC {id:Nat}(h:aj c Q .ret E L):aj c (Exit.inBlock id Q) .ret E L:=fun a W s=>h a W s
theorem aw.skip (h:aj c Q .normal E L):aw c Q .skip E L:=fun a W s=>wpIn_skip (h a W s)
theorem aw.exit {id:Nat}(h:aj c Q (.exit id) E L):aw c Q (.exit id) E L:=fun a W s=>wpIn_exit (h a W s)
theorem aw.ret (h:aj c Q .ret E L):aw c Q .ret E L:=fun a W s=>wpIn_ret (h a W s)
theorem aw.cond {x:Operand}{b:Bool}{y z:Code}(ak:aN c E L x (.of b))(bw:b=true→aw c Q y E L)(aT:b=false→aw c Q z E L):aw c Q (.cond x y z) E L:=
 fun a W s=>wpIn_cond_split (of_bool.1 (ak a W s)) (fun h=>bw h a W s) (fun h=>aT h a W s)
def dx {σ ε:Type} :Nat→ (σ→Option (σ ⊕ ε))→σ→Option ε
 | 0,_,_=>none
 | n+1,b,s=>match b s with
   | none=>none
   | some (.inl cf)=>dx n b cf
   | some (.inr e)=>some e
def anV {σ ε:Type}(c:cF)(E:σ→List (Nat×I))(L:σ→List aF)(xs:ε→Exit)(hi:ε→List (Nat×I))(Lx:ε→List aF):σ ⊕ ε→Exit→Act→World→Prop
 | .inl s,x,a,W=>x= .normal∧bI c (E s) (L s) a W
 | .inr e,x,a,W=>x≠ .normal∧x=xs e∧bI c (hi e) (Lx e) a W
theorem aj.round {σ ε:Type}{E':σ→List (Nat×I)}{L':σ→List aF}{xs:ε→Exit}{hi:ε→List (Nat×I)}{Lx:ε→List aF}{s:σ}
 (h:∀ a W,bI c E L a W→bI c (E' s) (L' s) a W):aj c (anV c E' L' xs hi Lx (.inl s)) .normal E L:=fun a W st=>⟨rfl,h a W st⟩
theorem acE {F:Fence}{n:Nat}{P:Program}{body:Code}{σ ε:Type}(b:σ→Option (σ ⊕ ε))(fI:σ→Act→World→Prop)(X:ε→Exit→Act→World→Prop)
 (tJ:∀ s r,b s=some r→ ∀ a W,fI s a W→body.wpIn F n P (fun x a W=>match r with | .inl cf=>x= .normal∧fI cf a W | .inr e=>x≠ .normal∧X e x a W) a W)
 (Q:Exit→Act→World→Prop) (e:ε) (pk:∀ x a W,X e x a W→Q x a W) {cg:σ} {N:Nat} (ak:dx N b cg=some e) {a0:Act} {jY:World} (bq:fI cg a0 jY):
 (Code.loop body).wpIn F n P Q a0 jY:=by
 intro dO k cs kB hb aA
 have key:∀ N s,dx N b s=some e→ ∀ a W,fI s a W→
  ∃ x gv W',Q x gv W'∧ArrivesIn (Machine.fenced P F) P (lone (dO.atR a (.code body::.inLoop body::k)) cs W) dO k cs x gv W':=by
  intro N
  induction N with
  | zero=>intro s h;simp [dx] at h
  | succ N b2=>
    intro s h a W nf
    simp only [dx] at h
    split at h
    ·cases h
    ·rename_i cf hs
     obtain⟨x,r3,Cc,hq,oe⟩:=tJ s _ hs a W nf dO (.inLoop body::k) cs kB hb aA
     obtain⟨al,OX⟩:=hq
     subst al
     obtain⟨Oq,Ot,Ou,NU,Me⟩:=b2 cf h r3 Cc OX
     exact⟨Oq,Ot,Ou,NU,.of_steps (StepsIn.trans oe (.one (fenced_calm hb aA rfl) stepR_inLoop)) Me⟩
    rename_i e' hs
    simp only [Option.some.injEq] at h
    subst h
    obtain⟨x,r3,Cc,hq,oe⟩:=tJ s _ hs a W nf dO (.inLoop body::k) cs kB hb aA
    obtain⟨al,ng⟩:=hq
    exact⟨x,r3,Cc,pk _ _ _ ng,.pass (x:= .inLoop body) rfl (fun _ _=>.inl al) oe⟩
 obtain⟨x,gv,W',hq,oe⟩:=key N cg ak a0 jY bq
 exact⟨x,gv,W',hq,.of_steps (.one (fenced_calm hb aA rfl) stepR_loop) oe⟩
def dZ (P:Program)(f:FuncId)(τs:List I)(ρ:I):Prop:=
 ∀ (A:List Nat) (W:World) (vs:List Value),(∀ k∈A,k<W.heap.size)→ho A W τs vs→
   Calls P f vs.toArray W fun e W'=> ∃ v,e= .returned v∧Fr [] W W'∧ρ.holds A W' v
def params:Nat→List I→List (Nat×I)
 | _,[]=>[]
 | k,τ::r=>(k,τ)::params (k+1) r
theorem Bk {A:List Nat}{W:World}{τs:List I}{vs:List Value}(h:ho A W τs vs):∀ (k t:Nat) (τ:I),look (params k τs) t=some τ→k≤t∧ ∃ v,vs[t - k]? =some v∧τ.holds A W v:=by
 induction h with
 | nil=>intro k t τ h;simp [params,look] at h
 | cons h1 r b2=>
   intro k t τ ak
   simp only [params,look] at ak
   by_cases e:Nat.beq k t=true
   ·rw [e] at ak
    simp only [cond_true,Option.some.injEq] at ak
    subst ak
    rw [eS.1 e]
    exact⟨Nat.le_refl _,_,by simp,h1⟩
   simp only [Bool.not_eq_true] at e
   rw [e] at ak
   have de:k≠t:=fun h=>by rw [eS.2 h] at e;cases e
   obtain⟨ab,v,ax,aO⟩:=b2 (k+1) t τ ak
   refine⟨by omega,v,?_,aO⟩
   rw [show t - k=(t - (k+1))+1 by omega,List.getElem?_cons_succ]
   exact ax
theorem dZ.enter {P:Program}{f:FuncId}{fn:Func}{code:Code}{n:Nat}{τs:List I}{ρ:I}(aT:P.funcs[f]? =some fn)(hb:fn.body=some code)(aH:fn.ntmps=n)(hlen:Nat.ble τs.length n=true)
 (h:∀ W A,aw ⟨P,n,W,[],A,none,[]⟩ (bodyPost P fn fun e W'=> ∃ v,e= .returned v∧Fr [] W W'∧ρ.holds A W' v) code (params 0 τs) []):dZ P f τs ρ:=by
 intro A W vs eM bb
 refine calls_of_wp aT hb (wpIn_wide.1 (h W A _ _ ?_))
 have ak:=bb.length
 have hle:τs.length≤n:=Nat.le_of_ble_eq_true hlen
 exact
 {defers:=rfl
  size:=by simp [aH,ak];omega
  env:=fun t τ lz=>by
   obtain⟨_,v,ab,ax⟩:=Bk bb 0 t τ lz;refine⟨v,?_,ax⟩;have cj:t<vs.length:=(List.getElem?_eq_some_iff.1 ab).1;rw [Array.getElem?_append_left (by simpa using cj)];simpa using ab
  dO:= .refl _ _
  own:=by simp
  nodup:=by simp [aP]
  lt:=by simp [aP]
  gL:=by simp [aP]
  e6:=fun k hk=>⟨eM k hk,by simp [aP]⟩ }
theorem RM {ρ:I}{A B:List Nat}{W:World}{v:Value}(h:ρ.holds (B++A) W v):ρ.holds A W v:=ρ.mono (.drop fun _ h=>List.mem_append.2 (.inr h)) h
end
section
variable {c:cF} {E:List (Nat×I)} {L:List aF} {ops:Array Oper} {Q:Exit→Act→World→Prop}
def h4 (c:cF)(ops:Array Oper)(E:List (Nat×I))(L:List aF)(o:Oper)(τ:I):Prop:=
 ∀ a W,bI c E L a W→
   (Region.wanted o (yielded ops a.tmps)=true→hy c.P o a W fun v W'=>Fr [] W W'∧τ.holds (aP L++c.bZ) W' v)∧
   (Region.wanted o (yielded ops a.tmps)=false→τ.holds (aP L++c.bZ) W undef)
theorem h4.v {o:Oper}{τ:I}(h:bc c E L o τ)(bA:o.guard=none):h4 c ops E L o τ:=fun a W s=>
 ⟨fun _=>h a W s,fun hw=>by simp [Region.wanted,bA] at hw⟩
theorem h4.g {o:Oper}{j g:Nat}{b want:Bool}{τ:I}(h:b=want→bc c E L o τ)(bA:o.guard=some (j,want))(aB:(ops[j]?).bind (·.dst)=some g)(ak:look E g=some (.of b)):
 h4 c ops E L o (.cond (b=want) τ):=fun a W s=>by
 have aR:=H2 aB ak s
 constructor
 ·intro hw
  have hb:b=want:=by simpa [Region.wanted,bA,aR] using hw
  refine hy.wp (h hb a W s) fun v W' ⟨f,bb⟩=>⟨v,rfl,f,fun _=>bb,fun h=>absurd hb h⟩
 intro hw
 exact⟨fun hb=>by simp [Region.wanted,bA,aR,hb] at hw,fun _=>rfl⟩
theorem h4.gg {o:Oper}{j g:Nat}{p:Prop}{b want:Bool}{τ:I}(h:p∧b=want→bc c E L o τ)(bA:o.guard=some (j,want))(aB:(ops[j]?).bind (·.dst)=some g)(ak:look E g=some (.cond p (.of b))):
 h4 c ops E L o (.cond (p∧b=want) τ):=fun a W s=>by
 have aR:=Rx aB ak s
 have Ct:Region.wanted o (yielded ops a.tmps)=true→p∧b=want:=by
  intro hw;by_cases hp:p
  ·exact⟨hp,by simpa [Region.wanted,bA,aR.1 hp] using hw⟩
  simp [Region.wanted,bA,aR.2 hp] at hw
 constructor
 ·intro hw
  refine hy.wp (h (Ct hw) a W s) fun v W' ⟨f,bb⟩=>⟨v,rfl,f,fun _=>bb,fun h=>absurd (Ct hw) h⟩
 intro hw
 exact⟨fun hb=>by simp [Region.wanted,bA,aR.1 hb.1,hb.2] at hw,fun _=>rfl⟩
inductive tf
 | val (τ:I)
 | new (cp:eG)
 | kQ (i:Nat) (cp:eG)
 | OY (j:Nat) (cp:eG)
def tf.ah6:tf→Bool
 | .kQ _ _ | .OY _ _=>true
 | _=>false
def tf.YN (p:Nat):tf→Option I
 | .val τ=>some τ
 | .new _=>some (.eq (.pointer (some ⟨p,0,none⟩)))
 | _=>none
def he (dS:Nat→Nat)(oa:List (Option Nat))(hs:List tf)(E:List (Nat×I)):List Nat→List (Nat×I)
 | []=>E
 | j::r=>match oa[j]?,hs[j]? with
   | some (some s),some h=>match h.YN (dS j) with
     | some τ=>(s,τ)::he dS oa hs E r
     | none=>he dS oa hs E r
   | _,_=>he dS oa hs E r
def VO:List aF→Nat→eG→List aF
 | [],_,_=>[]
 | e::r,0,cp=>⟨e.key,cp⟩::r
 | e::r,i+1,cp=>e::VO r i cp
def J2 (L:List aF):List tf→List aF
 | []=>L
 | .kQ i cp::r=>J2 (VO L i cp) r
 | _::r=>J2 L r
def Ov (j:Nat)(cp:eG):List tf→eG
 | []=>cp
 | .OY i cp'::r=>Ov j (bif Nat.beq i j then cp' else cp) r
 | _::r=>Ov j cp r
def tS (w:Nat→Bool)(i:Nat):Nat→List tf→Bool
 | _,[]=>true
 | k,.kQ j _::r=>(!(Nat.beq j i)||w k)&&tS w i (k+1) r
 | k,.val _::r=>tS w i (k+1) r
 | k,.new _::r=>tS w i (k+1) r
 | k,.OY _ _::r=>tS w i (k+1) r
theorem Ui (f g:Nat→Bool)(i:Nat)(aT:f i=true)(bA:g i=false)(h:∀ j,g j=true→f j=true):∀ n,i<n→ ((List.range n).filter g).length<((List.range n).filter f).length:=by
 have le:∀ n,((List.range n).filter g).length≤ ((List.range n).filter f).length:=by
  intro n;induction n with
  | zero=>simp
  | succ n b2=>
    rw [List.range_succ,List.filter_append,List.filter_append,List.length_append,List.length_append]
    have:([n].filter g).length≤ ([n].filter f).length:=by
     cases zB:g n with
     | false=>simp [zB]
     | true=>simp [zB,h n zB]
    omega
 intro n;induction n with
 | zero=>omega
 | succ n b2=>
   intro cj
   rw [List.range_succ,List.filter_append,List.filter_append,List.length_append,List.length_append]
   by_cases e:i=n
   ·subst e
    have:=le i
    simp [aT,bA]
    omega
   have h1:=b2 (by omega)
   have:([n].filter g).length≤ ([n].filter f).length:=by
    cases zB:g n with
    | false=>simp [zB]
    | true=>simp [zB,h n zB]
   omega
theorem RN {n:Nat}{bs:Array Bool}(inv:HeadInv .any ops n bs)(aH:n≤ops.size)(pB:∀ i,i<n→bs.getD i true=true):
 bs=(List.range n).foldl (fun l i=>l.setIfInBounds i true) (Array.replicate ops.size false):=by
 have key:∀ m,m≤ops.size→ ((List.range m).foldl (fun l i=>l.setIfInBounds i true) (Array.replicate ops.size false)).size=ops.size∧
  ∀ j (d:Bool),j<ops.size→ ((List.range m).foldl (fun l i=>l.setIfInBounds i true) (Array.replicate ops.size false)).getD j d=decide (j<m):=by
  intro m
  induction m with
  | zero=>intro _;exact⟨by simp,fun j d aB=>by simp [aB]⟩
  | succ m b2=>
    intro hm
    obtain⟨h1,ab⟩:=b2 (by omega)
    rw [List.range_succ,List.foldl_append]
    simp only [List.foldl_cons,List.foldl_nil]
    refine⟨by simpa using h1,fun j d aB=>?_⟩
    by_cases e:m=j
    ·subst e
     simp [h1,aB]
    rw [getD_set_ne d e,ab j d aB]
    by_cases ax:j<m
    ·simp [ax];omega
    simp [ax];omega
 obtain⟨h1,ab⟩:=key n aH
 apply Array.ext
 ·rw [inv.size,h1]
 intro i XY pL
 have ao:i<ops.size:=by rw [← inv.size];exact XY
 have ax:=ab i true ao
 have ar:bs.getD i true=bs[i]:=by simp [XY]
 have aU:((List.range n).foldl (fun l i=>l.setIfInBounds i true) (Array.replicate ops.size false)).getD i true=((List.range n).foldl (fun l i=>l.setIfInBounds i true) (Array.replicate ops.size false))[i]:=by
  simp [pL]
 rw [← aU,ax,← ar]
 by_cases aO:i<n
 ·rw [pB i aO];simp [aO]
 rw [inv.tail i (by omega) ao];simp [aO]
def W6 (dS:Nat→Nat)(all:List tf)(b:Nat)(GK:List Nat):List aF:=GK.map fun j=>⟨some (dS j),match all[j]? with | some (.new cp)=>Ov j cp (all.take b) | _=>.dead⟩
structure ar6 (c:cF)(n:Nat)(oa:List (Option Nat))(hs:List tf)(E:List (Nat×I))(L:List aF)(bs:Array Bool)(dS:Nat→Nat)(GK:List Nat)(b:Nat)(a:Act)(W:World):Prop where
 st:bI c E (J2 L (hs.take b)++W6 dS hs b GK) a W
 done:∀ (j:Nat) s h τ,j<n→bs.getD j false=true→oa[j]? =some (some s)→hs[j]? =some h→h.YN (dS j)=some τ→ ∃ v,a.tmps[s]? =some v∧τ.holds (aP (J2 L (hs.take b)++W6 dS hs b GK)++c.bZ) W v
 news:∀ (j:Nat),j∈GK↔ (j<n∧bs.getD j false=true∧ ∃ cp,hs[j]? =some (.new cp))
 stored:∀ (j:Nat) h,hs[j]? =some h→h.ah6=true→ (bs.getD j false=true↔j<b)
 ble:b≤n
theorem yJ {L R:List aF}(h:L.Perm R):(aP L).Perm (aP R):=by
 induction h with
 | nil=>exact .nil
 | cons x _ b2=>cases hk:x.key <;> simp only [aP,hk] <;> first | exact b2 | exact b2.cons _
 | swap x y l=>
   cases al:x.key <;> cases aR:y.key <;> simp only [aP,al,aR]
   all_goals first | exact .refl _ | exact .swap _ _ _
 | trans _ _ h1 ab=>exact h1.trans ab
theorem bI.perm {E L L' a W}(h:bI c E L a W)(p:L.Perm L'):bI c E L' a W:=
 h.sub (fun e he=>p.mem_iff.2 he) ((yJ p).nodup_iff.1 h.nodup)
end
class bO (P:Program) (t:TypeId) (α:Type) [ah α]:Prop where
 size:(P.info? t).map (·.size)=some (ah.size α)
 XZ:∃ d,P.underlying t=some d∧ (match d with | .struct _ | .array _ _=>true | _=>false)=ah.agg α
class dp (P:Program) (t:TypeId) {α:outParam Type} [ah α] (x:outParam α):Prop where
 zero:∃ i z,P.info? t=some i∧i.zero=some z∧ ∀ A W,(I.of x).holds A W z
theorem bO.info {P t α}[ah α](h:bO P t α):∃ i,P.info? t=some i∧i.size=ah.size α:=by
 have:=h.size;cases ao:P.info? t with
 | none=>simp [ao] at this
 | some i=>exact⟨i,rfl,by simpa [ao] using this⟩
theorem bO.isAgg {P t α}[ah α](h:bO P t α)(W:World):(isAgg t).run P W= .ok (ah.agg α) W:=by
 obtain⟨d,hd,he⟩:=h.XZ;unfold Go.isAgg;rw [Sem.run_bind,run_underlying hd W];simp only [Result.andThen_ok];cases d <;> simp_all
theorem bO.sizeOf {P t α}[ah α](h:bO P t α)(W:World):(Go.sizeOf t).run P W= .ok (ah.size α) W:=by
 obtain⟨i,ao,hs⟩:=h.info;simp [Go.sizeOf,typeInfo,ao,hs]
theorem kI (b off j:Nat):(⟨b,off,none⟩:Addr).add j=⟨b,off+j,none⟩:=by unfold Addr.add;split <;> simp_all
theorem yn {P:Program}{W:World}{b off:Nat}{cur:Array Value}{T t:TypeId}{hU:Nat×Nat}{α:Type}[ah α]{A:List Nat}{x:α}(ty:bO P t α)
 (hb:W.heap[b]? =some (.cells cur T hU)) (hs:off+ah.size α≤cur.size) (aA:ah.rep A W ((cur.toList.drop off).take (ah.size α)) x):
 ∃ v,(loadVar t ⟨b,off,none⟩).run P W= .ok v W∧ (I.of x).holds A W v:=by
 have ak:=ah.len aA
 have y6:∀ j v,((cur.toList.drop off).take (ah.size α))[j]? =some v→W.cell? ((⟨b,off,none⟩:Addr).add j)=some v:=by
  intro j v bb;rw [kI,cell_of_row W b (off+j) cur T hU hb];rw [List.getElem?_take] at bb;split at bb
  ·rw [List.getElem?_drop] at bb;simpa using bb
  cases bb
 cases aW:ah.agg α with
 | true=>
   have h1:=run_loadCells_list (P:=P) W ⟨b,off,none⟩ _ y6
   rw [ak] at h1
   refine⟨.agg ((cur.toList.drop off).take (ah.size α)).toArray,?_,?_,?_⟩
   ·simp [loadVar,Sem.run_bind,ty.isAgg,ty.sizeOf,aW,h1]
   ·simp [shaped,aW]
   simpa [Value.cells] using aA
 | false=>
   have h1:ah.size α=1:=ah.flat aW
   rw [h1] at ak
   obtain⟨v,bb⟩:=List.length_eq_one_iff.1 ak
   have ab:=y6 0 v (by rw [h1,bb];rfl)
   have ax:v.oneCell'=true:=ah.one aA v (by rw [h1,bb];simp)
   refine⟨v,?_,?_,?_⟩
   ·rw [kI,Nat.add_zero] at ab
    simp [loadVar,Sem.run_bind,ty.isAgg,aW,ab]
   ·simp [shaped,aW,ax]
   rw [cells_one ax]
   rw [h1,bb] at aA
   simpa using aA
def gY (cur:List Value)(off:Nat)(ds:List Value):List Value:=cur.take off++ds++cur.drop (off+ds.length)
theorem adx {A W v}{α:Type}[ah α]{x:α}(h:(I.of x).holds A W v):v.cells.toList.length=ah.size α∧ ∀ u∈v.cells.toList,u.oneCell'=true:=⟨ah.len h.2,ah.one h.2⟩
theorem HK {P:Program}{W:World}{b off:Nat}{cur:Array Value}{T t:TypeId}{α:Type}[ah α]{A:List Nat}{x:α}{v:Value}(ty:bO P t α)
 (hb:W.heap[b]? =some (.cells cur T (0,0))) (hs:off+ah.size α≤cur.size) (bb:(I.of x).holds A W v):
 (storeVar t ⟨b,off,none⟩ v).run P W= .ok () (W.setRow b (gY cur.toList off v.cells.toList).toArray):=by
 obtain⟨ak,h1⟩:=adx bb
 have ab:=run_storeCells_at P b off T v.cells.toList 0 cur W hb (by rw [ak];omega) h1
 have dK:v.cells.size=ah.size α:=by simpa using ak
 simp only [Nat.add_zero] at ab
 simp only [storeVar,Sem.run_bind,ty.sizeOf,Result.andThen_ok,dK]
 simp only [ne_eq,not_true_eq_false,↓reduceIte,Sem.run_pure,Sem.run_bind,Result.andThen_ok]
 simpa [gY] using ab
structure aK (β γ:Type)[ah β][ah γ] where
 off:Nat
 get:β→γ
 set:β→γ→β
 hf:off+ah.size γ≤ah.size β
 jL:∀ {A W cs b},ah.rep A W cs b→ah.rep A W ((cs.drop off).take (ah.size γ)) (get b)
 nr:∀ {A W cs b ds g},ah.rep A W cs b→ah.rep A W ds g→ah.rep A W (cs.take off++ds++cs.drop (off+ah.size γ)) (set b g)
@[reducible] def aK.id (β:Type) [ah β]:aK β β where
  off:=0
  get b:=b
  set _ g:=g
  hf:=by simp
  jL h:=by
   have:=ah.len h;rw [List.drop_zero,← this,List.take_length];exact h
  nr h bA:=by
   have h1:=ah.len h;rw [List.take_zero,List.nil_append,Nat.zero_add,← h1,List.drop_length,List.append_nil];exact bA
theorem yr (cs:List Value)(bt s1 cu s2:Nat)(h:cu+s2≤s1):(((cs.drop bt).take s1).drop cu).take s2=(cs.drop (bt+cu)).take s2:=by
 apply List.ext_getElem?;intro i;simp only [List.getElem?_take,List.getElem?_drop];split
 ·rw [if_pos (by omega)];congr 1;omega
 rfl
theorem Sb (cs ds:List Value)(bt s1 cu s2:Nat)(h:cu+s2≤s1)(ad:bt+s1≤cs.length):
 cs.take bt++(((cs.drop bt).take s1).take cu++ds++((cs.drop bt).take s1).drop (cu+s2))++cs.drop (bt+s1)=cs.take (bt+cu)++ds++cs.drop (bt+cu+s2):=by
 have ar:cs.take (bt+cu)=cs.take bt++((cs.drop bt).take s1).take cu:=by
  rw [List.take_take,Nat.min_eq_left (by omega),List.take_add]
 have aU:cs.drop (bt+cu+s2)=((cs.drop bt).take s1).drop (cu+s2)++cs.drop (bt+s1):=by
  apply List.ext_getElem?;intro i;simp only [List.getElem?_append,List.getElem?_drop,List.getElem?_take,List.length_drop,List.length_take];split
  ·rw [if_pos (by omega)];congr 1;omega
  congr 1;omega
 rw [ar,aU]
 simp only [List.append_assoc]
@[reducible] def aK.comp {α β γ:Type} [ah α] [ah β] [ah γ] (l:aK α β) (m:aK β γ):aK α γ where
  off:=l.off+m.off
  get b:=m.get (l.get b)
  set b g:=l.set b (m.set (l.get b) g)
  hf:=by have:=l.hf;have:=m.hf;omega
  jL h:=by
   have:=m.jL (l.jL h);rwa [yr _ _ _ _ _ m.hf] at this
  nr h bA:=by
   have h1:=l.nr h (m.nr (l.jL h) bA);have ab:=ah.len h;have ax:=l.hf;rwa [Sb _ _ _ _ _ _ m.hf (by omega)] at h1
def b5 {α:Type}[Inhabited α]{n:Nat}(v:Vector α n)(k:Nat):α:=v[k]?.getD default
def eb {α:Type}{n:Nat}(v:Vector α n)(k:Nat)(x:α):Vector α n:=v.setIfInBounds k x
instance {α:Type} [Inhabited α] {n:Nat} :Inhabited (Vector α n):=⟨Vector.replicate n default⟩
instance aog {α:Type} [ah α] [Inhabited α] {n:Nat} :ah (Vector α n) where
 size:=n * ah.size α
 agg:=true
 rep A W cs v:=hx A W cs v.toList
 len h:=by rw [h.1];simp
 one h:=by
  intro u hu;obtain⟨j,aB⟩:=List.mem_iff_getElem?.1 hu;have cj:=(List.getElem?_eq_some_iff.1 aB).1;have h1:=h.1;by_cases hs:ah.size α=0
  ·rw [hs,Nat.mul_zero] at h1;omega
  have hp:0<ah.size α:=Nat.pos_of_ne_zero hs;have ao:j / ah.size α<_:=(Nat.div_lt_iff_lt_mul hp).2 (by rw [h1] at cj;exact cj);refine ah.one (h.2 _ ao) u (List.mem_iff_getElem?.2 ⟨j % ah.size α,?_⟩);rw [List.getElem?_take,if_pos (Nat.mod_lt _ hp),List.getElem?_drop,Nat.mul_comm,Nat.div_add_mod];exact aB
 flat h:=by cases h
 mono e h:=h.mono e
theorem abD {α:Type}[Inhabited α]{n:Nat}(v:Vector α n){k:Nat}(h:k<n):b5 v k=v.toList[k]'(by simpa using h):=by simp [b5,h]
theorem LM {α:Type}[ah α]{A W}{cs ds:List Value}{xs:List α}{x:α}{k:Nat}(h:hx A W cs xs)(hk:k<xs.length)(hd:ah.rep A W ds x):
 hx A W (cs.take (k * ah.size α)++ds++cs.drop (k * ah.size α+ah.size α)) (xs.set k x):=by
 have ak:=h.1
 have ar7:=ah.len hd
 have hle:(k+1) * ah.size α≤xs.length * ah.size α:=Nat.mul_le_mul_right _ hk
 rw [Nat.succ_mul] at hle
 refine⟨by simp only [List.length_append,List.length_take,List.length_drop,List.length_set];omega,fun i ao=>?_⟩
 rw [List.length_set] at ao
 by_cases e:k=i
 ·subst e
  have:((cs.take (k * ah.size α)++ds++cs.drop (k * ah.size α+ah.size α)).drop (k * ah.size α)).take (ah.size α)=ds:=by
   rw [List.append_assoc,List.drop_append_of_le_length (by simp only [List.length_take];omega),List.drop_of_length_le (by simp only [List.length_take];omega),List.nil_append,
    List.take_append_of_le_length (by omega),List.take_of_length_le (by omega)]
  rw [this]
  simpa using hd
 have h1:=h.2 i ao
 have:((cs.take (k * ah.size α)++ds++cs.drop (k * ah.size α+ah.size α)).drop (i * ah.size α)).take (ah.size α)=(cs.drop (i * ah.size α)).take (ah.size α):=by
  apply List.ext_getElem?;intro j;simp only [List.getElem?_take,List.getElem?_drop];split
  ·rename_i aB;simp only [List.getElem?_append,List.length_append,List.length_take,List.getElem?_take,List.getElem?_drop];rcases Nat.lt_or_gt_of_ne e with ab | ab
   ·have:(k+1) * ah.size α≤i * ah.size α:=Nat.mul_le_mul_right _ ab;rw [Nat.succ_mul] at this;rw [if_neg (by omega)];congr 1;omega
   have:(i+1) * ah.size α≤k * ah.size α:=Nat.mul_le_mul_right _ ab;rw [Nat.succ_mul] at this;rw [if_pos (by omega),if_pos (by omega),if_pos (by omega)]
  rfl
 rw [this]
 simpa [List.getElem_set_ne e] using h1
@[reducible] def aK.idx {α:Type} [ah α] [Inhabited α] (n k:Nat) (hk:k<n):aK (Vector α n) α where
  off:=k * ah.size α
  get v:=b5 v k
  set v x:=eb v k x
  hf:=by
   show k * ah.size α+ah.size α≤n * ah.size α;rw [← Nat.succ_mul];exact Nat.mul_le_mul_right _ hk
  jL h:=by
   rename_i b;rw [abD b hk];exact h.2 k (by simpa using hk)
  nr h hd:=by
   rename_i b ds g;have:=LM h (k:=k) (by simpa using hk) hd;show hx _ _ _ (eb b k g).toList;rw [show(eb b k g).toList=b.toList.set k g by simp [eb]];exact this
def idx (n:Nat)(i:Int):Option Nat:=if 0≤i∧i<n then some i.toNat else none
theorem dq {n:Nat}{i:Int}{k:Nat}(h:idx n i=some k):k<n∧i=k:=by
 unfold idx at h;split at h
 ·rename_i ao;simp only [Option.some.injEq] at h;omega
 cases h
section
variable {c:cF} {E:List (Nat×I)} {L:List aF} {ops:Array Oper} {Q:Exit→Act→World→Prop}
variable {d:Option Tmp} {ty:TypeId} {pos:String} {af:Array Edge} {g:Option (Nat×Bool)}
theorem cG {x:Operand}{τ:I}(h:aN c E L x τ):bc c E L ⟨d,.move x,ty,pos,af,g⟩ τ:= .pure fun a W s=>⟨_,rfl,h a W s⟩
theorem c5 {x:Operand}{τ:I}(h:aN c E L x τ):bc c E L ⟨d,.assign x,ty,pos,af,g⟩ τ:= .pure fun a W s=>⟨_,rfl,h a W s⟩
theorem vl {x y:Operand}{b e:Bool}{p:Prop}(al:aN c E L x (.of b))(aR:aN c E L y (.cond p (.of e)))(hp:b=false→p):
 bc c E L ⟨d,.pick x (.const (.bool true)) y,ty,pos,af,g⟩ (.of (b||e)):= .pure fun a W s=>by
 have h1:=of_bool.1 (al a W s)
 cases b with
 | true=>exact⟨.bool true,by simp only [execOp,h1,asBool];rfl,of_bool.2 rfl⟩
 | false=>
   have ab:=of_bool.1 ((aR a W s).1 (hp rfl))
   exact⟨.bool e,by simp [execOp,asBool,h1,ab],of_bool.2 rfl⟩
theorem y2 {x y:Operand}{b e:Bool}{p:Prop}(al:aN c E L x (.of b))(aR:aN c E L y (.cond p (.of e)))(hp:b=true→p):
 bc c E L ⟨d,.pick x y (.const (.bool false)),ty,pos,af,g⟩ (.of (b&&e)):= .pure fun a W s=>by
 have h1:=of_bool.1 (al a W s)
 cases b with
 | false=>exact⟨.bool false,by simp only [execOp,h1,asBool];rfl,of_bool.2 rfl⟩
 | true=>
   have ab:=of_bool.1 ((aR a W s).1 (hp rfl))
   exact⟨.bool e,by simp [execOp,asBool,h1,ab],of_bool.2 rfl⟩
theorem sG {x:Operand}{b:Bool}{t:TypeId}(al:aN c E L x (.of b)):bc c E L ⟨d,.unOp .not t x,ty,pos,af,g⟩ (.of (!b)):= .pure fun a W s=>
 ⟨.bool (!b),by simp [execOp,Op.unary,of_bool.1 (al a W s)],of_bool.2 rfl⟩
theorem gz {x:Operand}{t:TypeId}{i p o:Nat}{β γ:Type}[ah β][ah γ]{b:β}(l:aK β γ){r:γ}(dP:bO c.P t γ)(al:aN c E L x (.eq (.pointer (some ⟨p,o,none⟩))))
 (aq:L[i]? =some ⟨some p,.var b⟩) (bg:o=l.off) (aA:l.get b=r):bc c E L ⟨d,.load t x,ty,pos,af,g⟩ (.of r):= .pure fun a W s=>by
 subst bg
 subst aA
 obtain⟨qz,e7,cs,T,rfl,gZ⟩:=s.own _ (List.mem_of_getElem? aq)
 have h1:cs.toList.length=ah.size β:=ah.len gZ
 obtain⟨v,ab,ax⟩:=yn (A:=aP L++c.bZ) dP e7 (by have:=l.hf;simp at h1;omega) (l.jL gZ)
 refine⟨v,?_,ax⟩
 have aO:a.eval x=_:=al a W s
 simp [execOp,Instr.loadAt,Instr.sureAddr,aO,ab]
theorem k9 {x:Operand}{t:TypeId}{γ:Type}[ah γ]{r:γ}(dP:bO c.P t γ)(al:aN c E L x (.ptr r)):bc c E L ⟨d,.load t x,ty,pos,af,g⟩ (.of r):= .pure fun a W s=>by
 obtain⟨b,off,cur,T,hU,aO,hb,bQ,hs,aA⟩:=al a W s;obtain⟨v,ab,ax⟩:=yn dP bQ hs aA;exact⟨v,by simp [execOp,Instr.loadAt,Instr.sureAddr,aO,ab],ax⟩
structure xv (P:Program)(s:TypeId)(f o:Nat):Prop where
 at_:∃ fs fd i,P.underlying s=some (.struct fs)∧fs[f]? =some fd∧fd.offset=o∧P.info? fd.type=some i∧i.size≠0
theorem RA {P:Program}{s:TypeId}{f o:Nat}(h:xv P s f o)(p off:Nat)(W:World):
 (Instr.fieldAt s (.pointer (some ⟨p,off,none⟩)) f).run P W= .ok (.pointer (some ⟨p,off+o,none⟩)) W:=by
 obtain⟨fs,fd,i,h1,ab,ax,aO,a7⟩:=h.at_
 simp [Instr.fieldAt,run_underlying h1,ab,Instr.sureAddr,fieldPlace,Go.sizeOf,typeInfo,aO,a7,kI,ax]
theorem bY {x:Operand}{s f o p off:Nat}(fd:xv c.P s f o)(al:aN c E L x (.eq (.pointer (some ⟨p,off,none⟩)))):
 bc c E L ⟨d,.fieldAddr s x f,ty,pos,af,g⟩ (.eq (.pointer (some ⟨p,off+o,none⟩))):= .pure fun a W st=>by
 have aO:a.eval x=_:=al a W st
 exact⟨_,by simp [execOp,aO,RA fd],rfl⟩
theorem y1 {x:Operand}{s f o:Nat}{β γ:Type}[ah β][ah γ]{b:β}(l:aK β γ){r:γ}(fd:xv c.P s f o)(al:aN c E L x (.ptr b))(bg:l.off=o)(aA:l.get b=r):
 bc c E L ⟨d,.fieldAddr s x f,ty,pos,af,g⟩ (.ptr r):= .pure fun a W st=>by
 subst bg
 subst aA
 obtain⟨q,off,cur,T,hU,aO,hb,bQ,hs,gZ⟩:=al a W st
 refine⟨.pointer (some ⟨q,off+l.off,none⟩),by simp [execOp,aO,RA fd],q,off+l.off,cur,T,hU,rfl,hb,bQ,by have:=l.hf;omega,?_⟩
 have:=l.jL gZ
 rwa [yr _ _ _ _ _ l.hf] at this
class o3 (P:Program) (t:TypeId) (n s:outParam Nat):Prop where
 at_:∃ e i,P.underlying t=some (.array n e)∧P.info? e=some i∧i.size=s
theorem abc {P:Program}{t n s:Nat}(h:o3 P t n s)(p off:Nat)(k:Nat)(hk:k<n)(W:World):
 (Instr.indexAt t (.pointer (some ⟨p,off,none⟩)) (.int .i64 (k:Int))).run P W= .ok (.pointer (some ⟨p,off+k * s,none⟩)) W:=by
 obtain⟨e,i,h1,ab,ax⟩:=h.at_
 simp [Instr.indexAt,asIntOf,run_underlying h1,Instr.sureAddr,Go.sizeOf,typeInfo,ab,ax,hk,kI]
theorem kz {x y:Operand}{t n s p off:Nat}{i:Int}{k:Nat}(GL:o3 c.P t n s)(al:aN c E L x (.eq (.pointer (some ⟨p,off,none⟩))))(aR:aN c E L y (.of i))(hk:k<n∧i=k):
 bc c E L ⟨d,.indexAddr t x y,ty,pos,af,g⟩ (.eq (.pointer (some ⟨p,off+k * s,none⟩))):= .pure fun a W st=>by
 have aO:a.eval x=_:=al a W st
 have a7:=of_int.1 (aR a W st)
 obtain⟨bl,rfl⟩:=hk
 exact⟨_,by simp [execOp,aO,a7,abc GL p off k bl],rfl⟩
theorem J.alloc {t:TypeId}{rest:List Oper}{ba:Nat}{α:Type}[ah α]{z:α}(gU:dp c.P t z)(aH:Nat.blt ba c.n=true)
 (k:∀ p,J c ops Q rest ((ba,.eq (.pointer (some ⟨p,0,none⟩)))::E) (⟨some p,.var z⟩::L)):J c ops Q (⟨some ba,.alloc t,ty,pos,af,none⟩::rest) E L:=fun a W s=>by
 obtain⟨i,dY,h1,ab,ax⟩:=gU.zero
 refine iP rfl (R:=fun v W'=>v= .pointer (some ⟨W.heap.size,0,none⟩)∧W'=W.alloc (.cells dY.cells t)) (.mv ?_ ⟨rfl,rfl⟩) fun v W' ⟨bb,hw⟩=>?_
 ·simp [execOp,Instr.alloc,zeroValue,typeInfo,h1,ab,newVar,newRow]
 subst bb
 subst hw
 exact k _ _ _ ((s.alloc (cp:= .var z) ⟨dY.cells,t,rfl,(ax _ _).2⟩).put (by simpa using aH) rfl)
theorem J.box {t:TypeId}{x:Operand}{rest:List Oper}{ba:Nat}{α:Type}[ah α]{z:α}(al:aN c E L x (.of z))(aH:Nat.blt ba c.n=true)
 (k:∀ p,J c ops Q rest ((ba,.eq (.pointer (some ⟨p,0,none⟩)))::E) (⟨some p,.var z⟩::L)):J c ops Q (⟨some ba,.box t x,ty,pos,af,none⟩::rest) E L:=fun a W s=>by
 refine iP rfl (R:=fun v W'=>v= .pointer (some ⟨W.heap.size,0,none⟩)∧W'=W.alloc (.cells (a.eval x).cells t)) (.mv ?_ ⟨rfl,rfl⟩) fun v W' ⟨bb,hw⟩=>?_
 ·simp [execOp,Instr.box,newVar,newRow]
 subst bb
 subst hw
 exact k _ _ _ ((s.alloc (cp:= .var z) ⟨_,t,rfl,(al a W s).2⟩).put (by simpa using aH) rfl)
theorem J.store {x y:Operand}{t:TypeId}{rest:List Oper}{i p o:Nat}{β γ:Type}[ah β][ah γ]{b b':β}{v:γ}(l:aK β γ)(dP:bO c.P t γ)(al:aN c E L x (.eq (.pointer (some ⟨p,o,none⟩))))
 (aR:aN c E L y (.of v)) (aq:L[i]? =some ⟨some p,.var b⟩) (bg:o=l.off) (hb:l.set b v=b')
 (k:J c ops Q rest E (L.set i ⟨some p,.var b'⟩)):J c ops Q (⟨none,.store t x y,ty,pos,af,none⟩::rest) E L:=fun a W s=>by
 subst bg
 subst hb
 obtain⟨qz,e7,cs,T,rfl,gZ⟩:=s.own _ (List.mem_of_getElem? aq)
 have h1:cs.toList.length=ah.size β:=ah.len gZ
 have fT:=l.hf
 have bb:=aR a W s
 have ab:=HK (A:=aP L++c.bZ) dP e7 (off:=l.off) (by simp at h1;omega) bb
 have aO:a.eval x=_:=al a W s
 refine iP rfl (R:=fun v W'=>W'=W.setRow p (gY cs.toList l.off (a.eval y).cells.toList).toArray) (.Bv ?_ rfl) fun v W' hw=>?_
 ·simp [execOp,Instr.storeAt,Instr.sureAddr,aO,ab]
 subst hw
 refine k _ _ (s.store aq e7 ?_)
 refine⟨_,T,rfl,?_⟩
 have:=l.nr gZ bb.2
 simpa [gY,ah.len bb.2] using this
def iJ (c:cF)(E:List (Nat×I))(L:List aF):List Operand→List I→Prop
 | [],[]=>True
 | x::xs,τ::τs=>aN c E L x τ∧iJ c E L xs τs
 | _,_=>False
theorem iJ.holds:∀ {xs:List Operand} {τs:List I},iJ c E L xs τs→ ∀ a W,bI c E L a W→ho (aP L++c.bZ) W τs (xs.map a.eval)
 | [],[],_,_,_,_=>.nil
 | x::xs,τ::τs,h,a,W,s=>.cons (h.1 a W s) (h.2.holds a W s)
 | [],_::_,h,_,_,_=>h.elim
 | _::_,[],h,_,_,_=>h.elim
structure bM (P:Program)(f:FuncId):Prop where
 at_:∃ fn,P.funcs[f]? =some fn∧fn.body.isNone=false∧ (fn.name== "runtime.NumGoroutine")=false
theorem bM.run {P:Program}{f:FuncId}(h:bM P f)(args:Array Value)(W:World):(callFunc f args).run P W= .ok (.enter f args) W:=by
 obtain⟨fn,h1,ab,ax⟩:=h.at_;simp only [callFunc,Sem.run_bind,run_program,Result.andThen_ok,h1,ax,ab];rfl
theorem la {f:FuncId}{xs:List Operand}{ats:Array TypeId}{τs:List I}{ρ:I}(cn:bM c.P f)(h:dZ c.P f τs ρ)(al:iJ c E L xs τs):
 bc c E L ⟨d,.call ⟨.value (.func f),xs.toArray,ats⟩,ty,pos,af,g⟩ ρ:=fun a W s=>by
 refine .wL (f:=f) (args:=(xs.map a.eval).toArray) (W':=W) ?_ (h _ W _ s.IS (al.holds a W s))
 simp [execOp,resolve,Deferred.ofValue,Act.eval,invoke,cn.run]
theorem tz {P:Program}{W:World}{t off:Nat}{cs:Array Value}{α:Type}[ah α]{A:List Nat}{x:α}(ty:bO P t α)(hs:off+ah.size α≤cs.size)
 (aA:ah.rep A W ((cs.toList.drop off).take (ah.size α)) x):∃ v,(part t cs off).run P W= .ok v W∧ (I.of x).holds A W v:=by
 have ak:=ah.len aA
 cases aW:ah.agg α with
 | true=>
   refine⟨.agg (cs.extract off (off+ah.size α)),?_,?_,?_⟩
   ·simp [part,ty.isAgg,ty.sizeOf,aW]
   ·simp [shaped,aW]
   simpa [Value.cells,List.extract,Array.toList_extract] using aA
 | false=>
   have h1:ah.size α=1:=ah.flat aW
   have cj:off<cs.size:=by omega
   have ab:(cs.toList.drop off).take (ah.size α)= [cs[off]]:=by
    rw [h1];apply List.ext_getElem?;intro j;rw [List.getElem?_take,List.getElem?_drop];cases j with
    | zero=>simp [cj]
    | succ j=>simp
   rw [ab] at aA
   have ax:cs[off].oneCell'=true:=ah.one aA _ (by simp)
   refine⟨cs[off],?_,?_,?_⟩
   ·simp [part,ty.isAgg,aW,cj]
   ·simp [shaped,aW,ax]
   rw [cells_one ax];simpa using aA
structure Kw (P:Program)(s f t o:Nat):Prop where
 at_:∃ fs fd,P.underlying s=some (.struct fs)∧fs[f]? =some fd∧fd.offset=o∧fd.type=t
theorem L5 {x:Operand}{s f t o:Nat}{β γ:Type}[ah β][ah γ]{b:β}(l:aK β γ){r:γ}(YO:Kw c.P s f t o)(dP:bO c.P t γ)(aW:ah.agg β=true)(al:aN c E L x (.of b))(bg:l.off=o)(aA:l.get b=r):
 bc c E L ⟨d,.field s x f,ty,pos,af,g⟩ (.of r):= .pure fun a W st=>by
 subst bg
 subst aA
 obtain⟨h1,ab⟩:=al a W st
 simp only [shaped,aW,if_true] at h1
 obtain⟨cs,s5⟩:=h1
 obtain⟨fs,fd,ax,aO,a7,bl⟩:=YO.at_
 rw [s5] at ab
 simp only [Value.cells] at ab
 have ak:cs.toList.length=ah.size β:=ah.len ab
 obtain⟨v,cN,cW⟩:=tz (A:=aP L++c.bZ) (P:=c.P) (W:=W) (cs:=cs) (off:=l.off) dP (by have:=l.hf;simp at ak;omega) (l.jL ab)
 refine⟨v,?_,cW⟩
 simp [execOp,Instr.field,run_underlying ax,aO,s5,asAgg,a7,bl,cN]
theorem Tw {x y:Operand}{t e n:Nat}{i:Int}{k:Nat}{α:Type}[ah α][Inhabited α]{v:Vector α n}(hu:c.P.underlying t=some (.array n e))(dP:bO c.P e α)(al:aN c E L x (.of v))(aR:aN c E L y (.of i))(hk:k<n∧i=k):
 bc c E L ⟨d,.index t x y,ty,pos,af,g⟩ (.of (b5 v k)):= .pure fun a W st=>by
 obtain⟨h1,ab⟩:=al a W st
 obtain⟨cs,s5⟩:∃ cs,a.eval x= .agg cs:=by simpa [shaped,ah.agg] using h1
 have a7:=of_int.1 (aR a W st)
 obtain⟨bl,rfl⟩:=hk
 rw [s5] at ab
 simp only [Value.cells] at ab
 have ak:cs.toList.length=n * ah.size α:=ah.len ab
 have fT:=(aK.idx (α:=α) n k bl).hf
 obtain⟨u,cN,cW⟩:=tz (A:=aP L++c.bZ) (P:=c.P) (W:=W) (cs:=cs) (off:=k * ah.size α) dP
  (by
   have:k * ah.size α+ah.size α≤n * ah.size α:=fT;simp at ak;omega) ((aK.idx (α:=α) n k bl).jL ab)
 refine⟨u,?_,cW⟩
 simp [execOp,Instr.index,asIntOf,run_underlying hu,s5,a7,bl,dP.sizeOf,cN]
theorem VP {x:Operand}{i:Nat}{τs:List I}{τ:I}(al:aN c E L x (.bP τs))(ao:τs[i]? =some τ):bc c E L ⟨d,.extract x i,ty,pos,af,g⟩ τ:= .pure fun a W st=>by
 obtain⟨vs,h1,ab⟩:=al a W st;have get:∀ {τs:List I} {vs:List Value},ho (aP L++c.bZ) W τs vs→ ∀ (i:Nat) (τ:I),τs[i]? =some τ→ ∃ v,vs[i]? =some v∧τ.holds (aP L++c.bZ) W v:=by
  intro τs vs h;induction h with
  | nil=>intro i τ h;simp at h
  | cons h1 _ b2=>
    intro i τ h
    cases i with
    | zero=>simp only [List.getElem?_cons_zero,Option.some.injEq] at h;subst h;exact⟨_,rfl,h1⟩
    | succ i=>simp only [List.getElem?_cons_succ] at h ⊢;exact b2 i τ h
 obtain⟨v,ax,aO⟩:=get ab i τ ao;refine⟨v,?_,aO⟩;have a7:vs[i]? =some v:=by simpa using ax
 simp [execOp,Instr.extract,h1,a7]
end
def bk (x:Int):Int:=IntKind.i64.wrap x
theorem gA {x:Int}(h: -9223372036854775808≤x)(cL:x≤9223372036854775807):bk x=x:=by
 unfold bk;rw [IntKind.wrap_i64];omega
def tY (a b:Int):Option Int:=if b=0 then none else some (a.tmod b)
theorem acF {a b r:Int}(h:tY a b=some r):b≠0∧a.tmod b=r:=by unfold tY at h;split at h <;> simp_all
theorem wrap_u64 (n:Int):IntKind.u64.wrap n=n % 18446744073709551616:=by simp [IntKind.wrap,IntKind.signed,IntKind.bits]
theorem aeG (P:Program)(W:World)(k P4:IntKind)(a b:Int)(h:0≤b):(Op.shift .shl k a P4 b).run P W= .ok (.int k (k.wrap (a * 2 ^ min b.toNat k.bits))) W:=by
 unfold Op.shift;rw [if_neg (by omega)];rfl
theorem aeH (P:Program)(W:World)(k P4:IntKind)(a b:Int)(h:0≤b):(Op.shift .shr k a P4 b).run P W= .ok (.int k (a.fdiv (2 ^ min b.toNat k.bits))) W:=by
 unfold Op.shift;rw [if_neg (by omega)];rfl
section
variable {c:cF} {E:List (Nat×I)} {L:List aF}
variable {d:Option Tmp} {ty:TypeId} {pos:String} {af:Array Edge} {g:Option (Nat×Bool)} {x y:Operand} {t t2:TypeId}
theorem j6 {a b:Int}(al:aN c E L x (.of a))(aR:aN c E L y (.of b)):bc c E L ⟨d,.binOp .add t x y t2,ty,pos,af,g⟩ (.of (bk (a+b))):= .pure fun A W s=>
 ⟨.int .i64 (bk (a+b)),by simp [execOp,eqGuard,binOp,Op.intArith,of_int.1 (al A W s),of_int.1 (aR A W s),bk],of_int.2 rfl⟩
theorem sH {a b:Int}(al:aN c E L x (.of a))(aR:aN c E L y (.of b)):bc c E L ⟨d,.binOp .sub t x y t2,ty,pos,af,g⟩ (.of (bk (a - b))):= .pure fun A W s=>
 ⟨.int .i64 (bk (a - b)),by simp [execOp,eqGuard,binOp,Op.intArith,of_int.1 (al A W s),of_int.1 (aR A W s),bk],of_int.2 rfl⟩
theorem ah7 {a b:Int}(al:aN c E L x (.of a))(aR:aN c E L y (.of b)):bc c E L ⟨d,.binOp .mul t x y t2,ty,pos,af,g⟩ (.of (bk (a * b))):= .pure fun A W s=>
 ⟨.int .i64 (bk (a * b)),by simp [execOp,eqGuard,binOp,Op.intArith,of_int.1 (al A W s),of_int.1 (aR A W s),bk],of_int.2 rfl⟩
theorem ah8 {a b r:Int}(al:aN c E L x (.of a))(aR:aN c E L y (.of b))(h:b≠0∧a.tmod b=r):bc c E L ⟨d,.binOp .rem t x y t2,ty,pos,af,g⟩ (.of r):= .pure fun A W s=>
 ⟨.int .i64 r,by obtain⟨h1,rfl⟩:=h;simp [execOp,eqGuard,binOp,Op.intDiv,of_int.1 (al A W s),of_int.1 (aR A W s),h1],of_int.2 rfl⟩
theorem sF {a b:Int}(al:aN c E L x (.of a))(aR:aN c E L y (.of b)):bc c E L ⟨d,.binOp .lss t x y t2,ty,pos,af,g⟩ (.of (decide (a<b))):= .pure fun A W s=>
 ⟨.bool (decide (a<b)),by simp only [execOp,eqGuard,binOp,of_int.1 (al A W s),of_int.1 (aR A W s)];rfl,of_bool.2 rfl⟩
theorem Vv {a b:Int}(al:aN c E L x (.of a))(aR:aN c E L y (.of b)):bc c E L ⟨d,.binOp .leq t x y t2,ty,pos,af,g⟩ (.of (decide (a≤b))):= .pure fun A W s=>
 ⟨.bool (decide (a≤b)),by simp only [execOp,eqGuard,binOp,of_int.1 (al A W s),of_int.1 (aR A W s)];rfl,of_bool.2 rfl⟩
theorem BR {a b:Int}(al:aN c E L x (.of a))(aR:aN c E L y (.of b)):bc c E L ⟨d,.binOp .gtr t x y t2,ty,pos,af,g⟩ (.of (decide (a>b))):= .pure fun A W s=>
 ⟨.bool (decide (a>b)),by simp only [execOp,eqGuard,binOp,of_int.1 (al A W s),of_int.1 (aR A W s)];rfl,of_bool.2 rfl⟩
theorem Nt {a b:Int}(al:aN c E L x (.of a))(aR:aN c E L y (.of b)):bc c E L ⟨d,.binOp .geq t x y t2,ty,pos,af,g⟩ (.of (decide (a≥b))):= .pure fun A W s=>
 ⟨.bool (decide (a≥b)),by simp only [execOp,eqGuard,binOp,of_int.1 (al A W s),of_int.1 (aR A W s)];rfl,of_bool.2 rfl⟩
theorem sC {a b:Int}(al:aN c E L x (.of a))(aR:aN c E L y (.of b)):bc c E L ⟨d,.binOp .eql t x y t2,ty,pos,af,g⟩ (.of (a==b)):= .pure fun A W s=>
 ⟨.bool (a==b),by simp only [execOp,eqGuard,binOp,of_int.1 (al A W s),of_int.1 (aR A W s)];rfl,of_bool.2 rfl⟩
theorem u9 {a b:Int}(al:aN c E L x (.of a))(aR:aN c E L y (.of b)):bc c E L ⟨d,.binOp .neq t x y t2,ty,pos,af,g⟩ (.of (a !=b)):= .pure fun A W s=>
 ⟨.bool (a !=b),by simp only [execOp,eqGuard,binOp,of_int.1 (al A W s),of_int.1 (aR A W s)];rfl,of_bool.2 rfl⟩
theorem Ve {a b:Bool}(hu:c.P.underlying t=some .bool)(al:aN c E L x (.of a))(aR:aN c E L y (.of b)):bc c E L ⟨d,.binOp .neq t x y t2,ty,pos,af,g⟩ (.of (a !=b)):= .pure fun A W s=>
 ⟨.bool (a !=b),by
   simp only [execOp,eqGuard,binOp,of_bool.1 (al A W s),of_bool.1 (aR A W s),Op.equal,Op.maxDepth];simp [run_equalIn_bool' W 9999 t a b hu,bne],of_bool.2 rfl⟩
theorem U5 {a b:Int}{ats:Array TypeId}(al:aN c E L x (.of a))(aR:aN c E L y (.of b)):bc c E L ⟨d,.call ⟨.builtin .min,#[x,y],ats⟩,ty,pos,af,g⟩ (.of (min a b)):= .pure fun A W s=>
 ⟨.int .i64 (min a b),by
   simp [execOp,resolve,invoke,builtin,Builtin.min_,Builtin.min2,of_int.1 (al A W s),of_int.1 (aR A W s)];split <;> omega,of_int.2 rfl⟩
theorem U4 {a b:Int}{ats:Array TypeId}(al:aN c E L x (.of a))(aR:aN c E L y (.of b)):bc c E L ⟨d,.call ⟨.builtin .max,#[x,y],ats⟩,ty,pos,af,g⟩ (.of (max a b)):= .pure fun A W s=>
 ⟨.int .i64 (max a b),by
   simp [execOp,resolve,invoke,builtin,Builtin.max_,Builtin.max2,of_int.1 (al A W s),of_int.1 (aR A W s)];split <;> omega,of_int.2 rfl⟩
theorem ah9 (a:BitVec 8):(a.toNat:Int)<256:=by have:=a.isLt;omega
theorem aia {a:BitVec 8}{src dst:TypeId}{e:TypeDesc}(hs:c.P.underlying src=some e)(hd:c.P.underlying dst=some (.int .i64))(al:aN c E L x (.of a)):bc c E L ⟨d,.convert src dst x,ty,pos,af,g⟩ (.of (a.toNat:Int)):= .pure fun A W s=>
 ⟨.int .i64 a.toNat,by
   have h:IntKind.i64.wrap (a.toNat:Int)=(a.toNat:Int):=gA (by omega) (by have:=ah9 a;omega);simp only [execOp,convert,Sem.run_bind,run_underlying hs,run_underlying hd,ah5.1 (al A W s),Conv.intToInt,Result.andThen_ok,h];rfl,of_int.2 rfl⟩
theorem EY (a:BitVec 64):(a.toNat:Int)<18446744073709551616:=by have:=a.isLt;omega
theorem ofInt_u64 (a:BitVec 64):BitVec.ofInt 64 (a.toNat:Int)=a:=by simp
theorem aeI (a b:BitVec 64):IntKind.u64.wrap ((a.toNat:Int)+(b.toNat:Int))=((a+b).toNat:Int):=by rw [wrap_u64,BitVec.toNat_add];omega
theorem aeJ {a b:BitVec 64}(al:aN c E L x (.of a))(aR:aN c E L y (.of b)):bc c E L ⟨d,.binOp .add t x y t2,ty,pos,af,g⟩ (.of (a+b)):= .pure fun A W s=>
 ⟨.int .u64 (a+b).toNat,by simp [execOp,eqGuard,binOp,Op.intArith,h8.1 (al A W s),h8.1 (aR A W s),aeI],h8.2 rfl⟩
theorem aeK (a b:BitVec 64):IntKind.u64.wrap ((a.toNat:Int) - (b.toNat:Int))=((a - b).toNat:Int):=by rw [wrap_u64,BitVec.toNat_sub];have:=EY a;have:=EY b;omega
theorem aeL {a b:BitVec 64}(al:aN c E L x (.of a))(aR:aN c E L y (.of b)):bc c E L ⟨d,.binOp .sub t x y t2,ty,pos,af,g⟩ (.of (a - b)):= .pure fun A W s=>
 ⟨.int .u64 (a - b).toNat,by simp [execOp,eqGuard,binOp,Op.intArith,h8.1 (al A W s),h8.1 (aR A W s),aeK],h8.2 rfl⟩
theorem Tt {a b:BitVec 64}(al:aN c E L x (.of a))(aR:aN c E L y (.of b)):bc c E L ⟨d,.binOp .and t x y t2,ty,pos,af,g⟩ (.of (a&&&b)):= .pure fun A W s=>
 ⟨.int .u64 (a&&&b).toNat,by
   simp only [execOp,eqGuard,binOp,h8.1 (al A W s),h8.1 (aR A W s)];have h:IntKind.u64.wrap ((a&&&b).toNat:Int)=((a&&&b).toNat:Int):=by rw [wrap_u64];have:=EY (a&&&b);omega
   rw [← h];conv=>rhs;rw [← ofInt_u64 a,← ofInt_u64 b]
   rfl,h8.2 rfl⟩
theorem afY {a b:BitVec 64}(al:aN c E L x (.of a))(aR:aN c E L y (.of b)):bc c E L ⟨d,.binOp .or t x y t2,ty,pos,af,g⟩ (.of (a|||b)):= .pure fun A W s=>
 ⟨.int .u64 (a|||b).toNat,by
   simp only [execOp,eqGuard,binOp,h8.1 (al A W s),h8.1 (aR A W s)];have h:IntKind.u64.wrap ((a|||b).toNat:Int)=((a|||b).toNat:Int):=by rw [wrap_u64];have:=EY (a|||b);omega
   rw [← h];conv=>rhs;rw [← ofInt_u64 a,← ofInt_u64 b]
   rfl,h8.2 rfl⟩
theorem aeM {a b:BitVec 64}(al:aN c E L x (.of a))(aR:aN c E L y (.of b)):bc c E L ⟨d,.binOp .xor t x y t2,ty,pos,af,g⟩ (.of (a ^^^ b)):= .pure fun A W s=>
 ⟨.int .u64 (a ^^^ b).toNat,by
   simp only [execOp,eqGuard,binOp,h8.1 (al A W s),h8.1 (aR A W s)];have h:IntKind.u64.wrap ((a ^^^ b).toNat:Int)=((a ^^^ b).toNat:Int):=by rw [wrap_u64];have:=EY (a ^^^ b);omega
   rw [← h];conv=>rhs;rw [← ofInt_u64 a,← ofInt_u64 b]
   rfl,h8.2 rfl⟩
theorem aeN (a:BitVec 64)(n:Nat):IntKind.u64.wrap ((a.toNat:Int) * 2 ^ min n 64)=((a <<< n).toNat:Int):=by
 rw [wrap_u64,BitVec.toNat_shiftLeft,Nat.shiftLeft_eq];rcases Nat.lt_or_ge n 64 with h | h
 ·rw [Nat.min_eq_left (by omega)];simp
 rw [Nat.min_eq_right h];have e:(a.toNat * 2 ^ n) % 2 ^ 64=0:=by
  rw [show n=64+(n - 64) by omega,Nat.pow_add];exact Nat.mod_eq_zero_of_dvd ⟨a.toNat * 2 ^ (n - 64),by rw [← Nat.mul_assoc,Nat.mul_comm a.toNat,Nat.mul_assoc]⟩
 rw [e];have aU:(2:Int) ^ 64=18446744073709551616:=by decide
 rw [aU];omega
theorem aeO (a:BitVec 64)(n:Nat):(a.toNat:Int).fdiv (2 ^ min n 64)=((a >>> n).toNat:Int):=by
 rw [BitVec.toNat_ushiftRight,Nat.shiftRight_eq_div_pow];have e:∀ m:Nat,(a.toNat:Int).fdiv (2 ^ m)=((a.toNat / 2 ^ m:Nat):Int):=by
  intro m;rw [show((2:Int) ^ m)=((2 ^ m:Nat):Int) by simp];rw [Int.fdiv_eq_ediv_of_nonneg _ (Int.natCast_nonneg _)];exact(Int.natCast_ediv _ _).symm
 rw [e];rcases Nat.lt_or_ge n 64 with h | h
 ·rw [Nat.min_eq_left (by omega)]
 rw [Nat.min_eq_right h];have h1:a.toNat / 2 ^ 64=0:=Nat.div_eq_of_lt a.isLt;have ab:a.toNat / 2 ^ n=0:=Nat.div_eq_of_lt (Nat.lt_of_lt_of_le a.isLt (Nat.pow_le_pow_right (by omega) h));rw [h1,ab]
theorem aeP {a:BitVec 64}{b:BitVec 64}(al:aN c E L x (.of a))(aR:aN c E L y (.of b)):bc c E L ⟨d,.binOp .shl t x y t2,ty,pos,af,g⟩ (.of (a <<< b.toNat)):= .pure fun A W s=>
 ⟨.int .u64 (a <<< b.toNat).toNat,by
   simp only [execOp,eqGuard,binOp,h8.1 (al A W s),h8.1 (aR A W s)];have h:=aeG c.P W .u64 .u64 a.toNat b.toNat (by omega);simp only [Int.toNat_natCast,IntKind.bits,aeN] at h;exact congrArg (fun r:Result Value=>r.andThen fun v w=>.ok (Next.value v) w) h,h8.2 rfl⟩
theorem aeQ {a:BitVec 64}{b:BitVec 64}(al:aN c E L x (.of a))(aR:aN c E L y (.of b)):bc c E L ⟨d,.binOp .shr t x y t2,ty,pos,af,g⟩ (.of (a >>> b.toNat)):= .pure fun A W s=>
 ⟨.int .u64 (a >>> b.toNat).toNat,by
   simp only [execOp,eqGuard,binOp,h8.1 (al A W s),h8.1 (aR A W s)];have h:=aeH c.P W .u64 .u64 a.toNat b.toNat (by omega);simp only [Int.toNat_natCast,IntKind.bits,aeO] at h;exact congrArg (fun r:Result Value=>r.andThen fun v w=>.ok (Next.value v) w) h,h8.2 rfl⟩
theorem aeR {a b:BitVec 64}(al:aN c E L x (.of a))(aR:aN c E L y (.of b)):bc c E L ⟨d,.binOp .lss t x y t2,ty,pos,af,g⟩ (.of (decide (a<b))):= .pure fun A W s=>
 ⟨.bool (decide (a<b)),by
   simp only [execOp,eqGuard,binOp,h8.1 (al A W s),h8.1 (aR A W s)];have h:decide ((a.toNat:Int)<(b.toNat:Int))=decide (a<b):=by simp [BitVec.lt_def,BitVec.le_def]
   rw [← h];rfl,of_bool.2 rfl⟩
theorem aeS {a b:BitVec 64}(al:aN c E L x (.of a))(aR:aN c E L y (.of b)):bc c E L ⟨d,.binOp .eql t x y t2,ty,pos,af,g⟩ (.of (a==b)):= .pure fun A W s=>
 ⟨.bool (a==b),by
   simp only [execOp,eqGuard,binOp,h8.1 (al A W s),h8.1 (aR A W s)];have h:((a.toNat:Int)==(b.toNat:Int))=(a==b):=by
    rw [Bool.eq_iff_iff];simp [bne];exact⟨fun h=>BitVec.eq_of_toNat_eq (by omega),fun h=>by rw [h]⟩
   rw [← h];rfl,of_bool.2 rfl⟩
theorem aeT {a b:BitVec 64}(al:aN c E L x (.of a))(aR:aN c E L y (.of b)):bc c E L ⟨d,.binOp .neq t x y t2,ty,pos,af,g⟩ (.of (a !=b)):= .pure fun A W s=>
 ⟨.bool (a !=b),by
   simp only [execOp,eqGuard,binOp,h8.1 (al A W s),h8.1 (aR A W s)];have h:((a.toNat:Int) !=(b.toNat:Int))=(a !=b):=by
    rw [Bool.eq_iff_iff];simp [bne];exact⟨fun h=>fun e=>h (by rw [e]),fun h=>by intro e;exact h (BitVec.eq_of_toNat_eq (by omega))⟩
   rw [← h];rfl,of_bool.2 rfl⟩
theorem Ug {a:Int}{src dst:TypeId}{e:TypeDesc}(hs:c.P.underlying src=some e)(hd:c.P.underlying dst=some (.int .u64))(al:aN c E L x (.of a)):bc c E L ⟨d,.convert src dst x,ty,pos,af,g⟩ (.of (BitVec.ofInt 64 a)):= .pure fun A W s=>
 ⟨.int .u64 (BitVec.ofInt 64 a).toNat,by
   have h:IntKind.u64.wrap a=((BitVec.ofInt 64 a).toNat:Int):=by rw [wrap_u64,BitVec.toNat_ofInt];omega
   simp [execOp,convert,run_underlying hs,run_underlying hd,of_int.1 (al A W s),Conv.intToInt,h],h8.2 rfl⟩
theorem afZ {a:BitVec 64}{src dst:TypeId}{e:TypeDesc}(hs:c.P.underlying src=some e)(hd:c.P.underlying dst=some (.int .i64))(al:aN c E L x (.of a)):bc c E L ⟨d,.convert src dst x,ty,pos,af,g⟩ (.of (bk a.toNat)):= .pure fun A W s=>
 ⟨.int .i64 (bk a.toNat),by
   simp only [execOp,convert,Sem.run_bind,run_underlying hs,run_underlying hd,h8.1 (al A W s),Conv.intToInt,Result.andThen_ok];rfl,of_int.2 rfl⟩
end
def yU (tmps:Array Value):ResultVar→Sem Value
 | .tmp t=>pure (tmps.getD t undef)
 | .cell a t=>do loadVar t (← asAddr (tmps.getD a undef))
theorem yx (fn:Func)(tmps:Array Value):results fn tmps=(do
 let vs ← fn.results.mapM (yU tmps)
 pure (if h:vs.size=1 then vs[0] else .tuple vs)):=by
 unfold results
 congr 1
section
variable {c:cF} {E:List (Nat×I)} {L:List aF} {ops:Array Oper} {Q:Exit→Act→World→Prop}
def pW (c:cF)(E:List (Nat×I))(L:List aF)(r:ResultVar)(τ:I):Prop:=
 ∀ a W,bI c E L a W→ ∃ v,(yU a.tmps r).run c.P W= .ok v W∧τ.holds c.bZ W v
theorem Jy {t:Nat}{τ:I}(h:look E t=some τ):pW c E L (.tmp t) τ:=fun a W s=>by
 obtain⟨v,h1,ab⟩:=s.env t τ h;exact⟨v,by simp [yU,h1],RM ab⟩
theorem W7 {t:Nat}{ty:TypeId}{i p:Nat}{α:Type}[ah α]{x:α}(dP:bO c.P ty α)(h:look E t=some (.eq (.pointer (some ⟨p,0,none⟩))))(aq:L[i]? =some ⟨some p,.var x⟩):pW c E L (.cell t ty) (.of x):=fun a W s=>by
 obtain⟨v,h1,ab⟩:=s.env t _ h;subst ab;obtain⟨qz,e7,cs,T,rfl,gZ⟩:=s.own _ (List.mem_of_getElem? aq);have ak:cs.toList.length=ah.size α:=ah.len gZ;have dK:cs.size=ah.size α:=by simpa using ak
 obtain⟨v,ax,aO⟩:=yn (A:=aP L++c.bZ) (off:=0) dP e7 (by omega) (by rw [List.drop_zero,← ak,List.take_length];exact gZ);exact⟨v,by simp [yU,h1,asAddr,ax],RM aO⟩
def tZ (c:cF)(ρ:I):Ending→World→Prop:=fun e W'=> ∃ v,e= .returned v∧Fr c.X c.jY W'∧ρ.holds c.bZ W' v
theorem aj.W8 {fn:Func}{r:ResultVar}{τ:I}(aA:fn.results= #[r])(h:pW c E L r τ)(eC:c.ds= []:=by rfl):aj c (bodyPost c.P fn (tZ c τ)) .ret E L:=fun a W s=>by
 obtain⟨v,h1,ab⟩:=h a W s;exact⟨s.yG eC,v,by simp [yx,aA,h1],v,rfl,s.dO,ab⟩
theorem aj.akw {fn:Func}{r gH:ResultVar}{τ oi:I}(aA:fn.results= #[r,gH])(h:pW c E L r τ)(ab:pW c E L gH oi)(eC:c.ds= []:=by rfl):aj c (bodyPost c.P fn (tZ c (.bP [τ,oi]))) .ret E L:=fun a W s=>by
 obtain⟨v,ax,aO⟩:=h a W s;obtain⟨v2,a7,bl⟩:=ab a W s;exact⟨s.yG eC,.tuple #[v,v2],by simp [yx,aA,ax,a7],_,rfl,s.dO,_,rfl,.cons aO (.cons bl .nil)⟩
theorem aj.WE {fn:Func}{r gH qA:ResultVar}{τ oi F1:I}(aA:fn.results= #[r,gH,qA])(h:pW c E L r τ)(ab:pW c E L gH oi)(ax:pW c E L qA F1)(eC:c.ds= []:=by rfl):aj c (bodyPost c.P fn (tZ c (.bP [τ,oi,F1]))) .ret E L:=fun a W s=>by
 obtain⟨v,aO,a7⟩:=h a W s;obtain⟨v2,bl,cN⟩:=ab a W s;obtain⟨v3,cW,c0⟩:=ax a W s;exact⟨s.yG eC,.tuple #[v,v2,v3],by simp [yx,aA,aO,bl,cW],_,rfl,s.dO,_,rfl,.cons a7 (.cons cN (.cons c0 .nil))⟩
theorem dZ.of {P:Program}{f:FuncId}{fn:Func}{code:Code}{n:Nat}{τs:List I}{ρ:I}(aT:P.funcs[f]? =some fn)(hb:fn.body=some code)(aH:fn.ntmps=n)(hlen:Nat.ble τs.length n=true)
 (h:∀ W A,aw ⟨P,n,W,[],A,none,[]⟩ (bodyPost P fn (tZ ⟨P,n,W,[],A,none,[]⟩ ρ)) code (params 0 τs) []):dZ P f τs ρ:=dZ.enter aT hb aH hlen h
end
structure ma (P:Program)(t:TypeId)(α:Type)[ah α][DecidableEq α](k:Nat):Prop where
 run:∀ d,k≤d→ ∀ A W u v (x y:α),(I.of x).holds A W u→ (I.of y).holds A W v→ (Op.equalIn d t u v).run P W= .ok (decide (x=y)) W
theorem TD {P t K}(h:P.underlying t=some (.int K)):ma P t Int 1 where
 run d hd A W u v x y al aR:=by
  obtain⟨d,rfl⟩:∃ e,d=e+1:=⟨d - 1,by omega⟩;rw [of_int.1 al,of_int.1 aR,run_equalIn_int W d t .i64 K x y h];congr 1
theorem aeU {P t K}(h:P.underlying t=some (.int K)):ma P t (BitVec 64) 1 where
 run d hd A W u v x y al aR:=by
  obtain⟨d,rfl⟩:∃ e,d=e+1:=⟨d - 1,by omega⟩;rw [h8.1 al,h8.1 aR,run_equalIn_int W d t .u64 K _ _ h];congr 1;rw [Bool.eq_iff_iff];simp only [beq_iff_eq,decide_eq_true_eq];exact⟨fun h=>BitVec.eq_of_toNat_eq (by omega),fun h=>by rw [h]⟩
theorem ady {P t}(h:P.underlying t=some .bool):ma P t Bool 1 where
 run d hd A W u v x y al aR:=by
  obtain⟨d,rfl⟩:∃ e,d=e+1:=⟨d - 1,by omega⟩;rw [of_bool.1 al,of_bool.1 aR,run_equalIn_bool' W d t x y h];congr 1
theorem La {P:Program}{W:World}(f:Nat→Sem Bool)(p:Nat→Bool):∀ (l:List Nat),(∀ i∈l,(f i).run P W= .ok (p i) W)→
 (forIn (m:=Sem) l ((none,()):Option Bool×Unit) (fun i _=>do
  let __do_lift ← f i
  if (!__do_lift)=true then pure (ForInStep.done (some false,())) else
   pure (ForInStep.yield (none,())))).run P W= .ok (if l.all p then(none,()) else(some false,())) W
 | [],_=>by simp
 | i::r,h=>by
   have h1:=h i (by simp);have ab:=La (P:=P) (W:=W) f p r (fun j aB=>h j (by simp [aB]));cases hp:p i with
   | false=>simp [List.forIn_cons,h1,hp]
   | true=>
     rw [List.forIn_cons]
     simp only [Sem.run_bind,h1,hp,Result.andThen_ok,Bool.not_true,Bool.false_eq_true,if_false,Sem.run_pure]
     rw [ab]
     simp [hp]
theorem TE {P t e n k}{α:Type}[ah α][Inhabited α][DecidableEq α](h:P.underlying t=some (.array n e))(eH:bO P e α)(he:ma P e α k):ma P t (Vector α n) (k+1) where
 run d hd A W u v x y al aR:=by
  obtain⟨d,rfl⟩:∃ e,d=e+1:=⟨d - 1,by omega⟩;obtain⟨h1,ab⟩:=al;obtain⟨ax,aO⟩:=aR;obtain⟨xs,rfl⟩:∃ cs,u= .agg cs:=by simpa [shaped,ah.agg] using h1
  obtain⟨ys,rfl⟩:∃ cs,v= .agg cs:=by simpa [shaped,ah.agg] using ax
  simp only [Value.cells] at ab aO;have vK:xs.toList.length=n * ah.size α:=ah.len ab;have F2:ys.toList.length=n * ah.size α:=ah.len aO;have vf:∀ i∈List.range' 0 n,((do
   let a ← part e xs (i * ah.size α)
   let b ← part e ys (i * ah.size α)
   Op.equalIn d e a b):Sem Bool).run P W= .ok (decide (b5 x i=b5 y i)) W:=by
   intro i ao
   have hF:i<n:=by simpa using ao
   have fT:i * ah.size α+ah.size α≤n * ah.size α:=(aK.idx (α:=α) n i hF).hf
   obtain⟨a,aW,vL⟩:=tz (A:=A) (P:=P) (W:=W) (cs:=xs) (off:=i * ah.size α) eH (by simp at vK;omega) ((aK.idx (α:=α) n i hF).jL ab)
   obtain⟨b,hb,F3⟩:=tz (A:=A) (P:=P) (W:=W) (cs:=ys) (off:=i * ah.size α) eH (by simp at F2;omega) ((aK.idx (α:=α) n i hF).jL aO)
   simp only [Sem.run_bind,aW,hb,Result.andThen_ok]
   exact he.run d (by omega) A W a b _ _ vL F3
  have aT:=La (P:=P) (W:=W) _ _ _ vf;have pB:(List.range' 0 n).all (fun i=>decide (b5 x i=b5 y i))=decide (x=y):=by
   rw [Bool.eq_iff_iff,List.all_eq_true,decide_eq_true_eq];constructor
   ·intro h;apply Vector.ext;intro i ao;have:=h i (by simpa using ao);simpa [b5,ao] using this
   rintro rfl i _;simp
  rw [pB] at aT;simp only [Op.equalIn,Sem.run_bind,run_underlying h,Result.andThen_ok,eH.sizeOf,Std.Legacy.Range.forIn_eq_forIn_range'];simp only [Std.Legacy.Range.size,Nat.sub_zero,Nat.add_one_sub_one,Nat.div_one] at aT ⊢;simp only [bind_assoc] at aT;rw [aT];by_cases F4:x=y
  ·simp [F4]
  simp [F4]
section
variable {c:cF} {E:List (Nat×I)} {L:List aF} {ops:Array Oper} {Q:Exit→Act→World→Prop}
variable {d:Option Tmp} {ty:TypeId} {pos:String} {af:Array Edge} {g:Option (Nat×Bool)} {x y:Operand} {t t2:TypeId}
theorem Vk {α:Type}[ah α][DecidableEq α]{k:Nat}{a b:α}(ux:ma c.P t α k)(hk:Nat.ble k 10000=true)(bA:c.P.eqGuardType c.P.depth t=false)(aW:ah.agg α=true)(al:aN c E L x (.of a))(aR:aN c E L y (.of b)):
 bc c E L ⟨d,.binOp .eql t x y t2,ty,pos,af,g⟩ (.of (decide (a=b))):= .pure fun A W s=>by
 have h1:=al A W s
 have ab:=aR A W s
 obtain⟨xs,oV⟩:∃ cs,A.eval x= .agg cs:=by simpa [shaped,aW] using h1.1
 obtain⟨ys,xw⟩:∃ cs,A.eval y= .agg cs:=by simpa [shaped,aW] using ab.1
 have ax:=ux.run 10000 (Nat.le_of_ble_eq_true hk) _ W _ _ a b h1 ab
 rw [oV,xw] at ax
 refine⟨.bool (decide (a=b)),?_,of_bool.2 rfl⟩
 simp only [execOp,oV,xw,Sem.run_bind,run_eqGuard_agg W .eql t x y xs ys bA,Result.andThen_ok,run_eql_struct,ax,Sem.run_pure]
theorem NB {α:Type}[ah α][DecidableEq α]{k:Nat}{a b:α}(ux:ma c.P t α k)(hk:Nat.ble k 10000=true)(bA:c.P.eqGuardType c.P.depth t=false)(aW:ah.agg α=true)(al:aN c E L x (.of a))(aR:aN c E L y (.of b)):
 bc c E L ⟨d,.binOp .neq t x y t2,ty,pos,af,g⟩ (.of (!decide (a=b))):= .pure fun A W s=>by
 have h1:=al A W s
 have ab:=aR A W s
 obtain⟨xs,oV⟩:∃ cs,A.eval x= .agg cs:=by simpa [shaped,aW] using h1.1
 obtain⟨ys,xw⟩:∃ cs,A.eval y= .agg cs:=by simpa [shaped,aW] using ab.1
 have ax:=ux.run 10000 (Nat.le_of_ble_eq_true hk) _ W _ _ a b h1 ab
 rw [oV,xw] at ax
 refine⟨.bool (!decide (a=b)),?_,of_bool.2 rfl⟩
 simp only [execOp,oV,xw,Sem.run_bind,run_eqGuard_agg W .neq t x y xs ys bA,Result.andThen_ok,run_neq_struct,ax,Sem.run_pure]
end
theorem EL {P:Program}{W:World}{d:Nat}{xs ys:Array Value} :(Op.eqFields d xs ys []).run P W= .ok true W:=rfl
theorem pc {P:Program}{A:List Nat}{W:World}{d:Nat}{xs ys:Array Value}{β γ:Type}[ah β][ah γ][DecidableEq γ](l:aK β γ){P5 P6:β}{fd:Field}{fs:List Field}{k:Nat}{r:Bool}(eH:bO P fd.type γ)(bg:fd.offset=l.off)(aH:(fd.name== "_")=false)
 (ux:ma P fd.type γ k) (hd:k≤d) (al:ah.rep A W xs.toList P5) (aR:ah.rep A W ys.toList P6) (aA:(Op.eqFields d xs ys fs).run P W= .ok r W):
 (Op.eqFields d xs ys (fd::fs)).run P W= .ok (decide (l.get P5=l.get P6)&&r) W:=by
 have vK:xs.toList.length=ah.size β:=ah.len al
 have F2:ys.toList.length=ah.size β:=ah.len aR
 have fT:=l.hf
 obtain⟨a,aW,vL⟩:=tz (A:=A) (P:=P) (W:=W) (cs:=xs) (off:=l.off) eH (by simp at vK;omega) (l.jL al)
 obtain⟨b,hb,F3⟩:=tz (A:=A) (P:=P) (W:=W) (cs:=ys) (off:=l.off) eH (by simp at F2;omega) (l.jL aR)
 have pM:fd.name≠ "_" :=fun e=>by rw [e] at aH;simp at aH
 simp only [Op.eqFields,if_pos pM,Sem.run_bind,bg,aW,hb,Result.andThen_ok,ux.run d hd A W a b _ _ vL F3]
 by_cases h:l.get P5=l.get P6
 ·simp [h,aA]
 simp [h]
theorem Ev {P:Program}{t:TypeId}{β:Type}[ah β][DecidableEq β]{k:Nat}{fs:Array Field}(aW:ah.agg β=true)(hu:P.underlying t=some (.struct fs))(hp:P.stoodInHeld t=false)
 (h:∀ d,k≤d→ ∀ A W (xs ys:Array Value) (x y:β),ah.rep A W xs.toList x→ah.rep A W ys.toList y→ (Op.eqFields d xs ys fs.toList).run P W= .ok (decide (x=y)) W):ma P t β (k+1) where
 run d hd A W u v x y al aR:=by
  obtain⟨d,rfl⟩:∃ e,d=e+1:=⟨d - 1,by omega⟩;obtain⟨xs,rfl⟩:∃ cs,u= .agg cs:=by simpa [shaped,aW] using al.1
  obtain⟨ys,rfl⟩:∃ cs,v= .agg cs:=by simpa [shaped,aW] using aR.1
  have aT:P.fieldsOf t=fs:=by simp [Program.fieldsOf,hu]
  rw [run_equalIn_struct W d t xs ys (by rw [aT];exact hu) hp,aT];exact h d (by omega) A W xs ys x y (by simpa [Value.cells] using al.2) (by simpa [Value.cells] using aR.2)
theorem Rs {P:Program}{W:World}(fs:Array Field)(h:fs.all (fun f=>(P.info? f.type).isSome)=true):
 (fs.mapM (m:=Sem) fun f=>do pure (f.offset,← Go.sizeOf f.type)).run P W= .ok (fs.map fun f=>(f.offset,P.cellsOf f.type)) W:=by
 obtain⟨l⟩:=fs
 have key:∀ (l:List Field),l.all (fun f=>(P.info? f.type).isSome)=true→ (l.mapM (m:=Sem) fun f=>do pure (f.offset,← Go.sizeOf f.type)).run P W= .ok (l.map fun f=>(f.offset,P.cellsOf f.type)) W:=by
  intro l;induction l with
  | nil=>intro _;rfl
  | cons f r b2=>
    intro h
    simp only [List.all_cons,Bool.and_eq_true] at h
    obtain⟨i,ao⟩:=Option.isSome_iff_exists.1 h.1
    rw [List.mapM_cons]
    simp only [Sem.run_bind,Go.sizeOf,typeInfo,run_program,Result.andThen_ok,ao,Sem.run_pure]
    have:=b2 h.2
    simp only [Sem.run_bind,Go.sizeOf,typeInfo] at this
    rw [this]
    simp [Program.cellsOf,ao]
 have cL:l.all (fun f=>(P.info? f.type).isSome)=true:=by simpa using h
 rw [List.mapM_toArray]
 simp only [Sem.run_map,key l cL,Result.andThen_ok]
 simp
theorem abE (ds:List Value)(off:Nat):∀ (j:Nat) (cs:Array Value),off+j+ds.length≤cs.size→
 (ds.zipIdx j).foldl (fun cs (c,j)=>cs.setIfInBounds (off+j) c) cs=(cs.toList.take (off+j)++ds++cs.toList.drop (off+j+ds.length)).toArray:=by
 induction ds with
 | nil=>intro j cs _;simp
 | cons v r b2=>
   intro j cs h
   simp only [List.length_cons] at h
   rw [List.zipIdx_cons,List.foldl_cons,b2 (j+1) _ (by simp;omega)]
   simp only [Array.toList_setIfInBounds]
   have:=list_seg_step cs.toList (off+j) v r (by simp;omega)
   rw [show off+(j+1)=off+j+1 by omega]
   simp only [List.length_cons]
   rw [this]
theorem Ii {place:Nat→Option (Nat×Nat)}{cs:Array Value}{i off sz:Nat}{v:Value}{rest:List (Nat×Value)}(hp:place i=some (off,sz))(bb:v.cells.size=sz)(hle:off+sz≤cs.size):
 Instr.fill place cs ((i,v)::rest)=Instr.fill place (gY cs.toList off v.cells.toList).toArray rest:=by
 simp only [Instr.fill,hp]
 rw [if_neg (by simp [bb];omega)]
 have:=abE v.cells.toList off 0 cs (by simp [bb];omega)
 simp only [Nat.add_zero] at this
 congr 1
 rw [← Array.foldl_toList]
 have bF:(v.cells.zipIdx).toList=v.cells.toList.zipIdx:=by simp
 rw [bF,this]
 simp [gY]
section
variable {c:cF} {E:List (Nat×I)} {L:List aF} {ops:Array Oper} {Q:Exit→Act→World→Prop}
variable {d:Option Tmp} {ty:TypeId} {pos:String} {af:Array Edge} {g:Option (Nat×Bool)} {x y:Operand} {t t2:TypeId}
inductive sJ (c:cF)(E:List (Nat×I))(L:List aF)(place:Nat→Option (Nat×Nat)){β:Type}[ah β]:β→List (Nat×Operand)→β→Prop
 | nil {b} :sJ c E L place b [] b
 | cons {b dJ b':β} {γ:Type} [ah γ] {v:γ} {i:Nat} {x:Operand} {r:List (Nat×Operand)} (l:aK β γ):place i=some (l.off,ah.size γ)→aN c E L x (.of v)→l.set b v=dJ→sJ c E L place dJ r b'→sJ c E L place b ((i,x)::r) b'
theorem sJ.run {place:Nat→Option (Nat×Nat)}{β:Type}[ah β]{b b':β}{dS:List (Nat×Operand)}(h:sJ c E L place b dS b'):∀ a W,bI c E L a W→ ∀ cs:Array Value,ah.rep (aP L++c.bZ) W cs.toList b→
 ∃ eP,Instr.fill place cs (dS.map fun(i,x)=>(i,a.eval x))=some eP∧ah.rep (aP L++c.bZ) W eP.toList b':=by
 induction h with
 | nil=>intro a W s cs aA;exact⟨cs,rfl,aA⟩
 | @cons b dJ b' γ _ v i x r l h1 ab ax _ b2=>
   intro a W s cs aA
   subst ax
   have bb:=ab a W s
   have dK:(a.eval x).cells.size=ah.size γ:=by have:=ah.len bb.2;simpa using this
   have ak:cs.toList.length=ah.size β:=ah.len aA
   have fT:=l.hf
   rw [List.map_cons,Ii h1 dK (by simp at ak;omega)]
   refine b2 a W s _ ?_
   have:=l.nr aA bb.2
   simpa [gY,ah.len bb.2] using this
class fX (P:Program) (t:TypeId) (pl:outParam (Array (Nat×Nat))):Prop where
 at_:∃ fs,P.underlying t=some (.struct fs)∧fs.all (fun f=>(P.info? f.type).isSome)=true∧ (fs.map fun f=>(f.offset,P.cellsOf f.type))=pl
theorem kg {β:Type}[ah β]{z b:β}{dS:List (Nat×Operand)}{pl:Array (Nat×Nat)}(aW:ah.agg β=true)(GM:fX c.P t pl)(gU:dp c.P t z)
 (aT:sJ c E L (pl[·]?) z dS b):bc c E L ⟨d,.build t dS.toArray,ty,pos,af,g⟩ (.of b):= .pure fun a W s=>by
 obtain⟨fs,hu,hs,rfl⟩:=GM.at_
 obtain⟨i,dY,h1,ab,ax⟩:=gU.zero
 obtain⟨eP,aO,a7⟩:=aT.run a W s dY.cells (ax _ _).2
 refine⟨.agg eP,?_,by simp [shaped,aW],by simpa [Value.cells] using a7⟩
 have hm:(dS.toArray.map fun(x:Nat×Operand)=>(x.1,a.eval x.2)).toList=dS.map fun(i,x)=>(i,a.eval x):=by simp
 simp only [execOp,Instr.build,Sem.run_bind,zeroValue,typeInfo,run_program,Result.andThen_ok,h1,ab,Sem.run_pure,run_underlying hu,Rs fs hs]
 rw [hm,aO]
 rfl
theorem adp {β:Type}[ah β]{z b:β}{dS:List (Nat×Operand)}{n e sz:Nat}(aW:ah.agg β=true)(hu:c.P.underlying t=some (.array n e))(hs:(c.P.info? e).map (·.size)=some sz)(gU:dp c.P t z)
 (aT:sJ c E L (fun i=>some (i * sz,sz)) z dS b):bc c E L ⟨d,.build t dS.toArray,ty,pos,af,g⟩ (.of b):= .pure fun a W s=>by
 obtain⟨i,dY,h1,ab,ax⟩:=gU.zero
 obtain⟨gP,ej,dK⟩:∃ gP,c.P.info? e=some gP∧gP.size=sz:=by
  cases ao:c.P.info? e with
  | none=>simp [ao] at hs
  | some gP=>exact⟨gP,rfl,by simpa [ao] using hs⟩
 obtain⟨eP,aO,a7⟩:=aT.run a W s dY.cells (ax _ _).2
 refine⟨.agg eP,?_,by simp [shaped,aW],by simpa [Value.cells] using a7⟩
 have hm:(dS.toArray.map fun(x:Nat×Operand)=>(x.1,a.eval x.2)).toList=dS.map fun(i,x)=>(i,a.eval x):=by simp
 simp only [execOp,Instr.build,Sem.run_bind,zeroValue,typeInfo,run_program,Result.andThen_ok,h1,ab,Sem.run_pure,run_underlying hu,Go.sizeOf,ej,dK]
 rw [hm,aO]
 rfl
end
def qB {α:Type}[ah α](A:List Nat)(W:World)(v:Value)(xs:List α):Prop:=
 (v= .slice none 0 0∧xs= [])∨
 ∃ b off cap cur T hU,v= .slice (some ⟨b,off,none⟩) xs.length cap∧b ∉ A∧W.heap[b]? =some (.cells cur T hU)∧xs.length≤cap∧xs.length≤maxLen∧off+xs.length * ah.size α≤cur.size∧
   hx A W ((cur.toList.drop off).take (xs.length * ah.size α)) xs
theorem qB.mono {α:Type}[ah α]{A W cM W' v}{xs:List α}(e:Ext A W cM W')(h:qB A W v xs):qB cM W' v xs:=by
 rcases h with h | ⟨b,off,cap,cur,T,hU,h1,ab,ax,aO,a7,bl,cN⟩
 ·exact .inl h
 have cj:b<W.heap.size:=(Array.getElem?_eq_some_iff.1 ax).1;exact .inr ⟨b,off,cap,cur,T,hU,h1,fun hm=>ab (e.new b hm cj),by rw [e.block b cj ab];exact ax,aO,a7,bl,cN.mono e⟩
instance aoh {α:Type} [ah α]:ah (List α) where
 size:=1
 agg:=false
 rep A W cs xs:= ∃ v,cs= [v]∧qB A W v xs
 len h:=by obtain⟨v,rfl,_⟩:=h;rfl
 one h:=by
  obtain⟨v,rfl,h⟩:=h;intro u hu;rw [List.mem_singleton.1 hu];rcases h with⟨rfl,_⟩ | ⟨b,off,cap,cur,T,hU,rfl,_⟩ <;> rfl
 flat _:=rfl
 mono e h:=let⟨v,h1,ab⟩:=h; ⟨v,h1,ab.mono e⟩
theorem qB.one {α:Type}[ah α]{A W v}{xs:List α}(h:qB A W v xs):v.oneCell'=true:=by
 rcases h with⟨rfl,_⟩ | ⟨b,off,cap,cur,T,hU,rfl,_⟩ <;> rfl
theorem pf {α:Type}[ah α]{A W v}{xs:List α} :(I.of xs).holds A W v↔qB A W v xs:=by
 constructor
 ·rintro ⟨h1,u,ab,ax⟩;have:v=u:=nV h1 ab;rw [this];exact ax
 intro h;exact⟨h.one,v,by rw [cells_one h.one],h⟩
def au {α:Type}[Inhabited α](xs:List α)(k:Nat):α:=xs[k]?.getD default
theorem dm {α:Type}[Inhabited α](xs:List α){k:Nat}(h:k<xs.length):au xs k=xs[k]:=by simp [au,h]
def l3 {α:Type}(xs:List α)(lo ao:Int):Option (List α):=if 0≤lo∧lo≤ao∧ao≤xs.length then some ((xs.drop lo.toNat).take (ao.toNat - lo.toNat)) else none
theorem abF {α:Type}{xs r:List α}{lo ao:Int}(h:l3 xs lo ao=some r):∃ a b:Nat,lo=a∧ao=b∧a≤b∧b≤xs.length∧r=(xs.drop a).take (b - a):=by
 unfold l3 at h;split at h
 ·rename_i ad;simp only [Option.some.injEq] at h;exact⟨lo.toNat,ao.toNat,by omega,by omega,by omega,by omega,h.symm⟩
 cases h
def eA {α:Type}(bytes:Nat)(xs ys:List α):Option (List α):=if (xs.length+ys.length) * bytes≤140737488355328∧xs.length+ys.length≤maxLen then some (xs++ys) else none
theorem Sc {α:Type}{bytes:Nat}{xs ys r:List α}(h:eA bytes xs ys=some r):(xs.length+ys.length) * bytes≤140737488355328∧xs.length+ys.length≤maxLen∧r=xs++ys:=by
 unfold eA at h;split at h
 ·rename_i ad;simp only [Option.some.injEq] at h;exact⟨ad.1,ad.2,h.symm⟩
 cases h
section
variable {c:cF} {E:List (Nat×I)} {L:List aF} {ops:Array Oper} {Q:Exit→Act→World→Prop}
variable {d:Option Tmp} {ty:TypeId} {pos:String} {af:Array Edge} {g:Option (Nat×Bool)} {x y:Operand} {t t2:TypeId}
theorem look_nil {α:Type}[ah α]:aN c E L (.const (.slice none 0 0)) (.of ([]:List α)):=fun _ _ _=>pf.2 (.inl ⟨rfl,rfl⟩)
theorem qB.len {α:Type}[ah α]{A W v}{xs:List α}(h:qB A W v xs):∃ a cap,v= .slice a xs.length cap:=by
 rcases h with⟨rfl,rfl⟩ | ⟨b,off,cap,cur,T,hU,rfl,_⟩
 ·exact⟨none,0,rfl⟩
 exact⟨_,_,rfl⟩
theorem qb {α:Type}[ah α]{xs:List α}{e:TypeId}(hu:c.P.underlying t=some (.slice e))(al:aN c E L x (.of xs)):bc c E L ⟨d,.call ⟨.builtin .len,#[x],#[t]⟩,ty,pos,af,g⟩ (.of (xs.length:Int)):= .pure fun a W s=>by
 obtain⟨b,cap,h1⟩:=(pf.1 (al a W s)).len;exact⟨.int .i64 xs.length,by simp [execOp,resolve,invoke,builtin,Builtin.len_,h1,run_underlying hu,goInt],of_int.2 rfl⟩
theorem rN {α:Type}[ah α][Inhabited α]{xs:List α}{e:TypeId}{i:Int}{k:Nat}(hu:c.P.underlying t=some (.slice e))(eH:bO c.P e α)(al:aN c E L x (.of xs))(aR:aN c E L y (.of i))(hk:k<xs.length∧i=k):
 bc c E L ⟨d,.indexAddr t x y,ty,pos,af,g⟩ (.ptr (au xs k)):= .pure fun a W s=>by
 obtain⟨bl,rfl⟩:=hk
 have a7:=of_int.1 (aR a W s)
 rcases pf.1 (al a W s) with⟨_,rfl⟩ | ⟨b,off,cap,cur,T,hU,h1,ab,ax,aO,cN,cW,c0⟩
 ·simp at bl
 obtain⟨gP,ej,dK⟩:=eH.info
 have hle:(k+1) * ah.size α≤xs.length * ah.size α:=Nat.mul_le_mul_right _ bl
 rw [Nat.succ_mul] at hle
 refine⟨.pointer (some ⟨b,off+k * ah.size α,none⟩),?_,b,off+k * ah.size α,cur,T,hU,rfl,ab,ax,by omega,?_⟩
 ·simp [execOp,Instr.indexAt,asIntOf,run_underlying hu,h1,a7,bl,Go.sizeOf,typeInfo,ej,dK,kI]
 have:=c0.2 k bl
 rw [yr _ _ _ _ _ hle] at this
 rw [dm xs bl]
 exact this
theorem rz {P:Program}{W:World}{v:Value}{k:IntKind}{n m:Nat}{code:BoundsCode}(h:n≤m)(bb:v= .int k n):(Instr.sliceBound v m code).run P W= .ok n W:=by
 subst bb;have bq:(n:Int)≤ (m:Int):=by omega
 simp [Instr.sliceBound,asIntOf,h]
theorem aeV {α:Type}[ah α]{A W}{xs:List α}{b off cap:Nat}{cur:Array Value}{T:TypeId}{hU:Nat×Nat}{lo ao:Nat}(ab:b ∉ A)(ax:W.heap[b]? =some (.cells cur T hU))(aO:xs.length≤cap)(cN:xs.length≤maxLen)
 (cW:off+xs.length * ah.size α≤cur.size) (c0:hx A W ((cur.toList.drop off).take (xs.length * ah.size α)) xs) (h:lo≤ao) (cL:ao≤xs.length):
 qB A W (.slice (some (if cap=lo then⟨b,off,none⟩ else⟨b,off+lo * ah.size α,none⟩)) (ao - lo) (cap - lo)) ((xs.drop lo).take (ao - lo)):=by
 have ak:((xs.drop lo).take (ao - lo)).length=ao - lo:=by simp;omega
 have hm:ao * ah.size α≤xs.length * ah.size α:=Nat.mul_le_mul_right _ cL
 have sZ:lo * ah.size α≤ao * ah.size α:=Nat.mul_le_mul_right _ h
 have hd:(ao - lo) * ah.size α=ao * ah.size α - lo * ah.size α:=Nat.sub_mul _ _ _
 by_cases e:cap=lo
 ·subst e
  have bq:ao=cap:=by omega
  subst bq
  refine .inr ⟨b,off,ao - ao,cur,T,hU,by simp,ab,ax,by simp,by simp,by simp;omega,?_⟩
  simp only [Nat.sub_self,List.take_zero,List.length_nil,Nat.zero_mul]
  exact⟨by simp,fun i ao=>by simp at ao⟩
 rw [if_neg e]
 refine .inr ⟨b,off+lo * ah.size α,cap - lo,cur,T,hU,by rw [ak],ab,ax,by omega,by omega,by rw [ak];omega,?_⟩
 rw [ak]
 refine⟨by simp only [ak,List.length_take,List.length_drop];simp;omega,fun i hF=>?_⟩
 rw [ak] at hF
 have lU:=c0.2 (lo+i) (by omega)
 have hle:(lo+i+1) * ah.size α≤xs.length * ah.size α:=Nat.mul_le_mul_right _ (by omega)
 have JF:(i+1) * ah.size α≤ (ao - lo) * ah.size α:=Nat.mul_le_mul_right _ (by omega)
 rw [Nat.succ_mul] at hle JF
 rw [yr _ _ _ _ _ hle] at lU
 rw [yr _ _ _ _ _ JF]
 have:((xs.drop lo).take (ao - lo))[i]'(by rw [ak];exact hF)=xs[lo+i]:=by simp
 rw [this]
 rw [show off+lo * ah.size α+i * ah.size α=off+(lo+i) * ah.size α by rw [Nat.add_mul];omega]
 exact lU
inductive xM (c:cF)(E:List (Nat×I))(L:List aF):Option Operand→Int→Int→Prop
 | none {n} :xM c E L .none n n
 | some {x i n} :aN c E L x (.of (i:Int))→xM c E L (.some x) i n
theorem yI {α:Type}[ah α]{xs r:List α}{e:TypeId}{lo ao:Option Operand}{i j:Int}(hu:c.P.underlying t=some (.slice e))(eH:bO c.P e α)(al:aN c E L x (.of xs))(hg:xM c E L lo i 0)(gr:xM c E L ao j xs.length)
 (h:l3 xs i j=some r):bc c E L ⟨d,.slice t x lo ao none,ty,pos,af,g⟩ (.of r):= .pure fun a W s=>by
 obtain⟨m,n,rfl,rfl,vC,aH,rfl⟩:=abF h
 obtain⟨gP,ej,dK⟩:=eH.info
 rcases pf.1 (al a W s) with⟨h1,rfl⟩ | ⟨b,off,cap,cur,T,hU,h1,ab,ax,aO,cN,cW,c0⟩
 ·have ui:n=0:=by simpa using aH
  have ih:m=0:=by omega
  subst ui
  subst ih
  refine⟨.slice none 0 0,?_,pf.2 (.inl ⟨rfl,by simp⟩)⟩
  have aq:(match lo.map a.eval with | some v=>Instr.sliceBound v 0 .sliceB | none=>pure 0:Sem Nat).run c.P W= .ok 0 W:=by
   cases hg with
   | none=>rfl
   | some ak=>exact rz (Nat.le_refl _) (of_int.1 (ak a W s))
  have hH:(match ao.map a.eval,(none:Option Value) with | some v,some _=>Instr.sliceBound v 0 .slice3B | some v,none=>Instr.sliceBound v 0 .sliceAcap | none,none=>pure 0 | none,some _=>stuck "Slice: max without high" :Sem Nat).run c.P W= .ok 0 W:=by
   cases gr with
   | none=>rfl
   | some ak=>exact rz (Nat.le_refl _) (of_int.1 (ak a W s))
  cases hg <;> cases gr
  all_goals
   simp only [execOp,Instr.sliceAt,Instr.slice,Instr.sliceBounds,h1,Sem.run_bind,run_underlying hu,Result.andThen_ok,Option.map_none,Option.map_some,Option.isSome_none,Bool.false_eq_true,if_false,if_true,Sem.run_pure] at aq hH ⊢
   try simp only [aq,hH,Result.andThen_ok,Go.sizeOf,typeInfo,Sem.run_bind,run_program,ej,Sem.run_pure]
   try simp [ej]
 refine⟨.slice (some (if cap=m then⟨b,off,none⟩ else⟨b,off+m * ah.size α,none⟩)) (n - m) (cap - m),?_,pf.2 (aeV ab ax aO cN cW c0 vC aH)⟩
 have aq:∀ v,v=Value.int .i64 m→ (Instr.sliceBound v n .sliceB).run c.P W= .ok m W:=fun v bb=>rz vC bb
 have hH:∀ v,v=Value.int .i64 n→ (Instr.sliceBound v cap .sliceAcap).run c.P W= .ok n W:=fun v bb=>rz (by omega) bb
 have xe:(if cap=m then(some ⟨b,off,none⟩:Option Addr) else(some (Addr.add ⟨b,off,none⟩ (m * ah.size α))))=some (if cap=m then⟨b,off,none⟩ else⟨b,off+m * ah.size α,none⟩):=by
  split <;> simp [kI]
 generalize fT:(n:Int)=YP at gr
 generalize vM:(m:Int)=YQ at hg
 generalize F5:(xs.length:Int)=YR at gr
 generalize X0:(0:Int)=YS at hg
 cases hg with
 | none=>
   have ih:m=0:=by omega
   cases gr with
   | none=>
     have lA:n=xs.length:=by omega
     subst lA
     subst ih
     simp [execOp,Instr.sliceAt,Instr.slice,Instr.sliceBounds,h1,run_underlying hu,Go.sizeOf,typeInfo,ej,dK,kI]
   | some ak=>
     have a7:=of_int.1 (ak a W s)
     rw [← fT] at a7
     have bl:=hH _ a7
     subst ih
     simp [execOp,Instr.sliceAt,Instr.slice,Instr.sliceBounds,h1,run_underlying hu,Go.sizeOf,typeInfo,ej,dK,kI,bl]
 | some ak=>
   have a7:=of_int.1 (ak a W s)
   rw [← vM] at a7
   have bl:=aq _ a7
   cases gr with
   | none=>
     have lA:n=xs.length:=by omega
     subst lA
     simp only [execOp,Instr.sliceAt,Instr.slice,Instr.sliceBounds,h1,Sem.run_bind,run_underlying hu,Result.andThen_ok,Option.map_none,Option.map_some,Option.isSome_none,Bool.false_eq_true,if_false,if_true,Sem.run_pure,bl,Go.sizeOf,typeInfo,run_program,ej,dK]
     rw [← xe]
   | some lz=>
     have X1:=of_int.1 (lz a W s)
     rw [← fT] at X1
     have ama:=hH _ X1
     simp only [execOp,Instr.sliceAt,Instr.slice,Instr.sliceBounds,h1,Sem.run_bind,run_underlying hu,Result.andThen_ok,Option.map_none,Option.map_some,Option.isSome_none,Bool.false_eq_true,if_false,if_true,Sem.run_pure,bl,ama,Go.sizeOf,typeInfo,run_program,ej,dK]
     rw [← xe]
end
def aJ:Option Nat→Nat→Nat→Value
 | some p,n,cap=>.slice (some ⟨p,0,none⟩) n cap
 | none,_,_=>.slice none 0 0
theorem abG {L:List aF}{i:Nat}{cp:eG} :∀ k∈aP (L.set i ⟨none,cp⟩),∃ j e,j≠i∧L[j]? =some e∧e.key=some k:=by
 intro k hk;obtain⟨e,he,J3⟩:=rH.1 hk;obtain⟨j,aB⟩:=List.mem_iff_getElem?.1 he;rw [List.getElem?_set] at aB;split at aB
 ·split at aB
  ·simp only [Option.some.injEq] at aB;subst aB;cases J3
  cases aB
 rename_i de;exact⟨j,e,fun h=>de h.symm,aB,J3⟩
theorem A3 {L:List aF}{i:Nat}{cp:eG} :aP (L.set i ⟨none,cp⟩) |>.Sublist (aP L):=by
 induction L generalizing i with
 | nil=>simp [aP]
 | cons x r b2=>
   cases i with
   | zero=>
     cases hk:x.key with
     | none=>simp [aP,hk]
     | some p=>simp [aP,hk]
   | succ i=>
     cases hk:x.key with
     | none=>simpa [aP,hk] using b2
     | some p=>simpa [aP,hk] using b2
theorem bI.kill {c E L a W}(h:bI c E L a W)(i:Nat):bI c E (L.set i ⟨none,.dead⟩) a W:=by
 have nD:=A3 (L:=L) (i:=i) (cp:= .dead);have hk:∀ k∈aP (L.set i ⟨none,.dead⟩),k∈aP L:=fun k hk=>nD.subset hk;have iz:Ext (aP L++c.bZ) W (aP (L.set i ⟨none,.dead⟩)++c.bZ) W:= .drop fun k hm=>by
  rcases List.mem_append.1 hm with hm | hm
  ·exact List.mem_append.2 (.inl (hk k hm))
  exact List.mem_append.2 (.inr hm)
 exact
 {defers:=h.defers
  size:=h.size
  env:=fun t τ ak=>let⟨v,h1,ab⟩:=h.env t τ ak; ⟨v,h1,τ.mono iz ab⟩
  dO:=h.dO
  own:=fun e he=>by
   obtain⟨j,aB⟩:=List.mem_iff_getElem?.1 he;rw [List.getElem?_set] at aB;split at aB
   ·split at aB
    ·simp only [Option.some.injEq] at aB;subst aB;trivial
    cases aB
   have h1:=h.own e (List.mem_of_getElem? aB);unfold aF.ok at *;split at h1
   ·obtain⟨o',bg,bQ⟩:=h1;exact⟨o',bg,eG.mono _ iz bQ⟩
   exact h1
  nodup:=h.nodup.sublist nD
  lt:=fun k hm=>h.lt k (hk k hm)
  gL:=fun k hm=>h.gL k (hk k hm)
  e6:=fun k hm=>⟨(h.e6 k hm).1,fun ab=>(h.e6 k hm).2 (hk k ab)⟩ }
theorem bI.ED {c E L a W}(h:bI c E L a W){i p:Nat}{cp:eG}(ao:L[i]? =some ⟨some p,cp⟩):p ∉ aP (L.set i ⟨none,.dead⟩)++c.bZ:=by
 intro hm;rcases List.mem_append.1 hm with hm | hm
 ·obtain⟨j,e,de,aB,J3⟩:=abG p hm;exact de (M1 h.nodup aB ao J3 rfl)
 exact(h.e6 p hm).2 (rH.2 ⟨_,List.mem_of_getElem? ao,rfl⟩)
theorem Lh {α:Type}[ah α]{A W}{cs:Array Value}{xs:List α}{cap:Nat}(h:cs.size=cap * ah.size α)(aH:xs.length≤cap)(aA:hx A W (cs.toList.take (xs.length * ah.size α)) xs):
 0+xs.length * ah.size α≤cs.size∧hx A W ((cs.toList.drop 0).take (xs.length * ah.size α)) xs:=by
 refine⟨?_,by simpa using aA⟩
 rw [h,Nat.zero_add];exact Nat.mul_le_mul_right _ aH
section
variable {c:cF} {E:List (Nat×I)} {L:List aF} {ops:Array Oper} {Q:Exit→Act→World→Prop}
variable {d:Option Tmp} {ty:TypeId} {pos:String} {af:Array Edge} {g:Option (Nat×Bool)} {x y:Operand} {t t2:TypeId}
theorem bI.freeze {a:Act}{W:World}{α:Type}[ah α]{i s cap T:Nat}{key:Option Nat}{xs:List α}(h:bI c E L a W)(ak:look E s=some (.eq (aJ key xs.length cap)))(aq:L[i]? =some ⟨key,.row T xs cap⟩):
 bI c ((s,.of xs)::E) (L.set i ⟨none,.dead⟩) a W:=by
 have hk:=h.kill i
 refine { hk with env:=fun t τ e1=>?_ }
 simp only [look] at e1
 by_cases e:Nat.beq s t=true
 ·rw [e] at e1
  simp only [cond_true,Option.some.injEq] at e1
  subst e1
  have:=eS.1 e
  subst this
  obtain⟨v,h1,ab⟩:=h.env s _ ak
  refine⟨v,h1,pf.2 ?_⟩
  have mb:v=aJ key xs.length cap:=ab
  subst mb
  have bg:=h.own _ (List.mem_of_getElem? aq)
  cases key with
  | none=>exact .inl ⟨rfl,bg.1⟩
  | some p=>
    obtain⟨o,e7,cs,rfl,dK,aH,zx,aA⟩:=bg
    obtain⟨ax,aO⟩:=Lh dK aH aA
    refine .inr ⟨p,0,cap,cs,T,(0,0),rfl,h.ED aq,e7,aH,by omega,ax,?_⟩
    have nD:=A3 (L:=L) (i:=i) (cp:= .dead)
    exact aO.mono (.drop fun k hm=>by
     rcases List.mem_append.1 hm with hm | hm
     ·exact List.mem_append.2 (.inl (nD.subset hm))
     exact List.mem_append.2 (.inr hm))
 simp only [Bool.not_eq_true] at e
 rw [e] at e1
 exact hk.env t τ e1
theorem aw.freeze {code:Code}{α:Type}[ah α]{key:Option Nat}{xs:List α}{cap T:Nat}(i s:Nat)(ak:look E s=some (.eq (aJ key xs.length cap)))(aq:L[i]? =some ⟨key,.row T xs cap⟩)
 (k:aw c Q code ((s,.of xs)::E) (L.set i ⟨none,.dead⟩)):aw c Q code E L:=fun a W st=>k a W (st.freeze ak aq)
theorem bI.af0 {a:Act}{W:World}{α:Type}[ah α](T:TypeId)(h:bI c E L a W):bI c E (⟨none,.row T ([]:List α) 0⟩::L) a W:=
 {h with
  own:=fun e he=>by
   rcases List.mem_cons.1 he with rfl | he
   ·exact⟨rfl,rfl⟩
   exact h.own e he }
theorem J.own {l:List Oper}{α:Type}[ah α](T:TypeId)(k:J c ops Q l E (⟨none,.row T ([]:List α) 0⟩::L)):J c ops Q l E L:=fun a W st=>k a W (st.af0 T)
theorem lK:aN c E L (.const (.slice none 0 0)) (.eq (aJ none 0 0)):=fun _ _ _=>rfl
theorem mO {key:Option Nat}{n cap:Nat}{e i T:Nat}{α:Type}[ah α]{xs:List α}(hu:c.P.underlying t=some (.slice e))(al:aN c E L x (.eq (aJ key n cap)))(aH:n=xs.length)(aq:L[i]? =some ⟨key,.row T xs cap⟩):bc c E L ⟨d,.call ⟨.builtin .len,#[x],#[t]⟩,ty,pos,af,g⟩ (.of (n:Int)):= .pure fun a W s=>by
 subst aH;have h1:a.eval x=_:=al a W s;have bg:=s.own _ (List.mem_of_getElem? aq);cases key with
 | none=>
   have:xs= []:=bg.1
   subst this
   exact⟨.int .i64 0,by simp [execOp,resolve,invoke,builtin,Builtin.len_,h1,aJ,run_underlying hu,goInt],of_int.2 rfl⟩
 | some p=>exact⟨.int .i64 xs.length,by simp [execOp,resolve,invoke,builtin,Builtin.len_,h1,aJ,run_underlying hu,goInt],of_int.2 rfl⟩
theorem hx.one {α:Type}[ah α]{A W}{cs:List Value}{xs:List α}(h:hx A W cs xs):∀ u∈cs,u.oneCell'=true:=by
 intro u hu;obtain⟨j,aB⟩:=List.mem_iff_getElem?.1 hu;have cj:=(List.getElem?_eq_some_iff.1 aB).1;have h1:=h.1;by_cases hs:ah.size α=0
 ·rw [hs,Nat.mul_zero] at h1;omega
 have hp:0<ah.size α:=Nat.pos_of_ne_zero hs;have ao:j / ah.size α<_:=(Nat.div_lt_iff_lt_mul hp).2 (by rw [h1] at cj;exact cj);refine ah.one (h.2 _ ao) u (List.mem_iff_getElem?.2 ⟨j % ah.size α,?_⟩);rw [List.getElem?_take,if_pos (Nat.mod_lt _ hp),List.getElem?_drop,Nat.mul_comm,Nat.div_add_mod];exact aB
theorem wF {α:Type}[ah α]{A W}{cs ds:List Value}{xs ys:List α}(h:hx A W cs xs)(cL:hx A W ds ys):hx A W (cs++ds) (xs++ys):=by
 refine⟨by rw [List.length_append,h.1,cL.1,List.length_append,Nat.add_mul],fun i ao=>?_⟩;rw [List.length_append] at ao;by_cases cj:i<xs.length
 ·have h1:=h.2 i cj;have hle:(i+1) * ah.size α≤xs.length * ah.size α:=Nat.mul_le_mul_right _ cj;rw [Nat.succ_mul] at hle;have mc:=h.1;rw [List.drop_append_of_le_length (by omega),List.take_append_of_le_length (by simp;omega)];rw [List.getElem_append_left cj];exact h1
 have h1:=cL.2 (i - xs.length) (by omega);have e:i * ah.size α=cs.length+(i - xs.length) * ah.size α:=by
  rw [h.1,← Nat.add_mul];congr 1;omega
 rw [e,List.drop_append,List.drop_of_length_le (by omega),List.nil_append,show cs.length+(i - xs.length) * ah.size α - cs.length=(i - xs.length) * ah.size α by omega];rw [List.getElem_append_right (by omega)];exact h1
theorem qB.cells {α:Type}[ah α]{A W v}{ys:List α}(h:qB A W v ys):
 (v= .slice none 0 0∧ys= [])∨ ∃ (b off cap:Nat) (news:List Value),v= .slice (some ⟨b,off,none⟩) ys.length cap∧news.length=ys.length * ah.size α∧ (∀ (j:Nat) (u:Value),news[j]? =some u→W.cell? ((⟨b,off,none⟩:Addr).add j)=some u)∧
  (∀ u∈news,u.oneCell'=true)∧hx A W news ys:=by
 rcases h with h | ⟨b,off,cap,cur,T,hU,h1,ab,ax,aO,a7,bl,cN⟩
 ·exact .inl h
 refine .inr ⟨b,off,cap,_,h1,cN.1,fun j u hu=>?_,fun u hu=>?_,cN⟩
 ·rw [List.getElem?_take] at hu
  split at hu
  ·rw [kI,cell_of_row W b (off+j) cur T hU ax]
   rw [List.getElem?_drop] at hu
   simpa using hu
  cases hu
 exact cN.one u hu
theorem bI.grow {a:Act}{W:World}(h:bI c E L a W){i:Nat}{hK:aF}(ao:L[i]? =some hK){o:Obj}{cp:eG}(ad:cp.holds (aP L++c.bZ) W o):
 bI c E (L.set i ⟨some W.heap.size,cp⟩) a (W.alloc o):=by
 have h1:=h.alloc ad
 refine h1.sub (fun e he=>?_) ?_
 ·obtain⟨j,aB⟩:=List.mem_iff_getElem?.1 he
  rw [List.getElem?_set] at aB
  split at aB
  ·split at aB
   ·simp only [Option.some.injEq] at aB;subst aB;simp
   cases aB
  exact List.mem_cons_of_mem _ (List.mem_of_getElem? aB)
 have r2:W.heap.size ∉ aP L:=fun hm=>Nat.lt_irrefl _ (h.lt _ hm)
 have key:∀ (L:List aF) (i:Nat) (q:Nat),q ∉ aP L→ (aP L).Nodup→ (aP (L.set i ⟨some q,cp⟩)).Nodup∧ ∀ k∈aP (L.set i ⟨some q,cp⟩),k=q∨k∈aP L:=by
  intro L;induction L with
  | nil=>intro i q _ aH;exact⟨by simpa using aH,by simp [aP]⟩
  | cons x r b2=>
    intro i q hq aH
    cases al:x.key with
    | none=>
      have pN:q ∉ aP r:=by simpa [aP,al] using hq
      have pM:(aP r).Nodup:=by simpa [aP,al] using aH
      cases i with
      | zero=>exact⟨by simp only [List.set_cons_zero,aP];exact List.nodup_cons.2 ⟨pN,pM⟩,fun k hk=>by
       simp only [List.set_cons_zero,aP,List.mem_cons] at hk;rcases hk with rfl | hk
       ·exact .inl rfl
       exact .inr (by simpa [aP,al] using hk)⟩
      | succ i=>
        obtain⟨h1,ab⟩:=b2 i q pN pM
        exact⟨by simpa [aP,al] using h1,fun k hk=>by have:=ab k (by simpa [aP,al] using hk);simpa [aP,al] using this⟩
    | some p=>
      simp only [aP,al,List.mem_cons,not_or] at hq
      simp only [aP,al] at aH
      obtain⟨hp,pM⟩:=List.nodup_cons.1 aH
      cases i with
      | zero=>exact⟨by simp only [List.set_cons_zero,aP];exact List.nodup_cons.2 ⟨hq.2,pM⟩,fun k hk=>by
       simp only [List.set_cons_zero,aP,List.mem_cons] at hk;rcases hk with rfl | hk
       ·exact .inl rfl
       exact .inr (by simp [aP,al,hk])⟩
      | succ i=>
        obtain⟨h1,ab⟩:=b2 i q hq.2 pM
        refine⟨?_,fun k hk=>?_⟩
        ·simp only [List.set_cons_succ,aP,al]
         refine List.nodup_cons.2 ⟨fun hm=>?_,h1⟩
         rcases ab p hm with e | Cu
         ·exact hq.1 e.symm
         exact hp Cu
        simp only [List.set_cons_succ,aP,al,List.mem_cons] at hk
        rcases hk with rfl | hk
        ·exact .inr (by simp [aP,al])
        rcases ab k hk with e | Cu
        ·exact .inl e
        exact .inr (by simp [aP,al,Cu])
 exact(key L i _ r2 h.nodup).1
theorem Mf {α:Type}[ah α]{A W}{cs ds:List Value}{xs:List α}{T cap:Nat}(h:hx A W cs xs)(bF:ds.length=(cap - xs.length) * ah.size α)(aH:xs.length≤cap)(hm:cap≤maxLen){arr:Array Value}(aW:arr.toList=cs++ds):
 (eG.row T xs cap).holds A W (.cells arr T (0,0)):=by
 refine⟨arr,rfl,?_,aH,hm,?_⟩
 ·have:arr.size=(cs++ds).length:=by rw [← aW];simp
  rw [this,List.length_append,h.1,bF,← Nat.add_mul];congr 1;omega
 rw [aW,← h.1,List.take_left];exact h
theorem J.app {α:Type}[ah α]{rest:List Oper}{ba i e bytes cap:Nat}{key:Option Nat}{xs ys r:List α}{z:α}(hu:c.P.underlying t=some (.slice e))(eH:bO c.P e α)(gU:dp c.P e z)
 (zC:(c.P.info? e).map (·.bytes)=some bytes) (hs:aN c E L x (.eq (aJ key xs.length cap))) (aq:L[i]? =some ⟨key,.row e xs cap⟩) (aR:aN c E L y (.of ys)) (h:eA bytes xs ys=some r) (aH:Nat.blt ba c.n=true)
 (k:∀ sT cap',J c ops Q rest ((ba,.eq (aJ sT r.length cap'))::E) (L.set i ⟨sT,.row e r cap'⟩)):
 J c ops Q (⟨some ba,.call ⟨.builtin .append,#[x,y],#[t,t]⟩,ty,pos,af,none⟩::rest) E L:=fun a W s=>by
 obtain⟨q7,mB,rfl⟩:=Sc h
 obtain⟨gP,dY,ej,bF,uj⟩:=gU.zero
 have pC:gP.size=ah.size α:=by
  obtain⟨i2,h1,ab⟩:=eH.info;rw [ej] at h1;cases h1;exact ab
 have M3:gP.bytes=bytes:=by simpa [ej] using zC
 have zD:dY.cells.size=ah.size α:=by have:=ah.len (uj [] W).2;simpa using this
 subst M3
 have h1:a.eval x=_:=hs a W s
 have bg:=s.own _ (List.mem_of_getElem? aq)
 have hL:ba<c.n:=by simpa using aH
 have qw:=(pf.1 (aR a W s)).cells
 have sZ:maxLen=9223372036854775807:=rfl
 have main:∃ sT cap' W',(Builtin.append_ #[t,t] ty #[a.eval x,a.eval y]).run c.P W= .ok (aJ sT (xs++ys).length cap') W'∧bI c E (L.set i ⟨sT,.row e (xs++ys) cap'⟩) a W':=by
  cases key with
  | none=>
    obtain⟨zE,zF⟩:xs= []∧cap=0:=bg
    subst zE
    subst zF
    have VQ:L.set i ⟨none,.row e ([]:List α) 0⟩=L:=by
     obtain⟨cj,he⟩:=List.getElem?_eq_some_iff.1 aq;rw [← he];exact List.set_getElem_self cj
    rcases qw with⟨bb,rfl⟩ | ⟨b,off,cp,news,bb,oW,Jn,Cv,gZ⟩
    ·refine⟨none,0,W,?_,by simpa [VQ] using s⟩
     simp [h1,bb,aJ,Builtin.append_,run_underlying hu,Go.sizeOf,typeInfo,ej,Builtin.lenOf,Builtin.firstCells]
    by_cases hm:ys.length=0
    ·have:ys= []:=List.eq_nil_of_length_eq_zero hm
     subst this
     refine⟨none,0,W,?_,by simpa [VQ] using s⟩
     simp [h1,bb,aJ,Builtin.append_,run_underlying hu,Go.sizeOf,typeInfo,ej,Builtin.lenOf,Builtin.firstCells,loadCells,loadCellsFrom]
    simp only [List.length_nil,Nat.zero_add] at q7 mB
    have aA:=run_append_nil (P:=c.P) W t ty e gP dY hu ej bF ⟨b,off,none⟩ ys.length cp news (by rw [pC];exact oW) Jn (by omega) (by omega) (by omega)
    refine⟨some W.heap.size,grownCap W ys.length 0 e,_,by rw [h1,bb];simpa [aJ] using aA,?_⟩
    have vN:=grownCap_ge W ys.length 0 e
    have hle:=grownCap_le_maxLen W ys.length 0 e mB
    have:=(s.world (Fr.drew W)).grow aq (o:= .cells (news.toArray++Builtin.zeroCells dY.cells (grownCap W ys.length 0 e - ys.length)) e) (cp:= .row e ([]++ys) (grownCap W ys.length 0 e))
     (Mf (T:=e) (gZ.mono (Ext.dO (Fr.drew W))) (ds:=(Builtin.zeroCells dY.cells (grownCap W ys.length 0 e - ys.length)).toList) (by rw [Array.length_toList,size_zeroCells,zD]) vN hle (by simp))
    simpa using this
  | some p=>
    obtain⟨qz,e7,cs,rfl,dK,amb,zx,Cw⟩:=bg
    have ij:a.eval x= .slice (some ⟨p,0,none⟩) xs.length cap:=h1
    rcases qw with⟨bb,rfl⟩ | ⟨b,off,cp,news,bb,oW,Jn,Cv,gZ⟩
    ·refine⟨some p,cap,W,?_,?_⟩
     ·simp [ij,bb,aJ,Builtin.append_,run_underlying hu,Go.sizeOf,typeInfo,ej,Builtin.lenOf,Builtin.firstCells,storeCells,amb]
     have:L.set i ⟨some p,.row e (xs++[]) cap⟩=L:=by
      obtain⟨cj,he⟩:=List.getElem?_eq_some_iff.1 aq;rw [List.append_nil,← he];exact List.set_getElem_self cj
     rw [this];exact s
    by_cases BX:xs.length+ys.length≤cap
    ·have JG:xs.length * gP.size+news.length≤cs.size:=by rw [pC,oW,dK,← Nat.add_mul];exact Nat.mul_le_mul_right _ BX
     have aA:=run_append_room (P:=c.P) W t ty e gP hu ej p xs.length cap cs e7 ⟨b,off,none⟩ ys.length cp news (by rw [pC];exact oW) Jn Cv BX JG
     refine⟨some p,cap,_,by rw [ij,bb];simpa [aJ] using aA,?_⟩
     refine s.store aq e7 ⟨_,rfl,?_,by simpa using BX,zx,?_⟩
     ·simp only [List.size_toArray,List.length_append,List.length_take,List.length_drop,Array.length_toList];omega
     have ak:(cs.toList.take (xs.length * gP.size)).length=xs.length * ah.size α:=by rw [pC];exact Cw.1
     have vo:=wF Cw gZ
     rw [pC]
     have hlen:(xs++ys).length * ah.size α=(cs.toList.take (xs.length * ah.size α)++news).length:=by rw [vo.1]
     have o4:((cs.toList.take (xs.length * ah.size α)++news++cs.toList.drop (xs.length * ah.size α+news.length)).toArray).toList.take ((xs++ys).length * ah.size α)=cs.toList.take (xs.length * ah.size α)++news:=by
      rw [hlen];exact List.take_left
     rw [List.append_assoc] at o4
     rw [o4]
     exact vo
    have holds:∀ (j:Nat) u,(cs.toList.take (xs.length * ah.size α))[j]? =some u→W.cell? ((⟨p,0,none⟩:Addr).add j)=some u:=by
     intro j u oj;rw [List.getElem?_take] at oj;split at oj
     ·rw [kI,Nat.zero_add,cell_of_row W p j cs e (0,0) e7];simpa using oj
     cases oj
    have aA:=run_append_grow (P:=c.P) W t ty e gP dY hu ej bF ⟨p,0,none⟩ xs.length cap _ (by rw [pC];exact Cw.1) holds ⟨b,off,none⟩ ys.length cp news (by rw [pC];exact oW) Jn (by omega) (by omega) (growslice_fits (by omega) q7)
    have vN:=grownCap_ge W (xs.length+ys.length) cap e
    have hle:=grownCap_le_maxLen W (xs.length+ys.length) cap e mB
    refine⟨some W.heap.size,grownCap W (xs.length+ys.length) cap e,_,by rw [ij,bb];simpa [aJ] using aA,?_⟩
    have vo:=(wF Cw gZ).mono (Ext.dO (Fr.drew W))
    have:=(s.world (Fr.drew W)).grow aq (o:= .cells ((cs.toList.take (xs.length * ah.size α)).toArray++news.toArray++Builtin.zeroCells dY.cells (grownCap W (xs.length+ys.length) cap e - (xs.length+ys.length))) e)
     (cp:= .row e (xs++ys) (grownCap W (xs.length+ys.length) cap e))
     (Mf (T:=e) vo (ds:=(Builtin.zeroCells dY.cells (grownCap W (xs.length+ys.length) cap e - (xs.length+ys.length))).toList) (by rw [Array.length_toList,size_zeroCells,zD,List.length_append]) (by rw [List.length_append];exact vN) hle (by simp))
    simpa using this
 obtain⟨sT,cap',W',j7,bW⟩:=main
 refine iP rfl (R:=fun v il=>v=aJ sT (xs++ys).length cap'∧il=W') (.mv ?_ ⟨rfl,rfl⟩) fun v il ⟨bb,hw⟩=>?_
 ·simp only [execOp,resolve,invoke,builtin,Sem.run_bind,Sem.run_pure,Result.andThen_ok]
  have ar:(#[x,y]:Array Operand).map a.eval= #[a.eval x,a.eval y]:=by simp
  rw [ar,j7]
  rfl
 subst bb
 subst hw
 exact k sT cap' _ _ (bW.put hL rfl)
inductive pn (c:cF)(E:List (Nat×I))(L:List aF){α:Type}[ah α]:List α→List (Nat×Operand)→List α→Prop
 | nil {b} :pn c E L b [] b
 | cons {b b':List α} {v:α} {i:Nat} {x:Operand} {r:List (Nat×Operand)} :i<b.length→aN c E L x (.of v)→pn c E L (b.set i v) r b'→pn c E L b ((i,x)::r) b'
theorem pn.run {α:Type}[ah α]{b b':List α}{dS:List (Nat×Operand)}(h:pn c E L b dS b'):∀ a W,bI c E L a W→ ∀ cs:Array Value,hx (aP L++c.bZ) W cs.toList b→
 ∃ eP,Instr.fill (fun i=>some (i * ah.size α,ah.size α)) cs (dS.map fun(i,x)=>(i,a.eval x))=some eP∧hx (aP L++c.bZ) W eP.toList b'∧b'.length=b.length:=by
 induction h with
 | nil=>intro a W s cs aA;exact⟨cs,rfl,aA,rfl⟩
 | @cons b b' v i x r ao ab _ b2=>
   intro a W s cs aA
   have bb:=ab a W s
   have dK:(a.eval x).cells.size=ah.size α:=by have:=ah.len bb.2;simpa using this
   have ak:=aA.1
   have hle:(i+1) * ah.size α≤b.length * ah.size α:=Nat.mul_le_mul_right _ ao
   rw [Nat.succ_mul] at hle
   rw [List.map_cons,Ii rfl dK (by simp at ak;omega)]
   obtain⟨eP,ax,aO,a7⟩:=b2 a W s (gY cs.toList (i * ah.size α) (a.eval x).cells.toList).toArray (by
    have:=LM aA ao bb.2;simpa [gY,ah.len bb.2] using this)
   exact⟨eP,ax,aO,by rw [a7,List.length_set]⟩
theorem Ey {α:Type}[ah α]{A W}{z:α}{dY:Value}(h:(I.of z).holds A W dY)(n:Nat)(hs:ah.size α≠0):hx A W ((Array.range (n * ah.size α)).map (dY.cells[· % dY.cells.size]!)).toList (List.replicate n z):=by
 have ak:dY.cells.size=ah.size α:=by have:=ah.len h.2;simpa using this
 have hp:0<ah.size α:=Nat.pos_of_ne_zero hs;refine⟨by simp,fun i ao=>?_⟩;have hF:i<n:=by simpa using ao
 have hle:(i+1) * ah.size α≤n * ah.size α:=Nat.mul_le_mul_right _ hF;rw [Nat.succ_mul] at hle;have:((((Array.range (n * ah.size α)).map (dY.cells[· % dY.cells.size]!)).toList.drop (i * ah.size α)).take (ah.size α))=dY.cells.toList:=by
  apply List.ext_getElem?;intro j;rw [List.getElem?_take];split
  ·rename_i aB;rw [List.getElem?_drop];have cj:i * ah.size α+j<n * ah.size α:=by omega
   have zj:(i * ah.size α+j) % ah.size α=j:=by rw [Nat.mul_comm,Nat.mul_add_mod];exact Nat.mod_eq_of_lt aB
   simp only [Array.getElem?_toList,Array.getElem?_map,Array.getElem?_range,cj,if_true,Option.map_some,ak,zj];rw [getElem!_pos dY.cells j (by omega)];simp [ak,aB]
  rename_i aB;symm;simp only [Array.getElem?_toList];exact Array.getElem?_eq_none (by omega)
 rw [this];simpa using h.2
theorem w2 {α:Type}[ah α]{e n:Nat}{z:α}{r:List α}{dS:List (Nat×Operand)}(hu:c.P.underlying t=some (.slice e))(eH:bO c.P e α)(gU:dp c.P e z)(hs:Nat.beq (ah.size α) 0=false)(aH:Nat.ble (n * ah.size α) 16777216=true)
 (aT:pn c E L (List.replicate n z) dS r):bc c E L ⟨d,.buildSlice t n dS.toArray,ty,pos,af,g⟩ (.of r):=fun a W s=>by
 obtain⟨gP,dY,ej,bF,uj⟩:=gU.zero
 have pC:gP.size=ah.size α:=by
  obtain⟨i2,h1,ab⟩:=eH.info;rw [ej] at h1;cases h1;exact ab
 have iM:ah.size α≠0:=fun h=>by rw [h] at hs;cases hs
 have s6:=Ey (uj (aP L++c.bZ) W) n iM
 obtain⟨eP,ax,aO,a7⟩:=aT.run a W s _ s6
 have hlen:r.length=n:=by rw [a7];simp
 have hm:(dS.toArray.map fun(x:Nat×Operand)=>(x.1,a.eval x.2)).toList=dS.map fun(i,x)=>(i,a.eval x):=by simp
 have akx:=Nat.le_of_ble_eq_true aH
 refine .mv (v:= .slice (some ⟨W.heap.size,0,none⟩) n n) (W':=W.alloc (.cells eP e)) ?_ ⟨Fr.alloc W _,pf.2 ?_⟩
 ·simp only [execOp,Instr.buildSlice,Sem.run_bind,run_underlying hu,Result.andThen_ok,Go.sizeOf,typeInfo,run_program,ej,Sem.run_pure,pC]
  rw [if_neg (by omega)]
  try simp only [Sem.run_pure,Result.andThen_ok,Sem.run_bind]
  by_cases bq:n * ah.size α=0
  ·have ui:n=0:=by
    rcases Nat.mul_eq_zero.1 bq with h | h
    ·exact h
    exact absurd h iM
   subst ui
   simp only [Nat.zero_mul,if_true,Sem.run_pure,Result.andThen_ok]
   try simp only [Nat.zero_mul] at ax
   have hK:((Array.range 0).map (fun x=>(#[]:Array Value)[x % (#[]:Array Value).size]!))=((Array.range 0).map (dY.cells[· % dY.cells.size]!)):=by simp
   simp only [pure_bind]
   rw [hK,hm,ax]
   simp [newRow]
  simp only [bq,if_false,Sem.run_bind,zeroValue,typeInfo,run_program,Result.andThen_ok,ej,bF,Sem.run_pure]
  rw [hm,ax]
  simp [newRow]
 have iz:Ext (aP L++c.bZ) W (aP L++c.bZ) (W.alloc (.cells eP e)):=Ext.dO (Fr.alloc W _)
 refine .inr ⟨W.heap.size,0,n,eP,e,(0,0),by rw [hlen],fun Cd=>Nat.lt_irrefl _ (s.IS _ Cd),Uh W _,by omega,?_,?_,?_⟩
 ·have:r.length * 1≤n * ah.size α:=by rw [hlen];exact Nat.mul_le_mul_left _ (by omega)
  have:maxLen=9223372036854775807:=rfl
  omega
 ·have:=aO.1;simp at this;omega
 have bl:=aO.1
 rw [List.drop_zero,← bl,List.take_length]
 exact aO.mono iz
end
theorem yK {cs:List Value}{o s:Nat}{u:Value}(h:u∈cs.drop o):u∈ (cs.drop o).take s∨u∈cs.drop (o+s):=by
 rw [← List.take_append_drop s (cs.drop o)] at h;rcases List.mem_append.1 h with h | h
 ·exact .inl h
 rw [List.drop_drop] at h;exact .inr h
theorem Mg {cs:List Value}{n o:Nat}{u:Value}{p:Prop}(ak:cs.length=n)(bg:o=n)(h:u∈cs.drop o):p:=by
 rw [List.drop_of_length_le (by omega)] at h;cases h
theorem af1 {cs ds:List Value}{o s n:Nat}(ak:cs.length=n)(hd:ds.length=s)(h:o+s≤n):(cs.take o++ds++cs.drop (o+s)).length=n:=by
 simp only [List.length_append,List.length_take,List.length_drop];omega
theorem TF {cs ds:List Value}{o s n:Nat}(ak:cs.length=n)(hd:ds.length=s)(h:o+s≤n):((cs.take o++ds++cs.drop (o+s)).drop o).take s=ds:=by
 have h1:(cs.take o).length=o:=by simp;omega
 rw [List.append_assoc,List.drop_append,h1,List.drop_of_length_le (by omega),List.nil_append,Nat.sub_self,List.drop_zero,List.take_append_of_le_length (by omega),List.take_of_length_le (by omega)]
theorem LN {cs ds:List Value}{o s n cu s2:Nat}(ak:cs.length=n)(hd:ds.length=s)(h:o+s≤n)(de:cu+s2≤o∨o+s≤cu):((cs.take o++ds++cs.drop (o+s)).drop cu).take s2=(cs.drop cu).take s2:=by
 apply List.ext_getElem?;intro i;simp only [List.getElem?_take,List.getElem?_drop];split
 ·rename_i ao;simp only [List.getElem?_append,List.length_append,List.length_take,List.getElem?_take,List.getElem?_drop];have h1:min o cs.length=o:=by omega
  rw [h1,hd];rcases de with ab | ab
  ·rw [if_pos (by omega),if_pos (by omega),if_pos (by omega)]
  rw [if_neg (by omega)];congr 1;omega
 rfl
structure xx (P:Type) where
 size:Nat
 rep:List Nat→World→List Value→Nat→P→Prop
 one:∀ {A W cs o x n},rep A W cs o x→cs.length=n→o+size=n→ ∀ u∈cs.drop o,u.oneCell'=true
 mono:∀ {A W cM W' cs o x},Ext A W cM W'→rep A W cs o x→rep cM W' cs o x
 mT:∀ {A W cs o x n ds p s},rep A W cs o x→cs.length=n→ds.length=s→p+s≤n→p+s≤o→rep A W (cs.take p++ds++cs.drop (p+s)) o x
@[reducible] def gN (B:Type) [ah B]:xx B where
  size:=ah.size B
  rep A W cs o x:=ah.rep A W ((cs.drop o).take (ah.size B)) x
  one h ak bg u hu:=by
   rcases yK (s:=ah.size B) hu with h1 | bq
   ·exact ah.one h u h1
   exact Mg ak bg bq
  mono e h:=ah.mono e h
  mT h ak hd aH hp:=by rw [LN ak hd aH (.inr hp)];exact h
@[reducible] def cX (B:Type) [ah B] {P:Type} (S:xx P):xx (B×P) where
  size:=ah.size B+S.size
  rep A W cs o x:=ah.rep A W ((cs.drop o).take (ah.size B)) x.1∧S.rep A W cs (o+ah.size B) x.2
  one h ak bg u hu:=by
   rcases yK (s:=ah.size B) hu with h1 | bq
   ·exact ah.one h.1 u h1
   exact S.one h.2 ak (by omega) u bq
  mono e h:=⟨ah.mono e h.1,S.mono e h.2⟩
  mT h ak hd aH hp:=⟨by rw [LN ak hd aH (.inr hp)];exact h.1,S.mT h.2 ak hd aH (by omega)⟩
@[reducible] def ah.str {T P:Type} (S:xx P) (to:T→P) (N:Nat) (hL:S.size=N:=by rfl):ah T where
  size:=N
  agg:=true
  rep A W cs x:=cs.length=N∧S.rep A W cs 0 (to x)
  len h:=h.1
  one h:=fun u hu=>S.one h.2 h.1 (by omega) u (by simpa using hu)
  flat h:=by cases h
  mono e h:=⟨h.1,S.mono e h.2⟩
structure F6 {P:Type}(S:xx P)(G:Type)[ah G] where
 off:Nat
 get:P→G
 set:P→G→P
 hf:off+ah.size G≤S.size
 jL:∀ {A W cs o b},S.rep A W cs o b→ah.rep A W ((cs.drop (o+off)).take (ah.size G)) (get b)
 nr:∀ {A W cs n o b ds g},cs.length=n→o+S.size≤n→S.rep A W cs o b→ah.rep A W ds g→S.rep A W (cs.take (o+off)++ds++cs.drop (o+off+ah.size G)) o (set b g)
def gT {B:Type}[ah B]:F6 (gN B) B where
 off:=0
 get b:=b
 set _ g:=g
 hf:=by show 0+ah.size B≤ah.size B;omega
 jL h:=h
 nr ak bg _ bA:=by
  have h:=TF ak (ah.len bA) bg;show ah.rep _ _ ((List.drop _ _).take _) _;rw [Nat.add_zero,h];exact bA
def c6 {B:Type}[ah B]{P:Type}{S:xx P} :F6 (cX B S) B where
 off:=0
 get b:=b.1
 set b g:=(g,b.2)
 hf:=by show 0+ah.size B≤ah.size B+S.size;omega
 jL h:=h.1
 nr {A W cs n o b ds g} ak bg h bA:=by
  have bg:o+(ah.size B+S.size)≤n:=bg;refine⟨?_,S.mT h.2 ak (ah.len bA) (by omega) (by omega)⟩;rw [Nat.add_zero,TF ak (ah.len bA) (by omega)];exact bA
def bp {B:Type}[ah B]{P:Type}{S:xx P}{G:Type}[ah G](l:F6 S G):F6 (cX B S) G where
 off:=ah.size B+l.off
 get b:=l.get b.2
 set b g:=(b.1,l.set b.2 g)
 hf:=by have:=l.hf;show ah.size B+l.off+ah.size G≤ah.size B+S.size;omega
 jL h:=by rw [← Nat.add_assoc];exact l.jL h.2
 nr {A W cs n o b ds g} ak bg h bA:=by
  have bg:o+(ah.size B+S.size)≤n:=bg;have ao:=l.hf;have ab:=l.nr ak (by omega) h.2 bA;rw [Nat.add_assoc o] at ab;exact⟨by rw [LN ak (ah.len bA) (by omega) (.inl (by omega))];exact h.1,ab⟩
@[reducible] def aK.str {T P G:Type} [ah G] {S:xx P} {to:T→P} {N:Nat} (l:F6 S G) (off:Nat) (get:T→G) (set:T→G→T) (hL:S.size=N:=by rfl) (bg:l.off=off:=by rfl) (h1:∀ b,l.get (to b)=get b:=by intro b;rfl) (ab:∀ b g,l.set (to b) g=to (set b g):=by intro b g;rfl): @aK T G (ah.str S to N hL) _:=
  @aK.mk T G (ah.str S to N hL) _ off get set (by have:=l.hf;show off+ah.size G≤N;omega)
   (fun {A W cs b} h=>by have:=l.jL h.2;rw [Nat.zero_add,bg,h1] at this;exact this)
   (fun {A W cs b ds g} h bA=>by
    have ax:=l.nr h.1 (by omega) h.2 bA;rw [Nat.zero_add,bg,ab] at ax;have aO:=l.hf;exact⟨af1 h.1 (ah.len bA) (by omega),ax⟩)
class a6 (α:Type) [ah α] [Inhabited α] where
 cells:List Value
 ok:∀ A W,ah.rep A W cells (default:α)
instance:a6 Bool:=⟨[.bool false],fun _ _=>rfl⟩
instance:a6 Int:=⟨[.int .i64 0],fun _ _=>rfl⟩
instance:a6 (BitVec 64):=⟨[.int .u64 0],fun _ _=>rfl⟩
instance:a6 (BitVec 32):=⟨[.int .u32 0],fun _ _=>rfl⟩
instance:a6 (BitVec 16):=⟨[.int .u16 0],fun _ _=>rfl⟩
instance:a6 (BitVec 8):=⟨[.int .u8 0],fun _ _=>rfl⟩
instance:a6 ByteArray:=⟨[.string ByteArray.empty],fun _ _=>rfl⟩
instance {α:Type} [ah α]:a6 (List α):=⟨[.slice none 0 0],fun _ _=>⟨_,rfl,.inl ⟨rfl,rfl⟩⟩⟩
theorem SH {α:Type}[ah α]{A W}{o5:List Value}{z:α}(h:ah.rep A W o5 z):∀ n,hx A W (List.replicate n o5).flatten (List.replicate n z)
 | 0=>⟨by simp,fun i ao=>by simp at ao⟩
 | n+1=>by
   have h1:=SH h n;have ab:hx A W o5 [z]:=⟨by simp [ah.len h],fun i ao=>by
    have:i=0:=by simpa using ao
    subst this;rw [Nat.zero_mul,List.drop_zero,← ah.len h,List.take_length];exact h⟩
   have:=wF ab h1;simpa [List.replicate_succ] using this
instance {α:Type} [ah α] [Inhabited α] [a6 α] {n:Nat} :a6 (Vector α n):=⟨(List.replicate n (a6.cells α)).flatten,fun A W=>by
 have:=SH (a6.ok (α:=α) A W) n;show hx A W _ (Vector.replicate n default).toList;simpa using this⟩
def JH (α:Type)[ah α][Inhabited α][a6 α]:Value:=if ah.agg α=true then .agg (a6.cells α).toArray else(a6.cells α).headD undef
theorem dp.of {P:Program}{t:TypeId}{α:Type}[ah α][Inhabited α][a6 α](h:(P.info? t).bind (·.zero)=some (JH α)):dp P t (default:α) where
 zero:=by
  cases ao:P.info? t with
  | none=>simp [ao] at h
  | some i=>
    refine⟨i,JH α,rfl,by simpa [ao] using h,fun A W=>?_⟩
    have ok:=a6.ok (α:=α) A W
    unfold JH
    cases aW:ah.agg α with
    | true=>simp only [if_true];exact⟨by simp [shaped,aW],by simpa [Value.cells] using ok⟩
    | false=>
      have h1:=ah.len ok
      rw [ah.flat aW] at h1
      obtain⟨v,bb⟩:=List.length_eq_one_iff.1 h1
      have ax:v.oneCell'=true:=ah.one ok v (by rw [bb];simp)
      simp only [Bool.false_eq_true,if_false,bb,List.headD_cons]
      exact⟨by simp [shaped,aW,ax],by rw [cells_one ax];rw [bb] at ok;exact ok⟩
theorem bO.of {P:Program}{t:TypeId}{α:Type}[ah α]{d:TypeDesc}(aW:(match d with | .struct _ | .array _ _=>true | _=>false)=ah.agg α)(hu:P.underlying t=some d)(hs:(P.info? t).map (·.size)=some (ah.size α)):bO P t α:=⟨hs,d,hu,aW⟩
theorem xv.of {P:Program}{s f o:Nat}{fs:Array Field}{fd:Field}{γ:Type}[ah γ](hu:P.underlying s=some (.struct fs))(aT:fs[f]? =some fd)(bg:fd.offset=o)(dP:bO P fd.type γ)(hs:Nat.beq (ah.size γ) 0=false):xv P s f o:=by
 obtain⟨i,h1,ab⟩:=dP.info;exact⟨fs,fd,i,hu,aT,bg,h1,fun h=>by rw [← ab,h] at hs;cases hs⟩
theorem o3.of {P:Program}{t n e s:Nat}{γ:Type}[ah γ](hu:P.underlying t=some (.array n e))(dP:bO P e γ)(hs:ah.size γ=s):o3 P t n s:=by
 obtain⟨i,h1,ab⟩:=dP.info;exact⟨e,i,hu,h1,by rw [ab,hs]⟩
theorem bind_some {α β:Type}{m:Option α}{f:α→Option β}{r:β}(h:m.bind f=some r):∃ y,m=some y∧f y=some r:=Option.bind_eq_some_iff.1 h
theorem gk {α:Type}{b:Bool}{p q:Option α}{r:α}(hb:b=true)(h:cond b p q=some r):p=some r:=by rw [hb] at h;exact h
theorem gl {α:Type}{b:Bool}{p q:Option α}{r:α}(hb:b=false)(h:cond b p q=some r):q=some r:=by rw [hb] at h;exact h
theorem dc {α:Type}{a b:α}(h:some a=some b):a=b:=Option.some.inj h
def cb {α:Type}[Inhabited α](b want:Bool)(m:Option α):Option α:=if b=want then m else some default
theorem fA {α:Type}[Inhabited α]{b want:Bool}{m:Option α}{y:α}(h:cb b want m=some y)(hb:b=want):m=some y:=by unfold cb at h;rw [if_pos hb] at h;exact h
def dt:Nat:=2 ^ 80
theorem bI.rR {c E L a W}(h:bI c E L a W)(n:Nat):bI c E (L.drop n) a W:=
 h.sub (fun e he=>List.mem_of_mem_drop he) (by
   have:(aP (L.drop n)).Sublist (aP L):=by
    induction L generalizing n with
    | nil=>simp
    | cons x r b2=>
      cases n with
      | zero=>simp
      | succ n=>
        have aA:∀ n,(aP (r.drop n)).Sublist (aP r):=by
         intro n;have key:∀ (r:List aF) n,(aP (r.drop n)).Sublist (aP r):=by
          intro r;induction r with
          | nil=>intro n;simp
          | cons y r X2=>
            intro n
            cases n with
            | zero=>simp
            | succ n=>
              simp only [List.drop_succ_cons]
              cases hk:y.key with
              | none=>simpa [aP,hk] using X2 n
              | some p=>simp only [aP,hk];exact(X2 n).cons _
         exact key r n
        simp only [List.drop_succ_cons]
        cases hk:x.key with
        | none=>simpa [aP,hk] using aA n
        | some p=>simp only [aP,hk];exact(aA n).cons _
   exact h.nodup.sublist this)
section
variable {c:cF} {E:List (Nat×I)} {L:List aF} {ops:Array Oper} {Q:Exit→Act→World→Prop}
def dE (Q:Exit→Act→World→Prop):Exit→Act→World→Prop:=Q
theorem aw.cb {γ:Type}{x:Operand}{b:Bool}{y z:Code}(E':γ→List (Nat×I))(L':γ→List aF)(ak:aN c E L x (.of b))(si:∀ g,aj c Q .normal (E' g) (L' g))
 (bw:(∀ g,aj c (dE Q) .normal (E' g) (L' g))→b=true→aw c (dE Q) y E L) (aT:(∀ g,aj c (dE Q) .normal (E' g) (L' g))→b=false→aw c (dE Q) z E L):aw c Q (.cond x y z) E L:=
 aw.cond ak (bw si) (aT si)
theorem aj.meet {x:Exit}{E':List (Nat×I)}{L':List aF}(n:Nat)(aq:L.drop n=L')(h:fH E E')(k:aj c Q x E' L'):aj c Q x E L:=fun a W s=>k a W (by rw [← aq];exact(s.rR n).less h.look)
def ep {σ ε γ δ:Type}(c:cF)(E:σ→γ→List (Nat×I))(L:σ→γ→List aF)(xs:ε→Exit)(hi:ε→δ→List (Nat×I))(Lx:ε→δ→List aF):σ ⊕ ε→Exit→Act→World→Prop
 | .inl s,x,a,W=>x= .normal∧ ∃ g,bI c (E s g) (L s g) a W
 | .inr e,x,a,W=>x≠ .normal∧x=xs e∧ ∃ g,bI c (hi e g) (Lx e g) a W
theorem aj.af2 {σ ε γ δ:Type}{E':σ→γ→List (Nat×I)}{L':σ→γ→List aF}{xs:ε→Exit}{hi:ε→δ→List (Nat×I)}{Lx:ε→δ→List aF}{s:σ}(g:γ)(n:Nat)
 (aq:L.drop n=L' s g) (h:fH E (E' s g)):aj c (ep c E' L' xs hi Lx (.inl s)) .normal E L:=fun a W st=>⟨rfl,g,by rw [← aq];exact(st.rR n).less h.look⟩
theorem aj.af3 {σ ε γ δ:Type}{E':σ→γ→List (Nat×I)}{L':σ→γ→List aF}{xs:ε→Exit}{hi:ε→δ→List (Nat×I)}{Lx:ε→δ→List aF}{e:ε}{x:Exit}(g:δ)(n:Nat)
 (al:x=xs e) (aH:x≠ .normal) (aq:L.drop n=Lx e g) (h:fH E (hi e g)):aj c (ep c E' L' xs hi Lx (.inr e)) x E L:=fun a W st=>⟨aH,al,g,by rw [← aq];exact(st.rR n).less h.look⟩
theorem aw.Nu {σ ε γ δ:Type}{body:Code}{N:Nat}{b:σ→Option (σ ⊕ ε)}{cg:σ}{e:ε}(ak:dx N b cg=some e)
 (E':σ→γ→List (Nat×I)) (L':σ→γ→List aF) (xs:ε→Exit) (hi:ε→δ→List (Nat×I)) (Lx:ε→δ→List aF) (g0:γ) (aq:L=L' cg g0) (aE:fH E (E' cg g0))
 (sK:∀ s r,b s=some r→ ∀ g,aw c (ep c E' L' xs hi Lx r) body (E' s g) (L' s g))
 (pk:∀ g,aj c Q (xs e) (hi e g) (Lx e g)):aw c Q (.loop body) E L:=fun a W st=>by
 subst aq
 exact acE b (fun s a W=> ∃ g,bI c (E' s g) (L' s g) a W) (fun e x a W=>x=xs e∧ ∃ g,bI c (hi e g) (Lx e g) a W)
  (fun s r hs a W ⟨g,nf⟩=>wpIn_mono (sK s r hs g a W nf) (fun x a W h=>by
   cases r with
   | inl cf=>exact h
   | inr e'=>exact⟨h.1,h.2⟩)) Q e (fun x a W ⟨al,g,hs⟩=>by subst al;exact pk g a W hs) ak ⟨g0,st.less aE.look⟩
end
theorem bc.rk {c E L o}{α:Type}[ah α]{a b:α}(h:bc c E L o (.of a))(e:a=b):bc c E L o (.of b):=by subst e;exact h
def I.zq {α β:Type}[ah α][ah β](P:Program)(F:α→Option β):I where
 holds A W v:= ∃ f fst cap,v= .func (.func f) fst cap∧bM P f∧ ∀ cM W',Ext A W cM W'→ (∀ k∈cM,k<W'.heap.size)→ ∀ x r nM,F x=some r→ (I.of x).holds cM W' nM→
  Calls P f (fst++ #[nM]++cap) W' fun e xy=> ∃ v,e= .returned v∧Fr [] W' xy∧ (I.of r).holds cM xy v
 mono e h:=let⟨f,fst,cap,h1,ab,ax⟩:=h; ⟨f,fst,cap,h1,ab,fun cM W' e'=>ax cM W' (e.trans e')⟩
def I.zv {α β γ:Type}[ah α][ah β][ah γ](P:Program)(F:α→β→Option γ):I where
 holds A W v:= ∃ f fst cap,v= .func (.func f) fst cap∧bM P f∧ ∀ cM W',Ext A W cM W'→ (∀ k∈cM,k<W'.heap.size)→ ∀ x y r nM tg,F x y=some r→ (I.of x).holds cM W' nM→ (I.of y).holds cM W' tg→
  Calls P f (fst++ #[nM,tg]++cap) W' fun e xy=> ∃ v,e= .returned v∧Fr [] W' xy∧ (I.of r).holds cM xy v
 mono e h:=let⟨f,fst,cap,h1,ab,ax⟩:=h; ⟨f,fst,cap,h1,ab,fun cM W' e'=>ax cM W' (e.trans e')⟩
section
variable {c:cF} {E:List (Nat×I)} {L:List aF} {d:Option Tmp} {ty:TypeId} {pos:String} {af:Array Edge} {g:Option (Nat×Bool)}
theorem adt {α β:Type}[ah α][ah β]{F:α→Option β}{f:FuncId}(cn:bM c.P f)(h:∀ x r,F x=some r→dZ c.P f [.of x] (.of r)):aN c E L (.func f) (.zq c.P F):=fun a W s=>
 ⟨f,#[],#[],rfl,cn,fun cM W' _ eM x r nM mm al=>by simpa using h x r mm cM W' [nM] eM (.cons al .nil)⟩
theorem SC {α β γ:Type}[ah α][ah β][ah γ]{F:α→β→Option γ}{f:FuncId}(cn:bM c.P f)(h:∀ x y r,F x y=some r→dZ c.P f [.of x,.of y] (.of r)):aN c E L (.func f) (.zv c.P F):=fun a W s=>
 ⟨f,#[],#[],rfl,cn,fun cM W' _ eM x y r nM tg mm al aR=>by simpa using h x y r mm cM W' [nM,tg] eM (.cons al (.cons aR .nil))⟩
theorem Ie {α β:Type}[ah α][ah β]{F:α→Option β}{qC x:Operand}{ats:Array TypeId}{GN:α}{r:β}(aT:aN c E L qC (.zq c.P F))(al:aN c E L x (.of GN))(h:F GN=some r):
 bc c E L ⟨d,.call ⟨.value qC,#[x],ats⟩,ty,pos,af,g⟩ (.of r):=fun a W s=>by
 obtain⟨f,fst,cap,h1,cn,ab⟩:=aT a W s
 refine .wL (f:=f) (args:=fst++ #[a.eval x]++cap) (W':=W) ?_ (ab _ W (Ext.refl _ _) s.IS _ _ _ h (al a W s))
 simp [execOp,resolve,Deferred.ofValue,h1,invoke,cn.run]
theorem Ig {α β γ:Type}[ah α][ah β][ah γ]{F:α→β→Option γ}{qC x y:Operand}{ats:Array TypeId}{GN:α}{YT:β}{r:γ}(aT:aN c E L qC (.zv c.P F))(al:aN c E L x (.of GN))(aR:aN c E L y (.of YT))(h:F GN YT=some r):
 bc c E L ⟨d,.call ⟨.value qC,#[x,y],ats⟩,ty,pos,af,g⟩ (.of r):=fun a W s=>by
 obtain⟨f,fst,cap,h1,cn,ab⟩:=aT a W s
 refine .wL (f:=f) (args:=fst++ #[a.eval x,a.eval y]++cap) (W':=W) ?_ (ab _ W (Ext.refl _ _) s.IS _ _ _ _ _ h (al a W s) (aR a W s))
 simp [execOp,resolve,Deferred.ofValue,h1,invoke,cn.run]
end
end Gv
namespace Gv
open Go Go.ChangeShapes Go.WideShapes Go.RowKit
structure Arg (P:Program)(t:TypeId)(α:Type)[ah α]:Prop where
 cells:P.cellsOf t=ah.size α
 read:∀ {H:Type} {enc:TypeId×Value→H} {W:World} {n:Nat} {cs:List Value} {x:DataW H×List MemPlace},DataW.trod enc P W 0 (fun _=>true) true n t cs=some x→ ∃ a:α,ah.rep [] W cs a
 form:∀ {W:World} {b:Nat} {v:Value},Value.okWide P W .any b t v→shaped (ah.agg α) v
variable {P:Program} {t e:TypeId}
theorem acG (hu:P.underlying t=some .bool){H:Type}{enc:TypeId×Value→H}{W:World}{n:Nat}{cs:List Value}{x:DataW H×List MemPlace}(h:DataW.trod enc P W 0 (fun _=>true) true n t cs=some x):
 ∃ b:Bool,cs= [.bool b]:=by
 cases n with
 | zero=>simp [DataW.trod] at h
 | succ n=>
   unfold DataW.trod at h
   rw [hu] at h
   split at h <;> first | exact⟨_,rfl⟩ | (simp at h)
   all_goals simp_all
theorem Arg.bool (hu:P.underlying t=some .bool)(ad:P.cellsOf t=1):Arg P t Bool where
 cells:=ad
 read {H enc W n cs x} h:=by
  obtain⟨b,rfl⟩:=acG hu h;exact⟨b,rfl⟩
 form {W b v} h:=by
  unfold Value.okWide Cell.okWide at h;simp only [hu] at h;unfold Cell.ok at h;rw [hu] at h;cases v <;> first | rfl | simp at h
theorem EE {k:IntKind}(hu:P.underlying t=some (.int k)){H:Type}{enc:TypeId×Value→H}{W:World}{n:Nat}{cs:List Value}{x:DataW H×List MemPlace}(h:DataW.trod enc P W 0 (fun _=>true) true n t cs=some x):
 ∃ z:Int,cs= [.int k z]∧k.min≤z∧z≤k.max:=by
 cases n with
 | zero=>simp [DataW.trod] at h
 | succ n=>
   unfold DataW.trod at h
   rw [hu] at h
   split at h <;> simp_all [Lit.wf]
theorem EF {k:IntKind}(hu:P.underlying t=some (.int k)){W:World}{b:Nat}{v:Value}(h:Value.okWide P W .any b t v):v.oneCell'=true:=by
 unfold Value.okWide Cell.okWide at h;simp only [hu] at h;unfold Cell.ok at h;rw [hu] at h;cases v <;> first | rfl | simp at h
theorem Arg.int (hu:P.underlying t=some (.int .i64))(ad:P.cellsOf t=1):Arg P t Int where
 cells:=ad
 read h:=by obtain⟨z,rfl,_⟩:=EE hu h;exact⟨z,rfl⟩
 form h:=EF hu h
theorem Arg.u64 (hu:P.underlying t=some (.int .u64))(ad:P.cellsOf t=1):Arg P t (BitVec 64) where
 cells:=ad
 read h:=by
  obtain⟨z,rfl,h1,ab⟩:=EE hu h;simp [IntKind.min,IntKind.max,IntKind.signed,IntKind.bits] at h1 ab;exact⟨BitVec.ofInt 64 z,by show [_]= [_];simp;omega⟩
 form h:=EF hu h
theorem Arg.u32 (hu:P.underlying t=some (.int .u32))(ad:P.cellsOf t=1):Arg P t (BitVec 32) where
 cells:=ad
 read h:=by
  obtain⟨z,rfl,h1,ab⟩:=EE hu h;simp [IntKind.min,IntKind.max,IntKind.signed,IntKind.bits] at h1 ab;exact⟨BitVec.ofInt 32 z,by show [_]= [_];simp;omega⟩
 form h:=EF hu h
theorem Arg.u16 (hu:P.underlying t=some (.int .u16))(ad:P.cellsOf t=1):Arg P t (BitVec 16) where
 cells:=ad
 read h:=by
  obtain⟨z,rfl,h1,ab⟩:=EE hu h;simp [IntKind.min,IntKind.max,IntKind.signed,IntKind.bits] at h1 ab;exact⟨BitVec.ofInt 16 z,by show [_]= [_];simp;omega⟩
 form h:=EF hu h
theorem Arg.u8 (hu:P.underlying t=some (.int .u8))(ad:P.cellsOf t=1):Arg P t (BitVec 8) where
 cells:=ad
 read h:=by
  obtain⟨z,rfl,h1,ab⟩:=EE hu h;simp [IntKind.min,IntKind.max,IntKind.signed,IntKind.bits] at h1 ab;exact⟨BitVec.ofInt 8 z,by show [_]= [_];simp;omega⟩
 form h:=EF hu h
theorem adz (hs:(∃ fs,P.underlying t=some (.struct fs))∨ (∃ n e,P.underlying t=some (.array n e))){W:World}{b:Nat}{v:Value}(h:Value.okWide P W .any b t v):shaped true v:=by
 unfold Value.okWide at h;rcases hs with⟨fs,hu⟩ | ⟨n,e,hu⟩ <;> rw [hu] at h <;> exact⟨h.choose,h.choose_spec.1⟩
theorem Arg.arr {α:Type}[ah α][Inhabited α]{n:Nat}(hu:P.underlying t=some (.array n e))(he:Arg P e α)(ad:P.cellsOf t=n * ah.size α):Arg P t (Vector α n) where
 cells:=ad
 read {H enc W m cs x} h:=by
  obtain⟨xs,q,_,_,ak,hlen,aT⟩:=DataW.trod_array hu h;have aA:∀ i,i<n→ ∃ a:α,ah.rep [] W ((cs.drop (i * ah.size α)).take (ah.size α)) a:=by
   intro i ao;have h1:=aT i ao;rw [List.getElem?_eq_getElem (by omega)] at h1;rw [← he.cells];exact he.read h1
  refine⟨Vector.ofFn fun i=>(aA i.1 i.2).choose,by rw [ak,ad];simp,fun i ao=>?_⟩;have hF:i<n:=by simpa using ao
  have:=(aA i hF).choose_spec;simpa using this
 form h:=adz (.inr ⟨_,_,hu⟩) h
theorem Sd {H:Type}{enc:TypeId×Value→H}{W W':World}(ak:laidOutB P=true){sp:Nat→Bool} :∀ {dk:List TypeId} {vs:List Value} {ds:List (DataW H)} {dS:List MemPlace},
 (∀ t∈dk,P.readableRec t=true∧t<P.types.size)→DataW.TrodAll enc P W 0 (fun _=>true) true dk vs ds dS→ (∀ p∈dS,W.sameAt W' p)→ (∀ p∈dS,sp p.block=true)→DataW.TrodAll enc P W' 0 sp true dk vs ds dS
 | [],_,_,_,_,h,_,_=>by
   obtain⟨rfl,rfl,rfl⟩:=trodAll_nil h;exact rfl
 | _::_,_,_,_,bw,h,hs,hp=>by
   obtain⟨v,OZ,d,O0,p,q,rfl,rfl,rfl,h1,ab⟩:=trodAll_cons h;have bq:=bw _ (List.mem_cons_self ..);exact⟨p,q,WideElems.Trod_stays ak bq.1 bq.2 h1 (fun x al=>hs x (by simp [al])) (fun x al=>hp x (by simp [al])),
    Sd ak (fun t zG=>bw t (List.mem_cons_of_mem _ zG)) ab (fun x al=>hs x (by simp [al])) (fun x al=>hp x (by simp [al])),rfl⟩
theorem Fr.below {W W':World}(h:Fr [] W W'):Below W.heap.size W W':=⟨h.os,h.tape,h.output,h.size,fun k hk=>h.block k hk (by simp)⟩
theorem adA {H:Type}{enc:TypeId×Value→H}{f:Func}{s:ChangeSpec}{W W':World}{args:Array Value}{ds gs:List (DataW H)}{before:List MemPlace}{jx:TypeId}
 (ak:laidOutB P=true) (hp:∀ t∈f.params.toList,P.readableRec t=true∧t<P.types.size) (aA:f.resultTypes= #[jx]) (hb:P.underlying jx=some .bool) (bb:s.vars= [])
 (hs:s.fn H ds= { results:= [.lit (.bool true)],args:=ds })
 (CM:DataW.Whole enc P f.params.toList s.vars false W args.toList ds gs before) (mm:Fr [] W W'):
 s.post enc P f false true false false W args (.bool true) W':=by
 have amc:=CM
 obtain⟨p,q,eM,P7,rfl,bF,aH⟩:=amc
 rw [bb] at P7
 obtain⟨rfl,rfl⟩:=trodVars_none P7
 have cj:∀ x∈p,x.block<W.heap.size:=fun x al=>CM.lt x (by simpa using al)
 have xz:=mm.below
 have aib:∀ x∈p,W.sameAt W' x:=fun x al=>xz.same (cj x al)
 have aky:∀ (b:Nat) (sp:Nat→Bool) (hd:Bool),DataW.TrodAll enc P W' b sp hd f.resultTypes.toList ((Value.bool true).resultList f.resultTypes.size) [.lit (.bool true)] []:=by
  intro b sp hd;rw [aA];exact⟨[],[],shut_bool hb true,rfl,rfl⟩
 refine⟨ds,[],p++[],[],p,[],CM,?_,?_,?_,World.keptBut_mono (fun x al=>?_) (xz.frame fun _=>False),fun h=>by cases h⟩
 ·rw [List.append_nil,hs];exact aky _ _ _
 ·rw [List.append_nil,hs];exact Sd ak hp eM aib (fun x al=>by simpa using cj x al)
 ·rw [List.append_nil,hs,bb];rfl
 exact al.elim
end Gv
namespace Gv
open Go Go.ChangeShapes Go.WideShapes Go.RowKit
theorem adB {P:Program}{fits:TypeId→Bool}{d:Nat}{e:TypeId}{count off n:Nat}(h:rowAt P fits d e count off n=true):off≤count * P.cellsOf e:=by
 cases d with
 | zero=>cases h
 | succ d=>
   unfold rowAt at h
   simp only at h
   split at h
   ·cases h
   rename_i hs
   have hp:0<P.cellsOf e:=Nat.pos_of_ne_zero hs
   have ar8:=Nat.div_add_mod off (P.cellsOf e)
   rw [Bool.or_eq_true] at h
   rcases h with h | h
   ·simp only [Bool.and_eq_true,beq_iff_eq,decide_eq_true_eq] at h
    have:P.cellsOf e * (off / P.cellsOf e)≤P.cellsOf e * count:=Nat.mul_le_mul_left _ (by omega)
    rw [Nat.mul_comm count];omega
   simp only [Bool.and_eq_true,decide_eq_true_eq] at h
   have hm:=Nat.mod_lt off hp
   have:P.cellsOf e * (off / P.cellsOf e+1)≤P.cellsOf e * count:=Nat.mul_le_mul_left _ (by omega)
   rw [Nat.mul_add] at this
   rw [Nat.mul_comm count];omega
theorem Se {P:Program} :∀ {d:Nat} {e:TypeId} {count off:Nat} {u:TypeId} {n:Nat},liesAt P d e count off u n=true→off≤count * P.cellsOf e
 | 0,_,_,_,_,_,h=>by cases h
 | d+1,e,count,off,u,n,h=>by
   unfold liesAt at h;rw [Bool.or_eq_true] at h;rcases h with h | h
   ·exact adB h
   split at h
   ·exact Se h
   cases h
structure FC (P:Program)(t:TypeId)(α:Type)[ah α]:Prop where
 top:∀ {H:Type} {enc:TypeId×Value→H} {W:World} {n b:Nat} {v:Value} {x:DataW H×List MemPlace},DataW.trod enc P W 0 (fun _=>true) true n t v.cells.toList=some x→Value.okWide P W .any b t v→ ∃ a:α,(I.of a).holds [] W v
variable {P:Program} {t e:TypeId}
theorem adC {α:Type}[ah α](hu:P.underlying t=some (.slice e))(he:Arg P e α)(bF:Nat.beq (ah.size α) 0=false){H:Type}{enc:TypeId×Value→H}{W:World}{n b:Nat}{v:Value}{x:DataW H×List MemPlace}
 (h:DataW.trod enc P W 0 (fun _=>true) true n t [v]=some x) (jo:Cell.okWide P W .any b t v):∃ a:List α,(I.of a).holds [] W v:=by
 have s0:ah.size α≠0:=fun h=>by rw [h] at bF;cases bF
 rcases DataW.trod_slice hu h with⟨h1,_⟩ | ⟨a,len,cap,elems,rest,m,_,h1,_,_,ar9,zx,s7,akz,apu,_⟩
 ·have:=List.singleton_inj.1 h1
  subst this
  exact⟨[],pf.2 (.inl ⟨rfl,rfl⟩)⟩
 have:=List.singleton_inj.1 h1
 subst this
 unfold Cell.okWide at jo
 simp only [hu] at jo
 unfold Cell.ok at jo
 rw [hu] at jo
 obtain⟨_,_,_,VR,row,cells,Cx,akA⟩:=jo
 obtain⟨YU,wc,asa⟩:=a
 simp only at VR
 subst VR
 unfold World.shape? at Cx
 cases e7:W.heap[YU]? with
 | none=>rw [e7] at Cx;cases Cx
 | some qz=>
   rw [e7] at Cx
   cases qz <;> simp at Cx
   rename_i uk T hU
   obtain⟨th,dK⟩:=Cx
   have ara:wc≤uk.size:=by
    have a7:wc≤_:=Se akA;have bl:=Nat.div_mul_le_self cells (P.cellsOf row);omega
   have aic:=he.cells
   have gZ:∀ i,i<len→ ∃ a:α,ah.rep [] W ((uk.toList.drop (wc+i * ah.size α)).take (ah.size α)) a∧wc+(i+1) * ah.size α≤uk.size:=fun i ao=>by
    have a7:=akz i ao;rw [List.getElem?_eq_getElem (by omega)] at a7;obtain⟨eP,bl,cN⟩:=Option.bind_eq_some_iff.1 a7;obtain⟨_,ak,ad⟩:=World.cells?_some bl;rw [aic] at ak ad bl;have y6:∀ j,j<ah.size α→uk[wc+i * ah.size α+j]? =eP[j]? :=fun j aB=>by
     rw [← ad j aB,kI,kI];unfold World.cell?;simp [e7]
    have heq:(uk.toList.drop (wc+i * ah.size α)).take (ah.size α)=eP:=by
     apply List.ext_getElem?;intro j;rw [List.getElem?_take];by_cases aB:j<ah.size α
     ·rw [if_pos aB,List.getElem?_drop,Array.getElem?_toList];exact y6 j aB
     rw [if_neg aB];symm;exact List.getElem?_eq_none (by omega)
    obtain⟨a,aW⟩:=he.read cN;refine⟨a,by rw [heq];exact aW,?_⟩;have cW:=y6 (ah.size α - 1) (by omega);rw [List.getElem?_eq_getElem (show ah.size α - 1<eP.length by omega)] at cW;have:=(Array.getElem?_eq_some_iff.1 cW).1;rw [Nat.add_mul];omega
   have hex:∃ xs:List α,xs.length=len∧ ∀ i (h:i<xs.length),ah.rep [] W ((uk.toList.drop (wc+i * ah.size α)).take (ah.size α)) xs[i]:=by
    refine⟨List.ofFn fun i:Fin len=>(gZ i.1 i.2).choose,by simp,fun i ao=>?_⟩;have hF:i<len:=by simpa using ao
    rw [List.getElem_ofFn];exact(gZ i hF).choose_spec.1
   obtain⟨xs,F5,O1⟩:=hex
   have hbound:wc+xs.length * ah.size α≤uk.size:=by
    rw [F5];rcases Nat.eq_zero_or_pos len with bq | bq
    ·rw [bq];omega
    have:=(gZ (len - 1) (by omega)).choose_spec.2;rw [show len - 1+1=len by omega] at this;exact this
   refine⟨xs,pf.2 (.inr ⟨YU,wc,cap,uk,T,hU,by rw [F5],by simp,e7,by omega,by omega,hbound,?_,fun i ao=>?_⟩)⟩
   ·rw [List.length_take,List.length_drop];simp;omega
   have hle:(i+1) * ah.size α≤xs.length * ah.size α:=Nat.mul_le_mul_right _ ao
   rw [Nat.succ_mul] at hle
   rw [yr _ _ _ _ _ hle]
   exact O1 i ao
theorem FC.amd {α:Type}[ah α](hu:P.underlying t=some (.slice e))(he:Arg P e α)(bF:Nat.beq (ah.size α) 0=false):FC P t (List α) where
 top {H enc W n b v x} h jo:=by
  have Ce:Cell.okWide P W .any b t v:=by
   unfold Value.okWide at jo;simp only [hu] at jo;exact jo
  have akB:v.oneCell'=true:=by
   unfold Cell.okWide at Ce;simp only [hu] at Ce;unfold Cell.ok at Ce;rw [hu] at Ce;cases v <;> first | rfl | simp at Ce
  rw [cells_one akB] at h;exact adC hu he bF h Ce
theorem RO {H:Type}{enc:TypeId×Value→H}{W:World}{dk:List TypeId}{vs:List Value}{ds:List (DataW H)}{dS:List MemPlace}{α:Type}[ah α]{b:Nat}(aW:FC P t α)
 (h:DataW.TrodAll enc P W 0 (fun _=>true) true (t::dk) vs ds dS) (jo:∀ (j:Nat) u v,(t::dk)[j]? =some u→vs[j]? =some v→Value.okWide P W .any b u v):
 ∃ (a:α) (v:Value) (O2:List Value) (X3:List (DataW H)) (ame:List MemPlace) (d:DataW H),vs=v::O2∧ds=d::X3∧ (I.of a).holds [] W v∧DataW.TrodAll enc P W 0 (fun _=>true) true dk O2 X3 ame∧
   (∀ (j:Nat) u w,dk[j]? =some u→O2[j]? =some w→Value.okWide P W .any b u w):=by
 obtain⟨v,OZ,d,O0,p,q,rfl,rfl,rfl,⟨n,h1⟩,ab⟩:=trodAll_cons h
 obtain⟨a,ax⟩:=aW.top h1 (jo 0 t v rfl rfl)
 exact⟨a,v,OZ,O0,q,d,rfl,rfl,ax,ab,fun j u w aB hw=>jo (j+1) u w (by simpa using aB) (by simpa using hw)⟩
end Gv
namespace Gv
open Go
theorem ab2 {L' L:List aF}(h:L'.Sublist L):(aP L').Sublist (aP L):=by
 induction h with
 | slnil=>simp [aP]
 | cons e _ b2=>cases hk:e.key <;> simp only [aP,hk] <;> first | exact b2 | exact b2.cons _
 | cons_cons e _ b2=>cases hk:e.key <;> simp only [aP,hk] <;> first | exact b2 | exact b2.cons_cons _
theorem aF.uS {e:aF}{A cM W W'}(h:e.ok A W)(x:Ext A W cM W')(hb:∀ p,e.key=some p→W'.heap[p]? =W.heap[p]?):e.ok cM W':=by
 unfold aF.ok at *;cases hk:e.key with
 | none=>rw [hk] at h;exact h
 | some p=>
   rw [hk] at h
   obtain⟨o,h1,ab⟩:=h
   exact⟨o,by rw [hb p hk];exact h1,eG.mono _ x ab⟩
def kZ (X bZ:List Nat)(jY:World){δ:Type}(ρ:δ→I)(Lo:δ→List aF):Ending→World→Prop:=fun e W'=>
 ∃ v d,e= .returned v∧Fr X jY W'∧ (aP (Lo d)).Nodup∧ (∀ k∈aP (Lo d),k<W'.heap.size∧ (k<jY.heap.size→k∈X)∧k ∉ bZ)∧ (∀ e∈Lo d,e.ok (aP (Lo d)++bZ) W')∧ (ρ d).holds (aP (Lo d)++bZ) W' v
def bJ (P:Program)(f:FuncId)(τs:List I)(Lin:List aF){δ:Type}(ρ:δ→I)(Lo:δ→List aF):Prop:=
 ∀ (A:List Nat) (W:World) (vs:List Value),(∀ k∈A,k<W.heap.size∧k ∉ aP Lin)→ (aP Lin).Nodup→ (∀ k∈aP Lin,k<W.heap.size)→ (∀ e∈Lin,e.ok (aP Lin++A) W)→ho (aP Lin++A) W τs vs→
   Calls P f vs.toArray W (kZ (aP Lin) A W ρ Lo)
theorem bJ.of {P:Program}{f:FuncId}{fn:Func}{code:Code}{n:Nat}{τs:List I}{Lin:List aF}{δ:Type}{ρ:δ→I}{Lo:δ→List aF}(aT:P.funcs[f]? =some fn)(hb:fn.body=some code)(aH:fn.ntmps=n)(hlen:Nat.ble τs.length n=true)
 (h:∀ W A,aw ⟨P,n,W,aP Lin,A,none,[]⟩ (bodyPost P fn (kZ (aP Lin) A W ρ Lo)) code (params 0 τs) Lin):bJ P f τs Lin ρ Lo:=by
 intro A W vs eM kk cj jo bb
 refine calls_of_wp aT hb (wpIn_wide.1 (h W A _ _ ?_))
 have ak:=bb.length
 have hle:τs.length≤n:=Nat.le_of_ble_eq_true hlen
 exact
 {defers:=rfl
  size:=by simp [aH,ak];omega
  env:=fun t τ lz=>by
   obtain⟨_,v,ab,ax⟩:=Bk bb 0 t τ lz;refine⟨v,?_,ax⟩;have cj:t<vs.length:=(List.getElem?_eq_some_iff.1 ab).1;rw [Array.getElem?_append_left (by simpa using cj)];simpa using ab
  dO:= .refl _ _
  own:=jo
  nodup:=kk
  lt:=cj
  gL:=fun k hk _=>hk
  e6:=eM }
section
variable {c:cF} {E:List (Nat×I)} {L:List aF} {ops:Array Oper} {Q:Exit→Act→World→Prop}
variable {d:Option Tmp} {ty:TypeId} {pos:String} {af:Array Edge} {g:Option (Nat×Bool)} {x y:Operand} {t t2:TypeId}
def qo (c:cF)(E:List (Nat×I))(L:List aF)(r:ResultVar)(τ:I):Prop:=
 ∀ a W,bI c E L a W→ ∃ v,(yU a.tmps r).run c.P W= .ok v W∧τ.holds (aP L++c.bZ) W v
theorem dw {t:Nat}{τ:I}(h:look E t=some τ):qo c E L (.tmp t) τ:=fun a W s=>by
 obtain⟨v,h1,ab⟩:=s.env t τ h;exact⟨v,by simp [yU,h1],ab⟩
theorem po {t:Nat}{ty:TypeId}{i p:Nat}{α:Type}[ah α]{x:α}(dP:bO c.P ty α)(h:look E t=some (.eq (.pointer (some ⟨p,0,none⟩))))(aq:L[i]? =some ⟨some p,.var x⟩):qo c E L (.cell t ty) (.of x):=fun a W s=>by
 obtain⟨v,h1,ab⟩:=s.env t _ h;subst ab;obtain⟨qz,e7,cs,T,rfl,gZ⟩:=s.own _ (List.mem_of_getElem? aq);have ak:cs.toList.length=ah.size α:=ah.len gZ;have dK:cs.size=ah.size α:=by simpa using ak
 obtain⟨v,ax,aO⟩:=yn (A:=aP L++c.bZ) (off:=0) dP e7 (by omega) (by rw [List.drop_zero,← ak,List.take_length];exact gZ);exact⟨v,by simp [yU,h1,asAddr,ax],aO⟩
theorem bI.ends {a:Act}{W:World}(s:bI c E L a W){δ:Type}{ρ:δ→I}{Lo:δ→List aF}(ba:δ)(hs:(Lo ba).Sublist L){v:Value}(bb:(ρ ba).holds (aP L++c.bZ) W v):kZ c.X c.bZ c.jY ρ Lo (.returned v) W:=by
 have nD:=ab2 hs;have hk:∀ k∈aP (Lo ba),k∈aP L:=fun k hk=>nD.subset hk;have iz:Ext (aP L++c.bZ) W (aP (Lo ba)++c.bZ) W:= .drop fun k hm=>by
  rcases List.mem_append.1 hm with hm | hm
  ·exact List.mem_append.2 (.inl (hk k hm))
  exact List.mem_append.2 (.inr hm)
 exact⟨v,ba,rfl,s.dO,s.nodup.sublist nD,fun k hm=>⟨s.lt k (hk k hm),s.gL k (hk k hm),fun aW=>(s.e6 k aW).2 (hk k hm)⟩,
  fun e he=>aF.uS (s.own e (hs.subset he)) iz fun _ _=>rfl,I.mono _ iz bb⟩
theorem fE {L L':List aF}(n:Nat)(h:L.drop n=L':=by rfl):L'.Sublist L:=h ▸ List.drop_sublist n L
theorem aj.eh {fn:Func}{r:ResultVar}{τ:I}{δ:Type}{ρ:δ→I}{Lo:δ→List aF}(ba:δ)(hs:(Lo ba).Sublist L)(aA:fn.results= #[r])(q8:ρ ba=τ)(h:qo c E L r τ)(eC:c.ds= []:=by rfl):aj c (bodyPost c.P fn (kZ c.X c.bZ c.jY ρ Lo)) .ret E L:=fun a W s=>by
 subst q8;obtain⟨v,h1,ab⟩:=h a W s;exact⟨s.yG eC,v,by simp [yx,aA,h1],s.ends ba hs ab⟩
theorem aj.rQ {fn:Func}{r gH:ResultVar}{τ oi:I}{δ:Type}{ρ:δ→I}{Lo:δ→List aF}(ba:δ)(hs:(Lo ba).Sublist L)(aA:fn.results= #[r,gH])(q8:ρ ba= .bP [τ,oi])(h:qo c E L r τ)(ab:qo c E L gH oi)(eC:c.ds= []:=by rfl):aj c (bodyPost c.P fn (kZ c.X c.bZ c.jY ρ Lo)) .ret E L:=fun a W s=>by
 obtain⟨v,ax,aO⟩:=h a W s;obtain⟨v2,a7,bl⟩:=ab a W s;exact⟨s.yG eC,.tuple #[v,v2],by simp [yx,aA,ax,a7],s.ends ba hs (by rw [q8];exact⟨_,rfl,.cons aO (.cons bl .nil)⟩)⟩
theorem aj.VK {fn:Func}{r gH qA:ResultVar}{τ oi F1:I}{δ:Type}{ρ:δ→I}{Lo:δ→List aF}(ba:δ)(hs:(Lo ba).Sublist L)(aA:fn.results= #[r,gH,qA])(q8:ρ ba= .bP [τ,oi,F1])(h:qo c E L r τ)(ab:qo c E L gH oi)(ax:qo c E L qA F1)(eC:c.ds= []:=by rfl):aj c (bodyPost c.P fn (kZ c.X c.bZ c.jY ρ Lo)) .ret E L:=fun a W s=>by
 obtain⟨v,ar,f1⟩:=h a W s;obtain⟨v2,aU,f2⟩:=ab a W s;obtain⟨v3,cz,f3⟩:=ax a W s;exact⟨s.yG eC,.tuple #[v,v2,v3],by simp [yx,aA,ar,aU,cz],s.ends ba hs (by rw [q8];exact⟨_,rfl,.cons f1 (.cons f2 (.cons f3 .nil))⟩)⟩
theorem wH:∀ {L:List aF} {i:Nat} {e:aF},L[i]? =some e→L.Perm (e::L.eraseIdx i)
 | [],i,e,h=>by simp at h
 | x::r,0,e,h=>by simp only [List.getElem?_cons_zero,Option.some.injEq] at h;subst h;exact .refl _
 | x::r,i+1,e,h=>by
   simp only [List.getElem?_cons_succ] at h;exact((wH h).cons x).trans (.swap e x _)
theorem bI.bm {a:Act}{W:World}(s:bI c E L a W){i:Nat}{e:aF}(h:L[i]? =some e):bI c E (e::L.eraseIdx i) a W:=s.perm (wH h)
theorem J.bm {l:List Oper}(i:Nat){e:aF}(h:L[i]? =some e)(k:J c ops Q l E (e::L.eraseIdx i)):J c ops Q l E L:=fun a W s=>k a W (s.bm h)
theorem aj.bm {z:Exit}(i:Nat){e:aF}(h:L[i]? =some e)(k:aj c Q z E (e::L.eraseIdx i)):aj c Q z E L:=fun a W s=>k a W (s.bm h)
theorem bI.after {a:Act}{W W':World}{Lin Lr:List aF}(s:bI c E (Lin++Lr) a W){Lo:List aF}(aT:Fr (aP Lin) W W')(kk:(aP Lo).Nodup)
 (hk:∀ k∈aP Lo,k<W'.heap.size∧ (k<W.heap.size→k∈aP Lin)∧k ∉ aP Lr++c.bZ) (jo:∀ e∈Lo,e.ok (aP Lo++(aP Lr++c.bZ)) W'):bI c E (Lo++Lr) a W':=by
 have iz:Ext (aP (Lin++Lr)++c.bZ) W (aP (Lo++Lr)++c.bZ) W':=
  ⟨aT.size,fun k cj aW=>aT.block k cj fun hm=>aW (by rw [ff];simp [hm]),fun k hm cj=>by
   rw [ff] at hm ⊢;simp only [List.mem_append] at hm ⊢;rcases hm with(hm | hm) | hm
   ·exact .inl (.inl ((hk k hm).2.1 cj))
   ·exact .inl (.inr hm)
   exact .inr hm⟩
 have mz:=s.nodup
 rw [ff] at mz
 obtain⟨om,qp,q9⟩:=List.nodup_append.1 mz
 have Cn:∀ k∈aP Lr,k<W.heap.size∧k ∉ aP Lin:=fun k hm=>⟨s.lt k (by rw [ff];exact List.mem_append.2 (.inr hm)),fun h=>q9 k h k hm rfl⟩
 exact
 {defers:=s.defers
  size:=s.size
  env:=fun t τ ak=>let⟨v,h1,ab⟩:=s.env t τ ak; ⟨v,h1,τ.mono iz ab⟩
  dO:=⟨aT.os.trans s.dO.os,aT.tape.trans s.dO.tape,aT.output.trans s.dO.output,Nat.le_trans s.dO.drawn aT.drawn,Nat.le_trans s.dO.size aT.size,fun k cj al=>
   (aT.block k (Nat.lt_of_lt_of_le cj s.dO.size) fun hm=>al (s.gL k (by rw [ff];exact List.mem_append.2 (.inl hm)) cj)).trans (s.dO.block k cj al)⟩
  own:=fun e he=>by
   rcases List.mem_append.1 he with he | he
   ·have:=jo e he;refine aF.uS this (.drop fun k hm=>?_) fun _ _=>rfl;rw [ff] at hm;simp only [List.mem_append] at hm ⊢;rcases hm with(hm | hm) | hm
    ·exact .inl hm
    ·exact .inr (.inl hm)
    exact .inr (.inr hm)
   exact aF.uS (s.own e (List.mem_append.2 (.inr he))) iz fun p hp=>by
    have:=Cn p (rH.2 ⟨e,he,hp⟩);exact aT.block p this.1 this.2
  nodup:=by
   rw [ff];exact List.nodup_append.2 ⟨kk,qp,fun k h1 j ab e=>by subst e;exact(hk k h1).2.2 (List.mem_append.2 (.inl ab))⟩
  lt:=fun k hm=>by
   rw [ff] at hm;rcases List.mem_append.1 hm with hm | hm
   ·exact(hk k hm).1
   exact Nat.lt_of_lt_of_le (Cn k hm).1 aT.size
  gL:=fun k hm bq=>by
   rw [ff] at hm;have cj:k<W.heap.size:=Nat.lt_of_lt_of_le bq s.dO.size;rcases List.mem_append.1 hm with hm | hm
   ·exact s.gL k (by rw [ff];exact List.mem_append.2 (.inl ((hk k hm).2.1 cj))) bq
   exact s.gL k (by rw [ff];exact List.mem_append.2 (.inr hm)) bq
  e6:=fun k hm=>by
   obtain⟨h1,ab⟩:=s.e6 k hm;refine⟨Nat.lt_of_lt_of_le h1 aT.size,fun h=>?_⟩;rw [ff] at h ab;rcases List.mem_append.1 h with h | h
   ·exact(hk k h).2.2 (List.mem_append.2 (.inr hm))
   exact ab (List.mem_append.2 (.inr h)) }
theorem iJ.Uj {xs:List Operand}{τs:List I}(h:iJ c E L xs τs){a:Act}{W:World}(s:bI c E L a W):ho (aP L++c.bZ) W τs (xs.map a.eval):=h.holds a W s
theorem Ew {a:Act}{W:World}{f:FuncId}{xs:List Operand}{ats:Array TypeId}{τs:List I}{Lin Lr:List aF}{δ:Type}{ρ:δ→I}{Lo:δ→List aF}(cn:bM c.P f)(h:bJ c.P f τs Lin ρ Lo)
 (s:bI c E (Lin++Lr) a W) (al:ho (aP (Lin++Lr)++c.bZ) W τs (xs.map a.eval)):
 hy c.P ⟨d,.call ⟨.value (.func f),xs.toArray,ats⟩,ty,pos,af,g⟩ a W fun v W'=> ∃ ba,bI c E (Lo ba++Lr) a W'∧ (ρ ba).holds (aP (Lo ba++Lr)++c.bZ) W' v:=by
 have mz:=s.nodup
 rw [ff] at mz
 obtain⟨om,qp,q9⟩:=List.nodup_append.1 mz
 have lr:Ext (aP (Lin++Lr)++c.bZ) W (aP Lin++(aP Lr++c.bZ)) W:= .drop fun k hm=>by
  rw [ff];simp only [List.mem_append] at hm ⊢;rcases hm with hm | hm | hm
  ·exact .inl (.inl hm)
  ·exact .inl (.inr hm)
  exact .inr hm
 have eM:∀ k∈aP Lr++c.bZ,k<W.heap.size∧k ∉ aP Lin:=fun k hm=>by
  rcases List.mem_append.1 hm with hm | hm
  ·exact⟨s.lt k (by rw [ff];exact List.mem_append.2 (.inr hm)),fun h=>q9 k h k hm rfl⟩
  obtain⟨h1,ab⟩:=s.e6 k hm;exact⟨h1,fun h=>ab (by rw [ff];exact List.mem_append.2 (.inl h))⟩
 have cj:∀ k∈aP Lin,k<W.heap.size:=fun k hm=>s.lt k (by rw [ff];exact List.mem_append.2 (.inl hm))
 refine .wL (f:=f) (args:=(xs.map a.eval).toArray) (W':=W) (by simp [execOp,resolve,Deferred.ofValue,Act.eval,invoke,cn.run]) ?_
 refine(h (aP Lr++c.bZ) W (xs.map a.eval) eM om cj (fun e he=>aF.uS (s.own e (List.mem_append.2 (.inl he))) lr fun _ _=>rfl) (al.mono lr)).mono fun e W' ⟨v,ba,he,aT,h1,ab,ax,aO⟩=>?_
 refine⟨v,he,ba,s.after aT h1 ab ax,(ρ ba).mono (.drop fun k hm=>?_) aO⟩
 rw [ff] at hm
 simp only [List.mem_append] at hm ⊢
 rcases hm with(hm | hm) | hm
 ·exact .inl hm
 ·exact .inr (.inl hm)
 exact .inr (.inr hm)
theorem J.lj {rest:List Oper}{ba:Nat}{f:FuncId}{xs:List Operand}{ats:Array TypeId}{τs:List I}{Lin Lr:List aF}{δ:Type}{ρ:δ→I}{Lo:δ→List aF}(cn:bM c.P f)(h:bJ c.P f τs Lin ρ Lo)
 (al:iJ c E (Lin++Lr) xs τs) (aH:Nat.blt ba c.n=true) (k:∀ q,J c ops Q rest ((ba,ρ q)::E) (Lo q++Lr)):
 J c ops Q (⟨some ba,.call ⟨.value (.func f),xs.toArray,ats⟩,ty,pos,af,none⟩::rest) E (Lin++Lr):=fun a W s=>
 iP rfl (Ew cn h s (al.holds a W s)) fun v W' ⟨q,cf,bb⟩=>k q _ _ (cf.put (by simpa using aH) bb)
end
def hD {α:Type}(xs:List α)(k:Nat)(v:α):List α:=xs.set k v
section
variable {c:cF} {E:List (Nat×I)} {L:List aF} {ops:Array Oper} {Q:Exit→Act→World→Prop}
variable {d:Option Tmp} {ty:TypeId} {pos:String} {af:Array Edge} {g:Option (Nat×Bool)} {x y:Operand} {t t2:TypeId}
theorem bI.rowAt {a:Act}{W:World}(s:bI c E L a W){i:Nat}{key:Option Nat}{T cap:Nat}{α:Type}[ah α]{xs:List α}(aq:L[i]? =some ⟨key,.row T xs cap⟩)(al:0<xs.length):
 ∃ p cs,key=some p∧W.heap[p]? =some (.cells cs T (0,0))∧cs.size=cap * ah.size α∧xs.length≤cap∧cap≤maxLen∧hx (aP L++c.bZ) W (cs.toList.take (xs.length * ah.size α)) xs:=by
 have bg:=s.own _ (List.mem_of_getElem? aq)
 cases key with
 | none=>have:xs= []:=bg.1;subst this;simp at al
 | some p=>
   obtain⟨o,e7,cs,rfl,h1,ab,ax,aO⟩:=bg
   exact⟨p,cs,rfl,e7,h1,ab,ax,aO⟩
theorem mw {e i k T cap:Nat}{key:Option Nat}{α:Type}[ah α]{xs:List α}{z:Int}(hu:c.P.underlying t=some (.slice e))(eH:bO c.P e α)(al:aN c E L x (.eq (aJ key xs.length cap)))(aR:aN c E L y (.of z))
 (aq:L[i]? =some ⟨key,.row T xs cap⟩) (hk:k<xs.length∧z=k):bc c E L ⟨d,.indexAddr t x y,ty,pos,af,g⟩ (.eq (.pointer (some ⟨key.getD 0,k * ah.size α,none⟩))):= .pure fun a W s=>by
 obtain⟨bl,rfl⟩:=hk
 obtain⟨p,cs,rfl,_⟩:=s.rowAt aq (by omega)
 have h1:a.eval x=_:=al a W s
 have a7:=of_int.1 (aR a W s)
 obtain⟨gP,ej,dK⟩:=eH.info
 exact⟨_,by simp [execOp,Instr.indexAt,asIntOf,run_underlying hu,h1,a7,bl,Go.sizeOf,typeInfo,ej,dK,kI,aJ];rfl,by simp [I.eq]⟩
theorem BI {k n s:Nat}(h:k<n):k * s+s≤n * s:=by rw [← Nat.succ_mul];exact Nat.mul_le_mul_right _ h
theorem qO {i k T cap o:Nat}{key:Option Nat}{α γ:Type}[ah α][Inhabited α][ah γ]{xs:List α}(l:aK α γ){r:γ}(dP:bO c.P t γ)(al:aN c E L x (.eq (.pointer (some ⟨key.getD 0,o,none⟩))))
 (aq:L[i]? =some ⟨key,.row T xs cap⟩) (hk:k<xs.length) (bg:o=k * ah.size α+l.off) (aA:l.get (au xs k)=r):bc c E L ⟨d,.load t x,ty,pos,af,g⟩ (.of r):= .pure fun a W s=>by
 subst bg;subst aA
 obtain⟨p,cs,rfl,e7,h1,ab,ax,aO⟩:=s.rowAt aq (by omega)
 have fT:=BI (s:=ah.size α) hk
 have ak:=l.hf
 have hle:xs.length * ah.size α≤cap * ah.size α:=Nat.mul_le_mul_right _ ab
 have gZ:=l.jL (aO.2 k hk)
 rw [yr _ _ _ _ _ l.hf,List.drop_take,List.take_take,Nat.min_eq_left (by omega)] at gZ
 rw [dm xs hk]
 obtain⟨v,a7,bl⟩:=yn (A:=aP L++c.bZ) dP e7 (off:=k * ah.size α+l.off) (by omega) gZ
 have cN:a.eval x=_:=al a W s
 simp only [Option.getD_some] at cN
 exact⟨v,by simp [execOp,Instr.loadAt,Instr.sureAddr,cN,a7],bl⟩
theorem J.yN {rest:List Oper}{i k T cap o:Nat}{key:Option Nat}{α γ:Type}[ah α][Inhabited α][ah γ]{xs r:List α}{v:γ}(l:aK α γ)(dP:bO c.P t γ)(al:aN c E L x (.eq (.pointer (some ⟨key.getD 0,o,none⟩))))(aR:aN c E L y (.of v))
 (aq:L[i]? =some ⟨key,.row T xs cap⟩) (hk:k<xs.length) (bg:o=k * ah.size α+l.off) (aA:hD xs k (l.set (au xs k) v)=r)
 (k':J c ops Q rest E (L.set i ⟨key,.row T r cap⟩)):J c ops Q (⟨none,.store t x y,ty,pos,af,none⟩::rest) E L:=fun a W s=>by
 subst bg;subst aA
 obtain⟨p,cs,rfl,e7,h1,ab,ax,aO⟩:=s.rowAt aq (by omega)
 have fT:=BI (s:=ah.size α) hk
 have ak:=l.hf
 have hle:xs.length * ah.size α≤cap * ah.size α:=Nat.mul_le_mul_right _ ab
 have bb:=aR a W s
 have r7:(a.eval y).cells.toList.length=ah.size γ:=ah.len bb.2
 have a7:=HK (A:=aP L++c.bZ) dP e7 (off:=k * ah.size α+l.off) (by omega) bb
 have cN:a.eval x=_:=al a W s
 simp only [Option.getD_some] at cN
 refine iP rfl (R:=fun v W'=>W'=W.setRow p (gY cs.toList (k * ah.size α+l.off) (a.eval y).cells.toList).toArray) (.Bv ?_ rfl) fun u W' hw=>?_
 ·simp [execOp,Instr.storeAt,Instr.sureAddr,cN,a7]
 subst hw
 refine k' _ _ (s.store aq e7 ?_)
 have mc:cs.toList.length=cap * ah.size α:=by simpa using h1
 have r8:(gY cs.toList (k * ah.size α+l.off) (a.eval y).cells.toList).length=cs.toList.length:=by
  simp only [gY,List.length_append,List.length_take,List.length_drop,r7];omega
 refine⟨_,rfl,by simpa [mc] using r8,by simpa [hD] using ab,ax,?_⟩
 have g1:=aO.2 k hk
 have g2:=l.nr g1 bb.2
 have g3:=LM aO hk g2
 have oW:(cs.toList.take (xs.length * ah.size α)).length=xs.length * ah.size α:=by rw [List.length_take];omega
 rw [Sb _ _ _ _ _ _ l.hf (by omega)] at g3
 have hlen:(hD xs k (l.set (au xs k) v)).length=xs.length:=by simp [hD]
 rw [hlen,List.toList_toArray]
 have e:(gY cs.toList (k * ah.size α+l.off) (a.eval y).cells.toList).take (xs.length * ah.size α)=
  (cs.toList.take (xs.length * ah.size α)).take (k * ah.size α+l.off)++(a.eval y).cells.toList++(cs.toList.take (xs.length * ah.size α)).drop (k * ah.size α+l.off+ah.size γ):=by
  have ar:(cs.toList.take (k * ah.size α+l.off)).length=k * ah.size α+l.off:=by rw [List.length_take];omega
  have aU:(cs.toList.take (k * ah.size α+l.off)++(a.eval y).cells.toList).length=k * ah.size α+l.off+ah.size γ:=by rw [List.length_append,ar,r7]
  rw [gY,r7,List.take_append,aU,List.take_of_length_le (by omega),List.take_take,Nat.min_eq_left (by omega),List.drop_take]
 rw [e,show hD xs k (l.set (au xs k) v)=xs.set k (l.set xs[k] v) by rw [hD,dm xs hk]]
 exact g3
def iY (key:Option Nat)(lo n cap size:Nat):Value:=match key with
 | some p=>.slice (some (if cap=lo then⟨p,0,none⟩ else⟨p,lo * size,none⟩)) n (cap - lo)
 | none=>.slice none 0 0
theorem Bm {key:Option Nat}{n cap size:Nat} :iY key 0 n cap size=aJ key n cap:=by
 cases key <;> simp [iY,aJ]
theorem Bp {i T cap:Nat}{key:Option Nat}{α:Type}[ah α]{xs:List α}{e:TypeId}{lo ao:Option Operand}{m n:Nat}{GO GP:Int}(hu:c.P.underlying t=some (.slice e))(eH:bO c.P e α)(al:aN c E L x (.eq (aJ key xs.length cap)))
 (aq:L[i]? =some ⟨key,.row T xs cap⟩) (hg:xM c E L lo GO 0) (gr:xM c E L ao GP xs.length) (hm:GO=m) (aH:GP=n) (h:m≤n∧n≤xs.length):
 bc c E L ⟨d,.slice t x lo ao none,ty,pos,af,g⟩ (.eq (iY key m (n - m) cap (ah.size α))):= .pure fun a W s=>by
 subst hm;subst aH
 obtain⟨vC,lA⟩:=h
 obtain⟨gP,ej,dK⟩:=eH.info
 have h1:a.eval x=_:=al a W s
 have bg:=s.own _ (List.mem_of_getElem? aq)
 cases key with
 | none=>
   have oV:xs= []:=bg.1
   subst oV
   have ui:n=0:=by simpa using lA
   have ih:m=0:=by omega
   subst ui
   subst ih
   refine⟨.slice none 0 0,?_,rfl⟩
   have aq:(match lo.map a.eval with | some v=>Instr.sliceBound v 0 .sliceB | none=>pure 0:Sem Nat).run c.P W= .ok 0 W:=by
    cases hg with
    | none=>rfl
    | some ak=>exact rz (Nat.le_refl _) (of_int.1 (ak a W s))
   have hH:(match ao.map a.eval,(none:Option Value) with | some v,some _=>Instr.sliceBound v 0 .slice3B | some v,none=>Instr.sliceBound v 0 .sliceAcap | none,none=>pure 0 | none,some _=>stuck "Slice: max without high" :Sem Nat).run c.P W= .ok 0 W:=by
    cases gr with
    | none=>rfl
    | some ak=>exact rz (Nat.le_refl _) (of_int.1 (ak a W s))
   cases hg <;> cases gr
   all_goals
    simp only [aJ,execOp,Instr.sliceAt,Instr.slice,Instr.sliceBounds,h1,Sem.run_bind,run_underlying hu,Result.andThen_ok,Option.map_none,Option.map_some,Option.isSome_none,Bool.false_eq_true,if_false,if_true,Sem.run_pure] at aq hH ⊢
    try simp only [aq,hH,Result.andThen_ok,Go.sizeOf,typeInfo,Sem.run_bind,run_program,ej,Sem.run_pure]
    try simp [ej]
 | some p=>
   obtain⟨o,e7,cs,rfl,g1,g2,g3,g4⟩:=bg
   refine⟨_,?_,rfl⟩
   simp only [iY]
   have aq:∀ v,v=Value.int .i64 m→ (Instr.sliceBound v n .sliceB).run c.P W= .ok m W:=fun v bb=>rz vC bb
   have hH:∀ v,v=Value.int .i64 n→ (Instr.sliceBound v cap .sliceAcap).run c.P W= .ok n W:=fun v bb=>rz (by omega) bb
   generalize fT:(n:Int)=YP at gr
   generalize vM:(m:Int)=YQ at hg
   generalize F5:(xs.length:Int)=YR at gr
   generalize X0:(0:Int)=YS at hg
   cases hg with
   | none=>
     have ih:m=0:=by omega
     cases gr with
     | none=>
       have lA:n=xs.length:=by omega
       subst lA
       subst ih
       simp [execOp,Instr.sliceAt,Instr.slice,Instr.sliceBounds,h1,aJ,run_underlying hu,Go.sizeOf,typeInfo,ej,dK,kI]
     | some bQ=>
       subst fT
       subst ih
       simp [execOp,Instr.sliceAt,Instr.slice,Instr.sliceBounds,h1,aJ,run_underlying hu,Go.sizeOf,typeInfo,ej,dK,kI,hH _ (of_int.1 (bQ a W s))]
   | some ak=>
     subst vM
     cases gr with
     | none=>
       have lA:n=xs.length:=by omega
       subst lA
       simp [execOp,Instr.sliceAt,Instr.slice,Instr.sliceBounds,h1,aJ,run_underlying hu,Go.sizeOf,typeInfo,ej,dK,kI,aq _ (of_int.1 (ak a W s))]
       split <;> rfl
     | some bQ=>
       subst fT
       simp [execOp,Instr.sliceAt,Instr.slice,Instr.sliceBounds,h1,aJ,run_underlying hu,Go.sizeOf,typeInfo,ej,dK,kI,aq _ (of_int.1 (ak a W s)),hH _ (of_int.1 (bQ a W s))]
       split <;> rfl
theorem bI.again {a:Act}{W:World}(s:bI c E L a W){i:Nat}{key:Option Nat}{cp cp':eG}(aq:L[i]? =some ⟨key,cp⟩)(h:∀ A W o,cp.holds A W o→cp'.holds A W o)(aH:cp.oM→cp'.oM):bI c E (L.set i ⟨key,cp'⟩) a W:=by
 have ig:aP (L.set i ⟨key,cp'⟩)=aP L:=IT (e:=⟨key,cp⟩) (cp:=cp') aq;exact
 {defers:=s.defers
  size:=s.size
  env:=fun t τ ak=>by rw [ig];exact s.env t τ ak
  dO:=s.dO
  own:=fun e he=>by
   rw [ig];obtain⟨j,aB⟩:=List.mem_iff_getElem?.1 he;rw [List.getElem?_set] at aB;split at aB
   ·split at aB
    ·simp only [Option.some.injEq] at aB;subst aB;have bg:=s.own _ (List.mem_of_getElem? aq);cases key with
     | none=>exact aH bg
     | some p=>obtain⟨o,h1,ab⟩:=bg;exact⟨o,h1,h _ _ _ ab⟩
    cases aB
   exact s.own e (List.mem_of_getElem? aB)
  nodup:=by rw [ig];exact s.nodup
  lt:=by rw [ig];exact s.lt
  gL:=by rw [ig];exact s.gL
  e6:=by rw [ig];exact s.e6 }
theorem Ih {T cap n:Nat}{α:Type}[ah α]{xs:List α}(aH:n≤xs.length){A W o}(h:(eG.row T xs cap).holds A W o):(eG.row T (xs.take n) cap).holds A W o:=by
 obtain⟨cs,rfl,h1,ab,ax,aO⟩:=h;have ak:(xs.take n).length=n:=by rw [List.length_take];omega
 have hle:n * ah.size α≤xs.length * ah.size α:=Nat.mul_le_mul_right _ aH;have JF:xs.length * ah.size α≤cap * ah.size α:=Nat.mul_le_mul_right _ ab;refine⟨cs,rfl,h1,by omega,ax,?_⟩;rw [ak];have mc:cs.toList.length=cap * ah.size α:=by simpa using h1
 refine⟨by rw [List.length_take,ak];omega,fun i ao=>?_⟩;have hF:i<n:=by omega
 have fT:=BI (s:=ah.size α) hF;have:=aO.2 i (by omega);rw [List.drop_take,List.take_take,Nat.min_eq_left (by omega)] at this ⊢;rw [List.getElem_take];exact this
theorem J.VM {l:List Oper}{i T cap n:Nat}{key:Option Nat}{α:Type}[ah α]{xs r:List α}(ba:Nat)(ak:look E ba=some (.eq (iY key 0 (n - 0) cap (ah.size α))))(aq:L[i]? =some ⟨key,.row T xs cap⟩)(aH:n≤xs.length)(aA:xs.take n=r)
 (k:J c ops Q l ((ba,.eq (aJ key r.length cap))::E) (L.set i ⟨key,.row T r cap⟩)):J c ops Q l E L:=fun a W s=>by
 subst aA
 have hlen:(xs.take n).length=n:=by rw [List.length_take];omega
 have cf:=s.again aq (fun _ _ _ h=>Ih aH h) (cp':= .row T (xs.take n) cap) (fun⟨h1,ab⟩=>⟨by rw [h1];simp,ab⟩)
 refine k a W { cf with env:=fun t τ e1=>?_ }
 simp only [look] at e1
 by_cases e:Nat.beq ba t=true
 ·rw [e] at e1
  simp only [cond_true,Option.some.injEq] at e1
  subst e1
  have:=eS.1 e
  subst this
  obtain⟨v,h1,ab⟩:=s.env ba _ ak
  refine⟨v,h1,?_⟩
  have mb:v=_:=ab
  rw [Nat.sub_zero,Bm] at mb
  rw [hlen]
  exact mb
 simp only [Bool.not_eq_true] at e
 rw [e] at e1
 exact cf.env t τ e1
end
def tF {α:Type}[Inhabited α](xs:List α)(lo n:Nat):List α:=xs.take lo++List.replicate n default++xs.drop (lo+n)
theorem Sf {α:Type}[ah α]{A W}{cs ds:List Value}{xs ys:List α}{lo:Nat}(h:hx A W cs xs)(cL:hx A W ds ys)(hk:lo+ys.length≤xs.length):
 hx A W (cs.take (lo * ah.size α)++ds++cs.drop (lo * ah.size α+ds.length)) (xs.take lo++ys++xs.drop (lo+ys.length)):=by
 have ak:=h.1
 have hle:lo * ah.size α≤xs.length * ah.size α:=Nat.mul_le_mul_right _ (by omega)
 have t1:hx A W (cs.take (lo * ah.size α)) (xs.take lo):=by
  have e:(xs.take lo).length=lo:=by rw [List.length_take];omega
  refine⟨by rw [List.length_take,e];omega,fun i ao=>?_⟩;have hF:i<lo:=by omega
  have:=h.2 i (by omega);have fT:=BI (s:=ah.size α) hF;rw [List.drop_take,List.take_take,Nat.min_eq_left (by omega),List.getElem_take];exact this
 have t3:hx A W (cs.drop (lo * ah.size α+ds.length)) (xs.drop (lo+ys.length)):=by
  have e:lo * ah.size α+ds.length=(lo+ys.length) * ah.size α:=by rw [cL.1,Nat.add_mul]
  rw [e];refine⟨by rw [List.length_drop,List.length_drop,ak,← Nat.sub_mul],fun i ao=>?_⟩;rw [List.length_drop] at ao;have:=h.2 (lo+ys.length+i) (by omega);rw [List.drop_drop,← Nat.add_mul,List.getElem_drop];exact this
 exact wF (wF t1 cL) t3
section
variable {c:cF} {E:List (Nat×I)} {L:List aF} {ops:Array Oper} {Q:Exit→Act→World→Prop}
variable {d:Option Tmp} {ty:TypeId} {pos:String} {af:Array Edge} {g:Option (Nat×Bool)} {x y:Operand} {t t2:TypeId}
theorem J.clear {rest:List Oper}{i e T cap lo n:Nat}{key:Option Nat}{α:Type}[ah α][Inhabited α]{xs r:List α}(hu:c.P.underlying t=some (.slice e))(eH:bO c.P e α)(gU:dp c.P e (default:α))(dK:Nat.beq (ah.size α) 0=false)
 (al:aN c E L x (.eq (iY key lo n cap (ah.size α)))) (aq:L[i]? =some ⟨key,.row T xs cap⟩) (aH:lo+n≤xs.length) (aA:tF xs lo n=r)
 (k:J c ops Q rest E (L.set i ⟨key,.row T r cap⟩)):J c ops Q (⟨none,.call ⟨.builtin .clear,#[x],#[t]⟩,ty,pos,af,none⟩::rest) E L:=fun a W s=>by
 subst aA
 have h1:a.eval x=_:=al a W s
 have bg:=s.own _ (List.mem_of_getElem? aq)
 have lr:∀ cp,L.set i ⟨key,cp⟩=L.set i ⟨key,cp⟩:=fun _=>rfl
 by_cases bq:n=0∨key=none
 ·have oV:tF xs lo n=xs:=by
   rcases bq with bq | bq
   ·subst bq;simp [tF]
   subst bq;have:xs= []:=bg.1;subst this;have:n=0:=by simp at aH;omega
   subst this;simp [tF]
  have j7:(execOp a.eval ⟨none,.call ⟨.builtin .clear,#[x],#[t]⟩,ty,pos,af,none⟩).run c.P W= .ok (.value (.tuple #[])) W:=by
   rcases bq with bq | bq
   ·subst bq;cases key <;> simp [execOp,resolve,invoke,builtin,Builtin.clear_,h1,iY,run_underlying hu]
   subst bq;simp [execOp,resolve,invoke,builtin,Builtin.clear_,h1,iY,run_underlying hu]
  refine iP rfl (R:=fun v W'=>W'=W) (.mv j7 rfl) fun v W' hw=>?_
  subst hw
  rw [oV] at k
  have:L.set i ⟨key,.row T xs cap⟩=L:=by
   apply List.ext_getElem?;intro j;rw [List.getElem?_set];split
   ·rename_i fS;subst fS;have:=(List.getElem?_eq_some_iff.1 aq).1;rw [if_pos this,aq]
   rfl
  rw [this] at k
  exact k _ _ s
 have ui:0<n:=by
  rcases Nat.eq_zero_or_pos n with h | h
  ·exact absurd (.inl h) bq
  exact h
 obtain⟨p,cs,rfl,e7,g1,g2,g3,g4⟩:=s.rowAt aq (by omega)
 obtain⟨gP,dY,ej,bF,O3⟩:=gU.zero
 have J4:=O3 (aP L++c.bZ) W
 have xA:dY.cells.toList.length=ah.size α:=ah.len J4.2
 have s0:ah.size α≠0:=fun h=>by rw [h] at dK;cases dK
 have F7:=Ey J4 n s0
 have zD:dY.cells.size=ah.size α:=by simpa using xA
 have O4:Builtin.zeroCells dY.cells n=(Array.range (n * ah.size α)).map (dY.cells[· % dY.cells.size]!):=by rw [Builtin.zeroCells,zD]
 rw [← O4] at F7
 generalize ko:(Builtin.zeroCells dY.cells n).toList=D at F7
 have X4:D.length=n * ah.size α:=by rw [F7.1];simp
 have hg:cap≠lo:=by omega
 have hle:(lo+n) * ah.size α≤cap * ah.size α:=Nat.mul_le_mul_right _ (by omega)
 rw [Nat.add_mul] at hle
 have bW:=run_storeCells_at (P:=c.P) p (lo * ah.size α) _ D 0 cs W e7 (by omega) F7.one
 have j7:(execOp a.eval ⟨none,.call ⟨.builtin .clear,#[x],#[t]⟩,ty,pos,af,none⟩).run c.P W= .ok (.value (.tuple #[])) (W.setRow p (gY cs.toList (lo * ah.size α) D).toArray):=by
  obtain⟨m,rfl⟩:∃ m,n=m+1:=⟨n - 1,by omega⟩;simp only [Nat.add_zero] at bW;simp [execOp,resolve,invoke,builtin,Builtin.clear_,h1,iY,run_underlying hu,hg,zeroValue,typeInfo,run_program,ej,bF,ko,bW,gY]
 refine iP rfl (R:=fun v W'=>W'=W.setRow p (gY cs.toList (lo * ah.size α) D).toArray) (.mv j7 rfl) fun v W' hw=>?_
 subst hw
 refine k _ _ (s.store aq e7 ?_)
 have mc:cs.toList.length=cap * ah.size α:=by simpa using g1
 have hlen:(tF xs lo n).length=xs.length:=by simp [tF];omega
 have oW:(cs.toList.take (xs.length * ah.size α)).length=xs.length * ah.size α:=by
  rw [List.length_take];have:xs.length * ah.size α≤cap * ah.size α:=Nat.mul_le_mul_right _ g2;omega
 have akC:(lo+n) * ah.size α≤xs.length * ah.size α:=Nat.mul_le_mul_right _ aH
 rw [Nat.add_mul] at akC
 have arb:xs.length * ah.size α≤cap * ah.size α:=Nat.mul_le_mul_right _ g2
 refine⟨_,rfl,?_,by rw [hlen];exact g2,g3,?_⟩
 ·simp only [List.size_toArray,gY,List.length_append,List.length_take,List.length_drop];omega
 rw [hlen,List.toList_toArray]
 have g5:=Sf (lo:=lo) g4 F7 (by simpa using aH)
 have e:(gY cs.toList (lo * ah.size α) D).take (xs.length * ah.size α)=(cs.toList.take (xs.length * ah.size α)).take (lo * ah.size α)++D++(cs.toList.take (xs.length * ah.size α)).drop (lo * ah.size α+D.length):=by
  have ar:(cs.toList.take (lo * ah.size α)).length=lo * ah.size α:=by rw [List.length_take];omega
  have aU:(cs.toList.take (lo * ah.size α)++D).length=lo * ah.size α+D.length:=by rw [List.length_append,ar]
  rw [gY,List.take_append,aU,List.take_of_length_le (by omega),List.take_take,Nat.min_eq_left (by omega),List.drop_take]
 rw [e]
 simpa [tF] using g5
theorem bI.share {a:Act}{W:World}(s:bI c E L a W){i gw p:Nat}{α:Type}[ah α]{z:α}(ak:look E gw=some (.eq (.pointer (some ⟨p,0,none⟩))))(aq:L[i]? =some ⟨some p,.var z⟩):bI c ((gw,.ptr z)::E) (L.set i ⟨none,.dead⟩) a W:=by
 have hk:=s.kill i;refine { hk with env:=fun t τ e1=>?_ };simp only [look] at e1;by_cases e:Nat.beq gw t=true
 ·rw [e] at e1;simp only [cond_true,Option.some.injEq] at e1;subst e1;have:=eS.1 e;subst this;obtain⟨v,h1,ab⟩:=s.env gw _ ak;have mb:v=_:=ab;subst mb;obtain⟨o,e7,cs,T,rfl,aA⟩:=s.own _ (List.mem_of_getElem? aq);have hlen:cs.toList.length=ah.size α:=ah.len aA;refine⟨_,h1,p,0,cs,T,(0,0),rfl,s.ED aq,e7,by simp at hlen;omega,?_⟩;rw [List.drop_zero,← hlen,List.take_length];have nD:=A3 (L:=L) (i:=i) (cp:= .dead);exact ah.mono (.drop fun k hm=>by
   rcases List.mem_append.1 hm with hm | hm
   ·exact List.mem_append.2 (.inl (nD.subset hm))
   exact List.mem_append.2 (.inr hm)) aA
 simp only [Bool.not_eq_true] at e;rw [e] at e1;exact hk.env t τ e1
theorem J.share {l:List Oper}{p:Nat}{α:Type}[ah α]{z:α}(i gw:Nat)(ak:look E gw=some (.eq (.pointer (some ⟨p,0,none⟩))))(aq:L[i]? =some ⟨some p,.var z⟩)(k:J c ops Q l ((gw,.ptr z)::E) (L.set i ⟨none,.dead⟩)):J c ops Q l E L:=
 fun a W s=>k a W (s.share ak aq)
theorem IG {α β:Type}[ah α][ah β]{F:α→Option β}{f:FuncId}{xs:List Operand}{τs:List I}(cn:bM c.P f)(al:iJ c E L xs τs)(h:∀ x r,F x=some r→dZ c.P f (.of x::τs) (.of r)):
 bc c E L ⟨d,.makeFunc (.func f) #[] xs.toArray,ty,pos,af,g⟩ (.zq c.P F):= .pure fun a W s=>by
 have bQ:=al.holds a W s
 refine⟨.func (.func f) #[] (xs.map a.eval).toArray,by simp [execOp,Instr.makeFunc],f,_,_,rfl,cn,fun cM W' e eM x r nM mm bb=>?_⟩
 simpa using h x r mm cM W' (nM::xs.map a.eval) eM (.cons bb (bQ.mono e))
def I.Flat (τ:I):Prop:= ∀ A W cM W' v,τ.holds A W v→τ.holds cM W' v
theorem Ex {b:Bool} :(I.of b).Flat:=fun _ _ _ _ _ h=>h
theorem uL {b:Int} :(I.of b).Flat:=fun _ _ _ _ _ h=>h
theorem bc.WJ {o:Oper}{τ:I}{T cap:Nat}{key:Option Nat}{α:Type}[ah α]{xs:List α}(i s:Nat)(ak:look E s=some (.eq (aJ key xs.length cap)))(aq:L[i]? =some ⟨key,.row T xs cap⟩)(aT:τ.Flat)
 (h:bc c ((s,.of xs)::E) (L.set i ⟨none,.dead⟩) o τ):bc c E L o τ:=fun a W st=>by
 have:=h a W (st.freeze ak aq)
 unfold hy at this ⊢
 exact Oper.wp_mono (fun gv W' ⟨v,h1,ab,ax⟩=>⟨v,h1,ab,aT _ _ _ _ _ ax⟩) this
def I.W9 {α:Type}(xs:List α):I where
 holds _ _ v:= ∃ b:Bool,v= .bool b∧ (b=true→xs= [])
 mono _ h:=h
theorem RP {P:Program}{e:TypeId}(W:World)(d:Nat){t:TypeId}(a:Option Addr)(l cp:Nat)(h:P.underlying t=some (.slice e)):(Op.equalIn (d+1) t (.slice a l cp) (.slice none 0 0)).run P W= .ok a.isNone W:=by
 cases a <;> simp [Op.equalIn,run_underlying h]
theorem UT {α:Type}[ah α]{xs:List α}{e:TypeId}(hu:c.P.underlying t=some (.slice e))(al:aN c E L x (.of xs)):bc c E L ⟨d,.binOp .eql t x (.const (.slice none 0 0)) t2,ty,pos,af,g⟩ (.W9 xs):= .pure fun a W s=>by
 have aH:a.eval (.const (.slice none 0 0))= .slice none 0 0:=rfl;rcases pf.1 (al a W s) with⟨h1,rfl⟩ | ⟨b,off,cap,cur,T,hU,h1,ab⟩
 ·exact⟨.bool true,by
   simp only [execOp,eqGuard,binOp,h1,aH,Op.equal,Op.maxDepth];simp [RP W 9999 none 0 0 hu],true,rfl,fun _=>rfl⟩
 exact⟨.bool false,by
  simp only [execOp,eqGuard,binOp,h1,aH,Op.equal,Op.maxDepth];simp [RP W 9999 (some ⟨b,off,none⟩) xs.length cap hu],false,rfl,fun h=>by cases h⟩
theorem aw.UU {α:Type}{y z:Code}{xs:List α}(ak:aN c E L x (.W9 xs))(bw:xs= []→aw c Q y E L)(aT:aw c Q z E L):aw c Q (.cond x y z) E L:=fun a W s=>by
 obtain⟨b,h1,ab⟩:=ak a W s;exact wpIn_cond_split h1 (fun h=>bw (ab h) a W s) (fun _=>aT a W s)
end
def aQ (c:cF)(ops:Array Oper)(Q:Exit→Act→World→Prop)(f:Nat)(bs:Array Bool)(E:List (Nat×I))(L:List aF):Prop:=
 ∀ a W,bI c E L a W→wpAnyIn c.F 9 c.P .any ops Q f bs a W
def qD (K:Act→World→Prop)(Q:Exit→Act→World→Prop):Exit→Act→World→Prop
 | .normal,a,W=>K a W
 | x,a,W=>Q x a W
def Xa:Nat→Nat→List Bool
 | 0,_=>[]
 | n+1,k=>Nat.beq (k % 2) 1::Xa n (k / 2)
def bG (n k:Nat):Array Bool:=Array.mk (Xa n k)
section
variable {c:cF} {E:List (Nat×I)} {L:List aF} {ops:Array Oper} {Q:Exit→Act→World→Prop}
theorem Oper.acH {F:Fence}{n:Nat}{P:Program}{o:Oper}{a:Act}{K:Act→World→Prop}{r:Result Next}(h:o.uponIn F n P a K (qD K Q) r):o.uponIn F n P a K Q r:=by
 cases r with
 | ok m qy=>
   cases m <;> simp only [Oper.uponIn] at h ⊢ <;>
    first
     | exact h
     | exact⟨h.1,CallsIn.mono h.2 (fun e xu he=>by cases e <;> exact he)⟩
     | exact⟨h.1,RoundIn.mono h.2 (fun e xu he=>by cases e <;> exact he)⟩
 | halt x qy=>cases x <;> simp only [Oper.uponIn] at h ⊢ <;> exact h
theorem HO {i:Nat}{o:Oper}{K:Act→World→Prop}{a:Act}{W:World}(ao:ops[i]? =some o)(h:c.s3 ops (qD K Q) [o] a W):wpOpIn c.F 9 c.P ops Q i K a W:=by
 unfold wpOpIn;simp only [ao];simp only [cF.s3,wpListIn] at h;split
 ·rename_i hw;rw [if_pos hw] at h;exact⟨h.1,Oper.acH h.2⟩
 rename_i hw;rw [if_neg hw] at h;exact h
def B1 (c:cF)(ops:Array Oper)(Q:Exit→Act→World→Prop)(f:Nat)(bs:Array Bool)(E:List (Nat×I))(L:List aF):List Nat→Prop
 | []=>True
 | i::r=>(∃ o,ops[i]? =some o∧J c ops (qD (wpAnyIn c.F 9 c.P .any ops Q f (bs.setIfInBounds i true)) Q) [o] E L)∧B1 c ops Q f bs E L r
theorem B1.get {f:Nat}{bs:Array Bool} :∀ {ti:List Nat},B1 c ops Q f bs E L ti→ ∀ i∈ti,∃ o,ops[i]? =some o∧J c ops (qD (wpAnyIn c.F 9 c.P .any ops Q f (bs.setIfInBounds i true)) Q) [o] E L
 | _::_,h,i,ao=>by
   rcases List.mem_cons.1 ao with rfl | ao
   ·exact h.1
   exact B1.get h.2 i ao
theorem aQ.step {f:Nat}{bs:Array Bool}(ti:List Nat)(aA:Region.ready .any ops bs=ti)(de:ti.isEmpty=false)(h:B1 c ops Q f bs E L ti):aQ c ops Q (f+1) bs E L:=fun a W s=>
 ⟨fun bq=>(by rw [← aA,bq] at de;exact absurd de (by simp)),fun i ao=>(by
  rw [aA] at ao;obtain⟨o,h1,ab⟩:=h.get i ao;exact HO h1 (ab a W s))⟩
theorem aQ.last {f:Nat}{bs:Array Bool}(aA:Region.ready .any ops bs= [])(h:aj c Q .normal E L):aQ c ops Q f bs E L:=fun a W s=>by
 cases f with
 | zero=>exact⟨aA,h a W s⟩
 | succ f=>exact⟨fun _=>h a W s,fun i ao=>(by rw [aA] at ao;exact absurd ao (by simp))⟩
theorem aQ.le {f:Nat}{bs:Array Bool}{E':List (Nat×I)}(h:fH E E')(k:aQ c ops Q f bs E' L):aQ c ops Q f bs E L:=fun a W s=>k a W (s.less h.look)
theorem aQ.dN {f:Nat}{bs:Array Bool}{L2:List aF}(h:L=L2)(k:aQ c ops Q f bs E L2):aQ c ops Q f bs E L:=h ▸ k
theorem aj.any {f:Nat}{bs sw:Array Bool}(ak:bs=sw)(k:aQ c ops Q f sw E L):aj c (qD (wpAnyIn c.F 9 c.P .any ops Q f bs) Q) .normal E L:=fun a W s=>by
 subst ak;exact k a W s
theorem aj.a1 {f:Nat}{bs sw:Array Bool}{E':List (Nat×I)}(k:aQ c ops Q f sw E' L)(h:fH E E':=by repeat (first | exact fH.nil | refine fH.same rfl ?_))(ak:bs=sw:=by kernel_rfl):aj c (qD (wpAnyIn c.F 9 c.P .any ops Q f bs) Q) .normal E L:= .any ak (.le h k)
theorem aQ.iC {f:Nat}{bs:Array Bool}(ti:List Nat)(h:B1 c ops Q f bs E L ti)(aA:Region.ready .any ops bs=ti:=by kernel_rfl)(de:ti.isEmpty=false:=by rfl):aQ c ops Q (f+1) bs E L:= .step ti aA de h
theorem aw.BV {ka:Nat}{l:List Oper}(hm:c.P.follows .mixedOrders=true)(n:Nat)(ls:Array Bool)(aH:l.length=n)(F8:Array.replicate n false=ls)(h:aQ c l.toArray Q n ls E L):aw c Q (.region ka l.toArray true) E L:=fun a W s=>by
 subst aH F8;refine wpIn_region_any hm ?_;have:=h a W.drew (s.world (Fr.drew W));simpa using this
end
section
variable {c:cF} {E:List (Nat×I)} {L:List aF} {ops:Array Oper} {Q:Exit→Act→World→Prop}
variable {d:Option Tmp} {ty:TypeId} {pos:String} {af:Array Edge} {g:Option (Nat×Bool)} {x y:Operand} {t t2:TypeId}
theorem J.oN {α:Type}[ah α]{rest:List Oper}{ba e n:Nat}{z:α}{r:List α}{dS:List (Nat×Operand)}(hu:c.P.underlying t=some (.slice e))(eH:bO c.P e α)(gU:dp c.P e z)(hs:Nat.beq (ah.size α) 0=false)(aH:Nat.ble (n * ah.size α) 16777216=true)
 (aT:pn c E L (List.replicate n z) dS r) (hL:Nat.blt ba c.n=true) (k:∀ p,J c ops Q rest ((ba,.eq (aJ p r.length n))::E) (⟨p,.row e r n⟩::L)):
 J c ops Q (⟨some ba,.buildSlice t n dS.toArray,ty,pos,af,none⟩::rest) E L:=fun a W s=>by
 obtain⟨gP,dY,ej,bF,uj⟩:=gU.zero
 have pC:gP.size=ah.size α:=by
  obtain⟨i2,h1,ab⟩:=eH.info;rw [ej] at h1;cases h1;exact ab
 have iM:ah.size α≠0:=fun h=>by rw [h] at hs;cases hs
 have s6:=Ey (uj (aP L++c.bZ) W) n iM
 obtain⟨eP,ax,aO,a7⟩:=aT.run a W s _ s6
 have hlen:r.length=n:=by rw [a7];simp
 have hm:(dS.toArray.map fun(x:Nat×Operand)=>(x.1,a.eval x.2)).toList=dS.map fun(i,x)=>(i,a.eval x):=by simp
 have akx:=Nat.le_of_ble_eq_true aH
 refine iP rfl (R:=fun v W'=>v= .slice (some ⟨W.heap.size,0,none⟩) n n∧W'=W.alloc (.cells eP e)) (.mv (v:= .slice (some ⟨W.heap.size,0,none⟩) n n) (W':=W.alloc (.cells eP e)) ?_ ⟨rfl,rfl⟩) fun v W' ⟨h1,ab⟩=>?_
 ·simp only [execOp,Instr.buildSlice,Sem.run_bind,run_underlying hu,Result.andThen_ok,Go.sizeOf,typeInfo,run_program,ej,Sem.run_pure,pC]
  rw [if_neg (by omega)]
  try simp only [Sem.run_pure,Result.andThen_ok,Sem.run_bind]
  by_cases bq:n * ah.size α=0
  ·have ui:n=0:=by
    rcases Nat.mul_eq_zero.1 bq with h | h
    ·exact h
    exact absurd h iM
   subst ui
   simp only [Nat.zero_mul,if_true,Sem.run_pure,Result.andThen_ok]
   try simp only [Nat.zero_mul] at ax
   have hK:((Array.range 0).map (fun x=>(#[]:Array Value)[x % (#[]:Array Value).size]!))=((Array.range 0).map (dY.cells[· % dY.cells.size]!)):=by simp
   simp only [pure_bind]
   rw [hK,hm,ax]
   simp [newRow]
  simp only [bq,if_false,Sem.run_bind,zeroValue,typeInfo,run_program,Result.andThen_ok,ej,bF,Sem.run_pure]
  rw [hm,ax]
  simp [newRow]
 subst h1 ab
 have xc:n≤maxLen:=by
  have:n * 1≤n * ah.size α:=Nat.mul_le_mul_left _ (by omega);have:maxLen=9223372036854775807:=rfl;omega
 have dK:eP.size=n * ah.size α:=by have:=aO.1;rw [hlen] at this;simpa using this
 have cf:=s.alloc (o:= .cells eP e) (cp:= .row e r n) ⟨eP,rfl,dK,by omega,xc,by
  have bl:=aO.1;rw [← bl,List.take_length];exact aO⟩
 refine k (some W.heap.size) _ _ (cf.put (τ:= .eq (aJ (some W.heap.size) r.length n)) (by simpa using hL) ?_)
 show _=_
 rw [hlen];rfl
theorem J.j5 {l:List Oper}{key:Option Nat}{n m cap:Nat}(gw:Nat)(ak:look E gw=some (.eq (aJ key n cap)))(aH:n=m)(k:J c ops Q l ((gw,.eq (aJ key m cap))::E) L):J c ops Q l E L:=fun a W s=>by
 subst aH;refine k a W (s.less fun t τ h=>?_);simp only [look] at h;by_cases e:Nat.beq gw t=true
 ·rw [e] at h;simp only [cond_true] at h;have:=eS.1 e;subst this;exact⟨τ,by rw [ak,h],fun _ _ _ h=>h⟩
 simp only [Bool.not_eq_true] at e;rw [e] at h;exact⟨τ,h,fun _ _ _ h=>h⟩
end
theorem kX {α:Type}{xs r:List α}{k:Nat}{v:α}(h:hD xs k v=r):xs.length=r.length:=by rw [← h];simp [hD]
theorem R6 {α:Type}{b:Nat}{r:List α}(h:((eA b [] ([]:List α)).bind fun y=>some y)=some r):r= []:=by
 obtain⟨y,h1,ab⟩:=bind_some h;obtain⟨_,_,ax⟩:=Sc h1;rw [ax] at ab;exact(dc ab).symm
def lQ:Value:= .slice none 0 0
def blank:List (Nat×Value)→List Value→List Value
 | [],cs=>cs
 | o::r,cs=>blank r (cs.set o.1 lQ)
theorem Eo:∀ {os:List (Nat×Value)} {cs:List Value},(blank os cs).length=cs.length
 | [],_=>rfl
 | o::r,cs=>by rw [blank,Eo,List.length_set]
theorem tx:∀ {os:List (Nat×Value)} {cs:List Value} (i:Nat),(blank os cs)[i]? =if os.any (fun h=>Nat.beq h.1 i)=true then cs[i]?.map (fun _=>lQ) else cs[i]?
 | [],_,i=>by simp [blank]
 | o::r,cs,i=>by
   rw [blank,tx i,List.any_cons];by_cases h:o.1=i
   ·subst h;simp only [Nat.beq_refl,Bool.true_or,if_true,List.getElem?_set];by_cases ak:o.1<cs.length
    ·simp [ak]
    simp [ak]
   have hb:Nat.beq o.1 i=false:=by
    cases hb:Nat.beq o.1 i
    ·rfl
    exact absurd (eS.1 hb) h
   rw [hb,Bool.false_or,List.getElem?_set_ne h]
def tK (os:List (Nat×Value))(off n:Nat):Bool:=os.all fun h=>Nat.blt h.1 off||Nat.ble (off+n) h.1
theorem RQ {os:List (Nat×Value)}{off n i:Nat}(h:tK os off n=true)(h1:off≤i)(ab:i<off+n):os.any (fun h=>Nat.beq h.1 i)=false:=by
 rw [List.any_eq_false];intro x al hb;have ax:=List.all_eq_true.1 h x al;have aO:=eS.1 hb;simp only [Bool.or_eq_true,Nat.blt_eq,Nat.ble_eq] at ax;omega
theorem acI {os:List (Nat×Value)}{off n:Nat}{cs:List Value}(h:tK os off n=true):((blank os cs).drop off).take n=(cs.drop off).take n:=by
 apply List.ext_getElem?;intro i;simp only [List.getElem?_take,List.getElem?_drop];split
 ·rw [tx,RQ h (by omega) (by omega)];rfl
 rfl
theorem yy {cs ds:List Value}{off:Nat}(h:off+ds.length≤cs.length)(i:Nat):(gY cs off ds)[i]? =if i<off then cs[i]? else if i<off+ds.length then ds[i - off]? else cs[i]? :=by
 have h1:(cs.take off).length=off:=by rw [List.length_take];omega
 unfold gY;rw [List.append_assoc];by_cases ao:i<off
 ·rw [if_pos ao,List.getElem?_append_left (by omega),List.getElem?_take,if_pos ao]
 rw [if_neg ao,List.getElem?_append_right (by omega),h1];by_cases ab:i<off+ds.length
 ·rw [if_pos ab,List.getElem?_append_left (by omega)]
 rw [if_neg ab,List.getElem?_append_right (by omega),List.getElem?_drop];congr 1;omega
theorem abv {os:List (Nat×Value)}{off:Nat}{cs ds:List Value}(h:tK os off ds.length=true)(hs:off+ds.length≤cs.length):blank os (gY cs off ds)=gY (blank os cs) off ds:=by
 apply List.ext_getElem?;intro i;rw [tx,yy hs,yy (by rw [Eo];exact hs),tx];by_cases h1:i<off
 ·simp only [if_pos h1]
 simp only [if_neg h1];by_cases ab:i<off+ds.length
 ·simp only [if_pos ab,RQ h (Nat.not_lt.1 h1) ab];rfl
 simp only [if_neg ab]
def wM (os:List (Nat×Value))(o:Nat)(u:Value):List (Nat×Value):=
 bif os.any (fun h=>Nat.beq h.1 o) then os.map (fun h=>bif Nat.beq h.1 o then(o,u) else h) else(o,u)::os
theorem abH {os:List (Nat×Value)}{o:Nat}{u:Value}{h:Nat×Value}(hm:h∈wM os o u):h=(o,u)∨ (h∈os∧h.1≠o):=by
 unfold wM at hm;cases hb:os.any (fun h=>Nat.beq h.1 o)
 ·rw [hb] at hm;simp only [cond_false] at hm;rcases List.mem_cons.1 hm with hm | hm
  ·exact .inl hm
  refine .inr ⟨hm,fun e=>?_⟩;have:=List.any_eq_false.1 hb h hm;exact this (eS.2 e)
 rw [hb] at hm;simp only [cond_true] at hm;obtain⟨x,al,he⟩:=List.mem_map.1 hm;cases h1:Nat.beq x.1 o
 ·rw [h1] at he;simp only [cond_false] at he;subst he;exact .inr ⟨al,fun e=>by rw [eS.2 e] at h1;cases h1⟩
 rw [h1] at he;exact .inl he.symm
theorem abI {os:List (Nat×Value)}{o i:Nat}{u:Value} :(wM os o u).any (fun h=>Nat.beq h.1 i)=(Nat.beq o i||os.any (fun h=>Nat.beq h.1 i)):=by
 unfold wM;cases hb:os.any (fun h=>Nat.beq h.1 o)
 ·simp only [cond_false,List.any_cons]
 simp only [cond_true,List.any_map];rw [Bool.eq_iff_iff,Bool.or_eq_true,List.any_eq_true,List.any_eq_true];constructor
 ·rintro ⟨x,al,he⟩;simp only [Function.comp] at he;cases h1:Nat.beq x.1 o
  ·rw [h1] at he;exact .inr ⟨x,al,he⟩
  rw [h1] at he;exact .inl he
 rintro (h | ⟨x,al,he⟩)
 ·obtain⟨x,al,h1⟩:=List.any_eq_true.1 hb;exact⟨x,al,by simp only [Function.comp,h1,cond_true];exact h⟩
 refine⟨x,al,?_⟩;simp only [Function.comp];cases h1:Nat.beq x.1 o
 ·exact he
 have ar:=eS.1 h1;have aU:=eS.1 he;simp only [cond_true];exact eS.2 (by omega)
def tA (os:List (Nat×Value))(o:Nat):List (Nat×Value):=os.filter (fun h=> !Nat.beq h.1 o)
theorem abJ {os:List (Nat×Value)}{o i:Nat} :(tA os o).any (fun h=>Nat.beq h.1 i)=(!(Nat.beq o i)&&os.any (fun h=>Nat.beq h.1 i)):=by
 rw [Bool.eq_iff_iff];simp only [List.any_eq_true,Bool.and_eq_true,Bool.not_eq_true',tA,List.mem_filter];constructor
 ·rintro ⟨x,⟨h1,ab⟩,ax⟩;refine⟨?_,x,h1,ax⟩;cases hb:Nat.beq o i
  ·rfl
  have:=eS.1 hb;have aO:=eS.1 ax;rw [aO,← this,Nat.beq_refl] at ab;cases ab
 rintro ⟨bq,x,h1,ax⟩;refine⟨x,⟨h1,?_⟩,ax⟩;cases hb:Nat.beq x.1 o
 ·rfl
 have:=eS.1 hb;have aO:=eS.1 ax;rw [← this,aO,Nat.beq_refl] at bq;cases bq
def mU {α:Type}[ah α](A:List Nat)(W:World)(cs:List Value)(x:α)(os:List (Nat×Value)):Prop:=ah.rep A W (blank os cs) x∧ ∀ h∈os,cs[h.1]? =some h.2∧h.2.oneCell'=true
theorem mU.len {α:Type}[ah α]{A W}{cs:List Value}{x:α}{os:List (Nat×Value)}(h:mU A W cs x os):cs.length=ah.size α:=by rw [← Eo (os:=os)];exact ah.len h.1
theorem mU.mono {α:Type}[ah α]{A W cM W'}{cs:List Value}{x:α}{os:List (Nat×Value)}(e:Ext A W cM W')(h:mU A W cs x os):mU cM W' cs x os:=⟨ah.mono e h.1,h.2⟩
theorem mU.one {α:Type}[ah α]{A W}{cs:List Value}{x:α}{os:List (Nat×Value)}(h:mU A W cs x os):∀ u∈cs,u.oneCell'=true:=by
 intro u hu;obtain⟨i,ao⟩:=List.mem_iff_getElem?.1 hu;by_cases hb:os.any (fun h=>Nat.beq h.1 i)=true
 ·obtain⟨o,bg,he⟩:=List.any_eq_true.1 hb;have he:=eS.1 he;obtain⟨h1,ab⟩:=h.2 o bg;rw [he,ao] at h1;cases h1;exact ab
 have h1:=tx (os:=os) (cs:=cs) i;rw [if_neg hb,ao] at h1;exact ah.one h.1 u (List.mem_of_getElem? h1)
def eG.ch {α:Type}[ah α](x:α)(os:List (Nat×Value)):eG where
 holds A W o:= ∃ cs T,o= .cells cs T (0,0)∧mU A W cs.toList x os
 oM:=False
 mono e h:=let⟨cs,T,bg,aA⟩:=h; ⟨cs,T,bg,aA.mono e⟩
def I.O5 {α:Type}[ah α](x:α)(os:List (Nat×Value)):I where
 holds A W v:=shaped (ah.agg α) v∧mU A W v.cells.toList x os
 mono e h:=⟨h.1,h.2.mono e⟩
structure hi where
 v:Value
instance:ah hi where
 size:=1
 agg:=false
 rep _ _ cs x:=cs= [x.v]∧x.v.oneCell'=true
 len h:=by rw [h.1];rfl
 one h:=by rw [h.1];intro u hu;rw [List.mem_singleton.1 hu];exact h.2
 flat _:=rfl
 mono _ h:=h
theorem VS {A W v}{u:Value} :(I.of (⟨u⟩:hi)).holds A W v↔v=u∧u.oneCell'=true:=by
 constructor
 ·rintro ⟨h1,ab,ax⟩;have h1:v.oneCell'=true:=h1;exact⟨nV h1 ab,ax⟩
 rintro ⟨rfl,h⟩;exact⟨h,by show v.cells.toList= [v]∧_;rw [cells_one h];exact⟨rfl,h⟩⟩
theorem bO.ex {P:Program}{t:TypeId}{γ:Type}[ah γ](h:bO P t (List γ)):bO P t hi:=⟨h.size,h.XZ⟩
theorem ir {key:Option Nat}{n cap:Nat} :(aJ key n cap).oneCell'=true:=by cases key <;> rfl
theorem aeW {A W}{γ:Type}[ah γ]:ah.rep A W [lQ] ([]:List γ):=⟨lQ,rfl,.inl ⟨rfl,rfl⟩⟩
theorem SI {α γ:Type}[ah α][ah γ]{A W}{cs ds:List Value}{x:α}{v:γ}{os:List (Nat×Value)}(l:aK α γ)(h:mU A W cs x os)(hd:ah.rep A W ds v)(aW:tK os l.off (ah.size γ)=true):mU A W (gY cs l.off ds) (l.set x v) os:=by
 have h1:=h.len;have fT:=l.hf;have ak:=ah.len hd;refine⟨?_,fun o hm=>?_⟩
 ·have bl:=l.nr h.1 hd;rw [abv (by rw [ak];exact aW) (by rw [ak];omega)];simpa [gY,ak] using bl
 refine⟨?_,(h.2 o hm).2⟩;rw [yy (by rw [ak];omega)];have cN:=List.all_eq_true.1 aW o hm;simp only [Bool.or_eq_true,Nat.blt_eq,Nat.ble_eq] at cN;rw [ak];by_cases cW:o.1<l.off
 ·rw [if_pos cW];exact(h.2 o hm).1
 rw [if_neg cW,if_neg (by omega)];exact(h.2 o hm).1
theorem Sg {α γ:Type}[ah α][ah γ]{A W}{cs:List Value}{x:α}{u:Value}{os:List (Nat×Value)}(l:aK α (List γ))(h:mU A W cs x os)(hu:u.oneCell'=true):mU A W (gY cs l.off [u]) (l.set x []) (wM os l.off u):=by
 have h1:=h.len;have fT:l.off+1≤ah.size α:=l.hf;refine⟨?_,fun o hm=>?_⟩
 ·have bl:ah.rep A W ((blank os cs).take l.off++[lQ]++(blank os cs).drop (l.off+1)) (l.set x []):=l.nr h.1 (aeW (γ:=γ));have e:blank (wM os l.off u) (gY cs l.off [u])=gY (blank os cs) l.off [lQ]:=by
   apply List.ext_getElem?;intro i;rw [tx,yy (by simp;omega),yy (by rw [Eo];simp;omega),tx];rw [abI];by_cases ao:l.off=i
   ·subst ao;simp
   have hb:Nat.beq l.off i=false:=by
    cases hb:Nat.beq l.off i
    ·rfl
    exact absurd (eS.1 hb) ao
   rw [hb];simp only [Bool.false_or,List.length_singleton];by_cases ab:i<l.off
   ·simp only [if_pos ab]
   have c0: ¬ i<l.off+1:=by omega
   simp only [if_neg ab,if_neg c0]
  rw [e];simpa [gY] using bl
 rw [yy (by simp;omega)];rcases abH hm with rfl | ⟨ax,de⟩
 ·exact⟨by simp,hu⟩
  
 simp only [List.length_singleton]
 refine⟨?_,(h.2 o ax).2⟩
 by_cases cW:o.1<l.off
 ·rw [if_pos cW];exact(h.2 o ax).1
 rw [if_neg cW,if_neg (by omega)];exact(h.2 o ax).1
theorem Sh {α γ:Type}[ah α][ah γ]{A W}{cs:List Value}{x:α}{u:Value}{xs:List γ}{os:List (Nat×Value)}(l:aK α (List γ))(h:mU A W cs x os)(hm:(l.off,u)∈os)(hs:qB A W u xs):mU A W cs (l.set x xs) (tA os l.off):=by
 have h1:=h.len;have fT:l.off+1≤ah.size α:=l.hf;have amf:=(h.2 _ hm).1;refine⟨?_,fun o bg=>h.2 o (List.mem_filter.1 bg).1⟩;have bl:ah.rep A W ((blank os cs).take l.off++[u]++(blank os cs).drop (l.off+1)) (l.set x xs):=l.nr h.1 (ds:= [u]) (g:=xs) ⟨u,rfl,hs⟩;have e:blank (tA os l.off) cs=gY (blank os cs) l.off [u]:=by
  apply List.ext_getElem?;intro i;rw [tx,yy (by rw [Eo];simp;omega),tx,abJ];by_cases ao:l.off=i
  ·subst ao;simp [amf]
  have hb:Nat.beq l.off i=false:=by
   cases hb:Nat.beq l.off i
   ·rfl
   exact absurd (eS.1 hb) ao
  rw [hb];simp only [Bool.not_false,Bool.true_and,List.length_singleton];by_cases ab:i<l.off
  ·simp only [if_pos ab]
  have c0: ¬ i<l.off+1:=by omega
  simp only [if_neg ab,if_neg c0]
 rw [e];simpa [gY] using bl
section
variable {c:cF} {E:List (Nat×I)} {L:List aF} {ops:Array Oper} {Q:Exit→Act→World→Prop}
variable {d:Option Tmp} {ty:TypeId} {pos:String} {af:Array Edge} {g:Option (Nat×Bool)} {x y:Operand} {t t2:TypeId}
theorem bI.EZ {a:Act}{W:World}(s:bI c E L a W){i:Nat}{key:Option Nat}{cp cp':eG}(aq:L[i]? =some ⟨key,cp⟩)(h:∀ o,cp.holds (aP L++c.bZ) W o→cp'.holds (aP L++c.bZ) W o)(aH:cp.oM→cp'.oM):bI c E (L.set i ⟨key,cp'⟩) a W:=by
 have ig:aP (L.set i ⟨key,cp'⟩)=aP L:=IT (e:=⟨key,cp⟩) (cp:=cp') aq;exact
 {defers:=s.defers
  size:=s.size
  env:=fun t τ ak=>by rw [ig];exact s.env t τ ak
  dO:=s.dO
  own:=fun e he=>by
   rw [ig];obtain⟨j,aB⟩:=List.mem_iff_getElem?.1 he;rw [List.getElem?_set] at aB;split at aB
   ·split at aB
    ·simp only [Option.some.injEq] at aB;subst aB;have bg:=s.own _ (List.mem_of_getElem? aq);cases key with
     | none=>exact aH bg
     | some p=>obtain⟨o,h1,ab⟩:=bg;exact⟨o,h1,h _ ab⟩
    cases aB
   exact s.own e (List.mem_of_getElem? aB)
  nodup:=by rw [ig];exact s.nodup
  lt:=by rw [ig];exact s.lt
  gL:=by rw [ig];exact s.gL
  e6:=by rw [ig];exact s.e6 }
theorem J.rM {l:List Oper}{p:Nat}{β:Type}[ah β]{b:β}(i:Nat)(aq:L[i]? =some ⟨some p,.ch b []⟩)(k:J c ops Q l E (L.set i ⟨some p,.var b⟩)):J c ops Q l E L:=fun a W s=>
 k a W (s.EZ aq (fun o ⟨cs,T,h1,ab⟩=>⟨cs,T,h1,ab.1⟩) id)
theorem aj.rM {z:Exit}{p:Nat}{β:Type}[ah β]{b:β}(i:Nat)(aq:L[i]? =some ⟨some p,.ch b []⟩)(k:aj c Q z E (L.set i ⟨some p,.var b⟩)):aj c Q z E L:=fun a W s=>
 k a W (s.EZ aq (fun o ⟨cs,T,h1,ab⟩=>⟨cs,T,h1,ab.1⟩) id)
def M4:Option Value→Bool
 | some (.slice none 0 0)=>true
 | _=>false
theorem RR {v:Option Value}(h:M4 v=true):v=some lQ:=by
 unfold M4 at h;split at h
 ·rfl
 cases h
def kf (P:Program)(t:TypeId)(hs:List Nat):Prop:=((P.info? t).bind (·.zero)).any (fun v=>hs.all fun o=>M4 v.cells.toList[o]?)=true
theorem Ln:∀ {os:List (Nat×Value)} {cs:List Value},(∀ h∈os,cs[h.1]? =some lQ)→blank os cs=cs
 | [],_,_=>rfl
 | o::r,cs,h=>by
   have h1:=h o (by simp);have e:cs.set o.1 lQ=cs:=by
    apply List.ext_getElem?;intro i;rw [List.getElem?_set];split
    ·rename_i he;subst he;have:=(List.getElem?_eq_some_iff.1 h1).1;rw [if_pos this,h1]
    rfl
   rw [blank,e];exact Ln fun x al=>h x (by simp [al])
theorem J.qR {rest:List Oper}{ba:Nat}{α:Type}[ah α]{z:α}(hs:List Nat)(we:kf c.P t hs)(gU:dp c.P t z)(aH:Nat.blt ba c.n=true)
 (k:∀ p,J c ops Q rest ((ba,.eq (.pointer (some ⟨p,0,none⟩)))::E) (⟨some p,.ch z (hs.map fun o=>(o,lQ))⟩::L)):J c ops Q (⟨some ba,.alloc t,ty,pos,af,none⟩::rest) E L:=fun a W s=>by
 obtain⟨i,dY,h1,ab,ax⟩:=gU.zero
 have bQ:∀ o∈hs,dY.cells.toList[o]? =some lQ:=fun o bg=>by
  unfold kf at we;rw [h1] at we;simp only [Option.bind_some,ab,Option.any_some] at we;exact RR (List.all_eq_true.1 we o bg)
 have X5:∀ h∈hs.map (fun o=>(o,lQ)),dY.cells.toList[h.1]? =some h.2:=fun h hm=>by
  obtain⟨o,bg,rfl⟩:=List.mem_map.1 hm;exact bQ o bg
 refine iP rfl (R:=fun v W'=>v= .pointer (some ⟨W.heap.size,0,none⟩)∧W'=W.alloc (.cells dY.cells t)) (.mv ?_ ⟨rfl,rfl⟩) fun v W' ⟨bb,hw⟩=>?_
 ·simp [execOp,Instr.alloc,zeroValue,typeInfo,h1,ab,newVar,newRow]
 subst bb
 subst hw
 refine k _ _ _ ((s.alloc (cp:= .ch z (hs.map fun o=>(o,lQ))) ⟨dY.cells,t,rfl,?_,fun h hm=>⟨X5 h hm,by obtain⟨o,_,rfl⟩:=List.mem_map.1 hm;rfl⟩⟩).put (by simpa using aH) rfl)
 rw [Ln fun h hm=>by rw [X5 h hm];obtain⟨o,_,rfl⟩:=List.mem_map.1 hm;rfl]
 exact(ax _ _).2
theorem J.Wk {rest:List Oper}{ba:Nat}{α:Type}[ah α]{z:α}{os:List (Nat×Value)}(al:aN c E L x (.O5 z os))(aH:Nat.blt ba c.n=true)
 (k:∀ p,J c ops Q rest ((ba,.eq (.pointer (some ⟨p,0,none⟩)))::E) (⟨some p,.ch z os⟩::L)):J c ops Q (⟨some ba,.box t x,ty,pos,af,none⟩::rest) E L:=fun a W s=>by
 refine iP rfl (R:=fun v W'=>v= .pointer (some ⟨W.heap.size,0,none⟩)∧W'=W.alloc (.cells (a.eval x).cells t)) (.mv ?_ ⟨rfl,rfl⟩) fun v W' ⟨bb,hw⟩=>?_
 ·simp [execOp,Instr.box,newVar,newRow]
 subst bb
 subst hw
 obtain⟨h1,ab⟩:=al a W s
 exact k _ _ _ ((s.alloc (cp:= .ch z os) ⟨_,t,rfl,ab⟩).put (by simpa using aH) rfl)
theorem Iu {t:TypeId}{i p o:Nat}{β γ:Type}[ah β][ah γ]{b:β}{os:List (Nat×Value)}(l:aK β γ){r:γ}(dP:bO c.P t γ)(al:aN c E L x (.eq (.pointer (some ⟨p,o,none⟩))))
 (aq:L[i]? =some ⟨some p,.ch b os⟩) (bg:o=l.off) (aA:l.get b=r) (aW:tK os l.off (ah.size γ)=true):bc c E L ⟨d,.load t x,ty,pos,af,g⟩ (.of r):= .pure fun a W s=>by
 subst bg
 subst aA
 obtain⟨qz,e7,cs,T,rfl,gZ⟩:=s.own _ (List.mem_of_getElem? aq)
 have h1:cs.toList.length=ah.size β:=gZ.len
 have a7:=l.jL gZ.1
 rw [acI aW] at a7
 obtain⟨v,ab,ax⟩:=yn (A:=aP L++c.bZ) dP e7 (by have:=l.hf;simp at h1;omega) a7
 refine⟨v,?_,ax⟩
 have aO:a.eval x=_:=al a W s
 simp [execOp,Instr.loadAt,Instr.sureAddr,aO,ab]
theorem aeX {cs:List Value}{o:Nat}{u:Value}(h:cs[o]? =some u):(cs.drop o).take 1= [u]:=by
 apply List.ext_getElem?;intro i;rw [List.getElem?_take,List.getElem?_drop];cases i with
 | zero=>simpa using h
 | succ i=>simp
theorem ht {t:TypeId}{i p o q:Nat}{β γ:Type}[ah β][ah γ]{b:β}{os:List (Nat×Value)}{u:Value}(dP:bO c.P t (List γ))(al:aN c E L x (.eq (.pointer (some ⟨p,o,none⟩))))
 (aq:L[i]? =some ⟨some p,.ch b os⟩) (hq:os[q]? =some (o,u)):bc c E L ⟨d,.load t x,ty,pos,af,g⟩ (.eq u):= .pure fun a W s=>by
 obtain⟨qz,e7,cs,T,rfl,gZ,bQ⟩:=s.own _ (List.mem_of_getElem? aq)
 obtain⟨a7,hu⟩:=bQ _ (List.mem_of_getElem? hq)
 have cj:o<cs.size:=by have:=(List.getElem?_eq_some_iff.1 a7).1;simpa using this
 obtain⟨v,ab,ax⟩:=yn (α:=hi) (x:=⟨u⟩) (A:=aP L++c.bZ) dP.ex e7 (show o+1≤cs.size by omega) ⟨aeX a7,hu⟩
 refine⟨v,?_,(VS.1 ax).1⟩
 have aO:a.eval x=_:=al a W s
 simp [execOp,Instr.loadAt,Instr.sureAddr,aO,ab]
theorem J.wP {t:TypeId}{rest:List Oper}{i p o:Nat}{β γ:Type}[ah β][ah γ]{b b':β}{v:γ}{os:List (Nat×Value)}(l:aK β γ)(dP:bO c.P t γ)(al:aN c E L x (.eq (.pointer (some ⟨p,o,none⟩))))
 (aR:aN c E L y (.of v)) (aq:L[i]? =some ⟨some p,.ch b os⟩) (bg:o=l.off) (hb:l.set b v=b') (aW:tK os l.off (ah.size γ)=true)
 (k:J c ops Q rest E (L.set i ⟨some p,.ch b' os⟩)):J c ops Q (⟨none,.store t x y,ty,pos,af,none⟩::rest) E L:=fun a W s=>by
 subst bg
 subst hb
 obtain⟨qz,e7,cs,T,rfl,gZ⟩:=s.own _ (List.mem_of_getElem? aq)
 have h1:cs.toList.length=ah.size β:=gZ.len
 have fT:=l.hf
 have bb:=aR a W s
 have ab:=HK (A:=aP L++c.bZ) dP e7 (off:=l.off) (by simp at h1;omega) bb
 have aO:a.eval x=_:=al a W s
 refine iP rfl (R:=fun v W'=>W'=W.setRow p (gY cs.toList l.off (a.eval y).cells.toList).toArray) (.Bv ?_ rfl) fun v W' hw=>?_
 ·simp [execOp,Instr.storeAt,Instr.sureAddr,aO,ab]
 subst hw
 exact k _ _ (s.store aq e7 ⟨_,T,rfl,by rw [List.toList_toArray];exact SI l gZ bb.2 aW⟩)
theorem J.jh {t:TypeId}{rest:List Oper}{i p o:Nat}{β γ:Type}[ah β][ah γ]{b b':β}{u:Value}{os os':List (Nat×Value)}(l:aK β (List γ))(dP:bO c.P t (List γ))(al:aN c E L x (.eq (.pointer (some ⟨p,o,none⟩))))
 (aR:aN c E L y (.eq u)) (hu:u.oneCell'=true) (aq:L[i]? =some ⟨some p,.ch b os⟩) (bg:o=l.off) (hb:l.set b []=b') (ra:wM os o u=os')
 (k:J c ops Q rest E (L.set i ⟨some p,.ch b' os'⟩)):J c ops Q (⟨none,.store t x y,ty,pos,af,none⟩::rest) E L:=fun a W s=>by
 subst bg
 subst hb
 subst ra
 obtain⟨qz,e7,cs,T,rfl,gZ⟩:=s.own _ (List.mem_of_getElem? aq)
 have h1:cs.toList.length=ah.size β:=gZ.len
 have fT:l.off+1≤ah.size β:=l.hf
 have X6:a.eval y=u:=aR a W s
 have bb:(I.of (⟨u⟩:hi)).holds (aP L++c.bZ) W (a.eval y):=VS.2 ⟨X6,hu⟩
 have ab:=HK (A:=aP L++c.bZ) dP.ex e7 (off:=l.off) (show l.off+1≤cs.size by simp at h1;omega) bb
 have aO:a.eval x=_:=al a W s
 have mc:(a.eval y).cells.toList= [u]:=by rw [X6,cells_one hu]
 rw [mc] at ab
 refine iP rfl (R:=fun v W'=>W'=W.setRow p (gY cs.toList l.off [u]).toArray) (.Bv ?_ rfl) fun v W' hw=>?_
 ·simp [execOp,Instr.storeAt,Instr.sureAddr,aO,ab]
 subst hw
 exact k _ _ (s.store aq e7 ⟨_,T,rfl,by rw [List.toList_toArray];exact Sg l gZ hu⟩)
theorem aa4 {P:Program}{W:World}{b off:Nat}{cur:Array Value}{T t:TypeId}{α:Type}[ah α]{v:Value}(ty:bO P t α)
 (hb:W.heap[b]? =some (.cells cur T (0,0))) (hs:off+ah.size α≤cur.size) (ak:v.cells.toList.length=ah.size α) (h1:∀ u∈v.cells.toList,u.oneCell'=true):
 (storeVar t ⟨b,off,none⟩ v).run P W= .ok () (W.setRow b (gY cur.toList off v.cells.toList).toArray):=by
 have ab:=run_storeCells_at P b off T v.cells.toList 0 cur W hb (by rw [ak];omega) h1
 have dK:v.cells.size=ah.size α:=by simpa using ak
 simp only [Nat.add_zero] at ab
 simp only [storeVar,Sem.run_bind,ty.sizeOf,Result.andThen_ok,dK]
 simp only [ne_eq,not_true_eq_false,↓reduceIte,Sem.run_pure,Sem.run_bind,Result.andThen_ok]
 simpa [gY] using ab
theorem J.uW {t:TypeId}{rest:List Oper}{i p:Nat}{β:Type}[ah β]{b b':β}{os os':List (Nat×Value)}(dP:bO c.P t β)(al:aN c E L x (.eq (.pointer (some ⟨p,0,none⟩))))
 (aR:aN c E L y (.O5 b' os')) (aq:L[i]? =some ⟨some p,.ch b os⟩)
 (k:J c ops Q rest E (L.set i ⟨some p,.ch b' os'⟩)):J c ops Q (⟨none,.store t x y,ty,pos,af,none⟩::rest) E L:=fun a W s=>by
 obtain⟨qz,e7,cs,T,rfl,gZ⟩:=s.own _ (List.mem_of_getElem? aq)
 have h1:cs.toList.length=ah.size β:=gZ.len
 obtain⟨g1,g2⟩:=aR a W s
 have ak:=g2.len
 have ab:=aa4 dP e7 (off:=0) (by simp at h1;omega) ak g2.one
 have aO:a.eval x=_:=al a W s
 have e:gY cs.toList 0 (a.eval y).cells.toList=(a.eval y).cells.toList:=by
  unfold gY;rw [List.take_zero,List.nil_append,Nat.zero_add,ak,← h1,List.drop_length,List.append_nil]
 rw [e] at ab
 refine iP rfl (R:=fun v W'=>W'=W.setRow p (a.eval y).cells.toList.toArray) (.Bv ?_ rfl) fun v W' hw=>?_
 ·simp [execOp,Instr.storeAt,Instr.sureAddr,aO,ab]
 subst hw
 exact k _ _ (s.store aq e7 ⟨_,T,rfl,by rw [List.toList_toArray];exact g2⟩)
theorem e4 {p:Addr}(al:aN c E L x (.eq (.pointer (some p)))):bc c E L ⟨d,.nilCheck x,ty,pos,af,g⟩ (.eq (.pointer (some p))):= .pure fun a W s=>by
 have aO:a.eval x=_:=al a W s;exact⟨_,by simp [execOp,aO],rfl⟩
theorem af4 {γ:Type}[ah γ]{r:γ}(al:aN c E L x (.ptr r)):bc c E L ⟨d,.nilCheck x,ty,pos,af,g⟩ (.ptr r):= .pure fun a W s=>by
 have hp:=al a W s;obtain⟨b,off,cur,T,hU,aO,a7⟩:=hp;exact⟨_,by simp [execOp,aO],b,off,cur,T,hU,rfl,a7⟩
theorem bI.mx {a:Act}{W:World}(s:bI c E L a W){i j p cap T:Nat}{key:Option Nat}{β γ:Type}[ah β][ah γ]{b b':β}{xs:List γ}{os os':List (Nat×Value)}(l:aK β (List γ))(fS:i≠j)(aq:L[i]? =some ⟨some p,.ch b os⟩)(sj:L[j]? =some ⟨key,.row T xs cap⟩)
 (q:Nat) (hq:os[q]? =some (l.off,aJ key xs.length cap)) (hb:l.set b xs=b') (ra:tA os l.off=os'):bI c E ((L.set j ⟨none,.dead⟩).set i ⟨some p,.ch b' os'⟩) a W:=by
 subst hb
 subst ra
 have hk:=s.kill j
 have ao:(L.set j ⟨none,.dead⟩)[i]? =some ⟨some p,.ch b os⟩:=by rw [List.getElem?_set_ne (fun e=>fS e.symm)];exact aq
 have nD:=A3 (L:=L) (i:=j) (cp:= .dead)
 have r8:qB (aP (L.set j ⟨none,.dead⟩)++c.bZ) W (aJ key xs.length cap) xs:=by
  have bg:=s.own _ (List.mem_of_getElem? sj);cases key with
  | none=>exact .inl ⟨rfl,bg.1⟩
  | some p=>
    obtain⟨o,e7,cs,rfl,dK,aH,zx,aA⟩:=bg
    obtain⟨ax,aO⟩:=Lh dK aH aA
    refine .inr ⟨p,0,cap,cs,T,(0,0),rfl,s.ED sj,e7,aH,by omega,ax,?_⟩
    exact aO.mono (.drop fun k hm=>by
     rcases List.mem_append.1 hm with hm | hm
     ·exact List.mem_append.2 (.inl (nD.subset hm))
     exact List.mem_append.2 (.inr hm))
 exact hk.EZ ao (fun o ⟨cs,T,h1,ab⟩=>⟨cs,T,h1,Sh l ab (List.mem_of_getElem? hq) r8⟩) id
theorem J.mx {GQ:List Oper}{p cap T:Nat}{key:Option Nat}{β γ:Type}[ah β][ah γ]{b b':β}{xs:List γ}{os os':List (Nat×Value)}(l:aK β (List γ))(i j q:Nat)(fS:Nat.beq i j=false)(aq:L[i]? =some ⟨some p,.ch b os⟩)(sj:L[j]? =some ⟨key,.row T xs cap⟩)
 (hq:os[q]? =some (l.off,aJ key xs.length cap)) (hb:l.set b xs=b') (ra:tA os l.off=os') (k:J c ops Q GQ E ((L.set j ⟨none,.dead⟩).set i ⟨some p,.ch b' os'⟩)):J c ops Q GQ E L:=
 fun a W s=>k a W (s.mx l (fun e=>by rw [e,Nat.beq_refl] at fS;cases fS) aq sj q hq hb ra)
theorem bI.Jf {a:Act}{W:World}(s:bI c E L a W){i j p cap T gw:Nat}{key:Option Nat}{β γ:Type}[ah β][ah γ]{b b':β}{xs:List γ}{os os':List (Nat×Value)}(l:aK β (List γ))(fS:i≠j)(aq:L[i]? =some ⟨some p,.ch b os⟩)(sj:L[j]? =some ⟨key,.row T xs cap⟩)
 (q:Nat) (hq:os[q]? =some (l.off,aJ key xs.length cap)) (hb:l.set b xs=b') (ra:tA os l.off=os') (r8:look E gw=some (.eq (aJ key xs.length cap))):bI c ((gw,.of xs)::E) ((L.set j ⟨none,.dead⟩).set i ⟨some p,.ch b' os'⟩) a W:=by
 have h1:=s.freeze r8 sj
 subst hb
 subst ra
 have ao:(L.set j ⟨none,.dead⟩)[i]? =some ⟨some p,.ch b os⟩:=by rw [List.getElem?_set_ne (fun e=>fS e.symm)];exact aq
 obtain⟨v,ab,ax⟩:=h1.env gw (.of xs) (by simp [look,Nat.beq_refl])
 obtain⟨GR,aO,a7⟩:=s.env gw _ r8
 rw [ab] at aO
 cases aO
 have a7:v=_:=a7
 subst a7
 exact h1.EZ ao (fun o ⟨cs,T,g1,g2⟩=>⟨cs,T,g1,Sh l g2 (List.mem_of_getElem? hq) (pf.1 ax)⟩) id
theorem aj.Jf {z:Exit}{p cap T:Nat}{key:Option Nat}{β γ:Type}[ah β][ah γ]{b b':β}{xs:List γ}{os os':List (Nat×Value)}(l:aK β (List γ))(i j q gw:Nat)(fS:Nat.beq i j=false)(aq:L[i]? =some ⟨some p,.ch b os⟩)(sj:L[j]? =some ⟨key,.row T xs cap⟩)
 (hq:os[q]? =some (l.off,aJ key xs.length cap)) (hb:l.set b xs=b') (ra:tA os l.off=os') (r8:look E gw=some (.eq (aJ key xs.length cap))) (k:aj c Q z ((gw,.of xs)::E) ((L.set j ⟨none,.dead⟩).set i ⟨some p,.ch b' os'⟩)):aj c Q z E L:=
 fun a W s=>k a W (s.Jf l (fun e=>by rw [e,Nat.beq_refl] at fS;cases fS) aq sj q hq hb ra r8)
inductive wU (c:cF)(E:List (Nat×I))(L:List aF)(place:Nat→Option (Nat×Nat)){β:Type}[ah β]:β→List (Nat×Value)→List (Nat×Operand)→β→List (Nat×Value)→Prop
 | nil {b os} :wU c E L place b os [] b os
 | cons {b dJ b':β} {os os':List (Nat×Value)} {γ:Type} [ah γ] {v:γ} {i:Nat} {x:Operand} {r:List (Nat×Operand)} (l:aK β γ):place i=some (l.off,ah.size γ)→aN c E L x (.of v)→l.set b v=dJ→tK os l.off (ah.size γ)=true→wU c E L place dJ os r b' os'→wU c E L place b os ((i,x)::r) b' os'
 | hole {b dJ b':β} {os O6 os':List (Nat×Value)} {γ:Type} [ah γ] {u:Value} {i:Nat} {x:Operand} {r:List (Nat×Operand)} (l:aK β (List γ)):place i=some (l.off,1)→aN c E L x (.eq u)→u.oneCell'=true→l.set b []=dJ→wM os l.off u=O6→wU c E L place dJ O6 r b' os'→wU c E L place b os ((i,x)::r) b' os'
theorem wU.run {place:Nat→Option (Nat×Nat)}{β:Type}[ah β]{b b':β}{os os':List (Nat×Value)}{dS:List (Nat×Operand)}(h:wU c E L place b os dS b' os'):∀ a W,bI c E L a W→ ∀ cs:Array Value,mU (aP L++c.bZ) W cs.toList b os→
 ∃ eP,Instr.fill place cs (dS.map fun(i,x)=>(i,a.eval x))=some eP∧mU (aP L++c.bZ) W eP.toList b' os':=by
 induction h with
 | nil=>intro a W s cs aA;exact⟨cs,rfl,aA⟩
 | @cons b dJ b' os os' γ _ v i x r l h1 ab ax aO _ b2=>
   intro a W s cs aA
   subst ax
   have bb:=ab a W s
   have dK:(a.eval x).cells.size=ah.size γ:=by have:=ah.len bb.2;simpa using this
   have ak:cs.toList.length=ah.size β:=aA.len
   have fT:=l.hf
   rw [List.map_cons,Ii h1 dK (by simp at ak;omega)]
   refine b2 a W s _ ?_
   have:=SI l aA bb.2 aO
   simpa [gY,ah.len bb.2] using this
 | @hole b dJ b' os O6 os' γ _ u i x r l h1 ab ax aO a7 _ b2=>
   intro a W s cs aA
   subst aO
   subst a7
   have bb:a.eval x=u:=ab a W s
   have ad:(a.eval x).cells.toList= [u]:=by rw [bb,cells_one ax]
   have dK:(a.eval x).cells.size=1:=by have:=congrArg List.length ad;simpa using this
   have ak:cs.toList.length=ah.size β:=aA.len
   have fT:l.off+1≤ah.size β:=l.hf
   rw [List.map_cons,Ii h1 dK (by simp at ak;omega)]
   refine b2 a W s _ ?_
   have:=Sg l aA ax
   simpa [gY,ad] using this
theorem ss {β:Type}[ah β]{z b:β}{dS:List (Nat×Operand)}{pl:Array (Nat×Nat)}{os:List (Nat×Value)}(s0:List Nat)(we:kf c.P t s0)(aW:ah.agg β=true)(GM:fX c.P t pl)(gU:dp c.P t z)
 (aT:wU c E L (pl[·]?) z (s0.map fun o=>(o,lQ)) dS b os):bc c E L ⟨d,.build t dS.toArray,ty,pos,af,g⟩ (.O5 b os):= .pure fun a W s=>by
 obtain⟨fs,hu,hs,rfl⟩:=GM.at_
 obtain⟨i,dY,h1,ab,ax⟩:=gU.zero
 have bQ:∀ o∈s0,dY.cells.toList[o]? =some lQ:=fun o bg=>by
  unfold kf at we;rw [h1] at we;simp only [Option.bind_some,ab,Option.any_some] at we;exact RR (List.all_eq_true.1 we o bg)
 obtain⟨eP,aO,a7⟩:=aT.run a W s dY.cells ⟨by
  rw [Ln fun h hm=>by obtain⟨o,bg,rfl⟩:=List.mem_map.1 hm;exact bQ o bg];exact(ax _ _).2,fun h hm=>by obtain⟨o,bg,rfl⟩:=List.mem_map.1 hm;exact⟨bQ o bg,rfl⟩⟩
 refine⟨.agg eP,?_,by simp [shaped,aW],by simpa [Value.cells] using a7⟩
 have hm:(dS.toArray.map fun(x:Nat×Operand)=>(x.1,a.eval x.2)).toList=dS.map fun(i,x)=>(i,a.eval x):=by simp
 simp only [execOp,Instr.build,Sem.run_bind,zeroValue,typeInfo,run_program,Result.andThen_ok,h1,ab,Sem.run_pure,run_underlying hu,Rs fs hs]
 rw [hm,aO]
 rfl
def zA {α:Type}[Inhabited α](bytes:Nat)(n:Int):Option (List α):=if 0≤n∧n≤140737488355328∧bytes * n≤140737488355328 then some (List.replicate n.toNat default) else none
theorem adD {α:Type}[Inhabited α]{bytes:Nat}{n:Int}{r:List α}(h:zA bytes n=some r):0≤n∧n≤140737488355328∧bytes * n≤140737488355328∧List.replicate n.toNat default=r:=by
 unfold zA at h;split at h
 ·rename_i ad;exact⟨ad.1,ad.2.1,ad.2.2,dc h⟩
 cases h
theorem J.XE {α:Type}[ah α][Inhabited α]{rest:List Oper}{ba e bytes:Nat}{r:List α}{n:Int}(hu:c.P.underlying t=some (.slice e))(eH:bO c.P e α)(gU:dp c.P e (default:α))(hs:Nat.beq (ah.size α) 0=false)(hb:(c.P.info? e).map (·.bytes)=some bytes)
 (al:aN c E L x (.of n)) (aR:aN c E L y (.of n)) (hm:zA bytes n=some r) (hL:Nat.blt ba c.n=true) (k:∀ p,J c ops Q rest ((ba,.eq (aJ p r.length r.length))::E) (⟨p,.row e r r.length⟩::L)):
 J c ops Q (⟨some ba,.makeSlice t x y,ty,pos,af,none⟩::rest) E L:=fun a W s=>by
 obtain⟨bq,aH,asb,rfl⟩:=adD hm
 obtain⟨m,rfl⟩:=Int.eq_ofNat_of_zero_le bq
 obtain⟨gP,dY,ej,bF,uj⟩:=gU.zero
 have pC:gP.size=ah.size α:=by
  obtain⟨i2,h1,ab⟩:=eH.info;rw [ej] at h1;cases h1;exact ab
 have zC:gP.bytes=bytes:=by rw [ej] at hb;simpa using hb
 have iM:ah.size α≠0:=fun h=>by rw [h] at hs;cases hs
 have s6:=Ey (uj (aP L++c.bZ) W) m iM
 have h1:=of_int.1 (al a W s)
 have ab:=of_int.1 (aR a W s)
 have hw:IntKind.i64.wrap (m:Int)=m:=by have:bk (m:Int)=m:=gA (by omega) (by omega);exact this
 have hp:(2:Int) ^ 48=281474976710656:=by decide
 simp only [Int.toNat_natCast,List.length_replicate] at k
 generalize ko:(Array.range (m * ah.size α)).map (dY.cells[· % dY.cells.size]!)=D at s6
 refine iP rfl (R:=fun v W'=>v= .slice (some ⟨W.heap.size,0,none⟩) m m∧W'=W.alloc (.cells D e)) (.mv (v:= .slice (some ⟨W.heap.size,0,none⟩) m m) (W':=W.alloc (.cells D e)) ?_ ⟨rfl,rfl⟩) fun v W' ⟨ax,aO⟩=>?_
 ·have dy:((decide ((m:Int)<0)||decide ((gP.bytes:Int) * m>2 ^ 48))||decide ((m:Int)<0)||decide ((m:Int)>m))=false:=by
   rw [zC,hp];simp;omega
  have J5:((Array.range (m * gP.size)).map fun i=>(if m * gP.size=0 then(#[]:Array Value) else dY.cells)[i % (if m * gP.size=0 then(#[]:Array Value) else dY.cells).size]!)=D:=by
   rw [← ko,pC];by_cases ih:m * ah.size α=0
   ·rw [ih];simp
   simp only [if_neg ih]
  have aW:(asInt (.int .i64 (m:Int)):Sem Int).run c.P W= .ok (m:Int) W:=by simp [asInt,asIntOf]
  simp only [execOp,Instr.makeSlice,Sem.run_bind,run_underlying hu,Result.andThen_ok,h1,ab,aW,Sem.run_pure,typeInfo,run_program,ej,hw,dy,Bool.false_eq_true,if_false,run_askRoom,Go.sizeOf,Int.toNat_natCast]
  by_cases ih:m * gP.size=0
  ·simp only [ih,if_true,Sem.run_pure,Result.andThen_ok,Sem.run_bind,newRow] at J5 ⊢
   rw [J5]
   simp
  simp only [ih,if_false,Sem.run_pure,Result.andThen_ok,Sem.run_bind,newRow,zeroValue,typeInfo,run_program,ej,bF] at J5 ⊢
  rw [J5]
  simp
 subst ax aO
 have xc:m≤maxLen:=by
  have:maxLen=9223372036854775807:=rfl;omega
 have dK:D.size=m * ah.size α:=by have:=s6.1;simpa using this
 have cf:=s.alloc (o:= .cells D e) (cp:= .row e (List.replicate m (default:α)) m) ⟨D,rfl,dK,by simp,xc,by
  have bl:=s6.1;rw [List.length_replicate] at bl ⊢;rw [← bl,List.take_length];exact s6⟩
 exact k (some W.heap.size) _ _ (cf.put (τ:= .eq (aJ (some W.heap.size) m m)) (by simpa using hL) rfl)
theorem aj.nv {fn:Func}{δ:Type}{ρ:δ→I}{Lo:δ→List aF}(ba:δ)(hs:(Lo ba).Sublist L)(aA:fn.results= #[])(q8:ρ ba= .bP [])(eC:c.ds= []:=by rfl):aj c (bodyPost c.P fn (kZ c.X c.bZ c.jY ρ Lo)) .ret E L:=fun a W s=>
 ⟨s.yG eC,.tuple #[],by simp [yx,aA],s.ends ba hs (by rw [q8];exact⟨_,rfl,.nil⟩)⟩
end
end Gv
