/-
  The library of the decompiler, as far as it is needed here. Conditions: none.
-/
import Derived.WalkKit
import Derived.StillTail
import Derived.OwnWalkIn
import Derived.RangeFuncNested
import Derived.RangeFuncLeaves
import Derived.RangeFuncCalls
import Derived.ChangeSame
import Derived.OpenShut
import Derived.Carry
import Derived.DataReads
set_option linter.unusedVariables false
set_option linter.unusedSimpArgs false
namespace Gv
open Go
theorem Cu (w:World)(o:Obj)(i:Nat)(h:i<w.heap.size):(w.alloc o).heap[i]? =w.heap[i]? :=by
 show(w.heap.push o)[i]? =w.heap[i]?;rw [Array.getElem?_push,if_neg (Nat.ne_of_lt h)]
theorem J0 (w:World)(o:Obj):(w.alloc o).heap[w.heap.size]? =some o:=by
 show(w.heap.push o)[w.heap.size]? =some o;simp
structure Fr (X:List Nat)(W W':World):Prop where
 os:W'.os=W.os
 tape:W'.tape=W.tape
 output:W'.output=W.output
 drawn:W.drawn≤W'.drawn
 size:W.heap.size≤W'.heap.size
 block:∀ k,k<W.heap.size→k ∉ X→W'.heap[k]? =W.heap[k]?
theorem Fr.refl (X:List Nat)(W:World):Fr X W W:=⟨rfl,rfl,rfl,Nat.le_refl _,Nat.le_refl _,fun _ _ _=>rfl⟩
theorem Fr.trans {X:List Nat}{A B C:World}(h:Fr X A B)(k:Fr X B C):Fr X A C:=
 ⟨k.os.trans h.os,k.tape.trans h.tape,k.output.trans h.output,Nat.le_trans h.drawn k.drawn,Nat.le_trans h.size k.size,
   fun i ar ao=>(k.block i (Nat.lt_of_lt_of_le ar h.size) ao).trans (h.block i ar ao)⟩
theorem Fr.weaken {X Y:List Nat}{A B:World}(h:Fr X A B)(s:∀ k∈X,k∈Y):Fr Y A B:=
 ⟨h.os,h.tape,h.output,h.drawn,h.size,fun i ar ao=>h.block i ar fun hm=>ao (s _ hm)⟩
theorem Fr.nil {X:List Nat}{A B:World}(h:Fr [] A B):Fr X A B:=h.weaken (by simp)
theorem Fr.only {X Y:List Nat}{A B:World}(h:Fr X A B)(s:∀ k∈X,k<A.heap.size→k∈Y):Fr Y A B:=
 ⟨h.os,h.tape,h.output,h.drawn,h.size,fun i ar ao=>h.block i ar fun hm=>ao (s _ hm ar)⟩
theorem Fr.alloc {X:List Nat}(W:World)(o:Obj):Fr X W (W.alloc o):=
 ⟨rfl,rfl,rfl,Nat.le_refl _,by simp,fun k hk _=>Cu W o k hk⟩
theorem Fr.drew {X:List Nat}(W:World):Fr X W W.drew:=⟨rfl,rfl,rfl,Nat.le_succ _,Nat.le_refl _,fun _ _ _=>rfl⟩
theorem Fr.setRow {X:List Nat}(W:World)(g:Nat)(cs:Array Value)(h:g∈X):Fr X W (W.setRow g cs):=
 ⟨rfl,rfl,rfl,Nat.le_refl _,by simp,fun k _ ao=>setRow_other W g k cs (fun e=>ao (e ▸ h))⟩
structure Ext (A:List Nat)(W:World)(c8:List Nat)(W':World):Prop where
 size:W.heap.size≤W'.heap.size
 block:∀ k,k<W.heap.size→k ∉ A→W'.heap[k]? =W.heap[k]?
 new:∀ k∈c8,k<W.heap.size→k∈A
theorem Ext.refl (A:List Nat)(W:World):Ext A W A W:=⟨Nat.le_refl _,fun _ _ _=>rfl,fun _ h _=>h⟩
theorem Ext.trans {A B C:List Nat}{U V W:World}(h:Ext A U B V)(k:Ext B V C W):Ext A U C W:=
 ⟨Nat.le_trans h.size k.size,
  fun i ar bo=>(k.block i (Nat.lt_of_lt_of_le ar h.size) (fun hb=>bo (h.new i hb ar))).trans (h.block i ar bo),
  fun i aj ar=>h.new i (k.new i aj (Nat.lt_of_lt_of_le ar h.size)) ar⟩
theorem Ext.Sw {A X:List Nat}{W W':World}(h:Fr X W W')(s:∀ k∈X,k∈A):Ext A W A W':=
 ⟨h.size,fun k hk bo=>h.block k hk fun ao=>bo (s k ao),fun _ h _=>h⟩
theorem Ext.dR {A:List Nat}{W W':World}(h:Fr [] W W'):Ext A W A W':= .Sw h (by simp)
theorem Ext.drop {A c8:List Nat}{W:World}(s:∀ k∈c8,k∈A):Ext A W c8 W:=⟨Nat.le_refl _,fun _ _ _=>rfl,fun k h _=>s k h⟩
structure I where
 holds:List Nat→World→Value→Prop
 mono:∀ {A W c8 W' v},Ext A W c8 W'→holds A W v→holds c8 W' v
class ah (α:Type) where
 size:Nat
 agg:Bool
 rep:List Nat→World→List Value→α→Prop
 len:∀ {A W cs x},rep A W cs x→cs.length=size
 one:∀ {A W cs x},rep A W cs x→ ∀ v∈cs,v.oneCell'=true
 flat:agg=false→size=1
 mono:∀ {A W c8 W' cs x},Ext A W c8 W'→rep A W cs x→rep c8 W' cs x
def shaped (b:Bool)(v:Value):Prop:=if b=true then ∃ cs,v= .agg cs else v.oneCell'=true
theorem cells_one {v:Value}(h:v.oneCell'=true):v.cells= #[v]:=by cases v <;> first | rfl | simp [Value.oneCell'] at h
def I.of {α:Type}[ah α](x:α):I where
 holds A W v:=shaped (ah.agg α) v∧ah.rep A W v.cells.toList x
 mono e h:=⟨h.1,ah.mono e h.2⟩
def I.eq (u:Value):I where
 holds _ _ v:=v=u
 mono _ h:=h
def I.cond (c:Prop)(τ:I):I where
 holds A W v:=(c→τ.holds A W v)∧ (¬ c→v=undef)
 mono e h:=⟨fun aj=>τ.mono e (h.1 aj),h.2⟩
def I.any:I where
 holds _ _ _:=True
 mono _ h:=h
inductive hc (A:List Nat)(W:World):List I→List Value→Prop
 | nil:hc A W [] []
 | cons {τ v τs vs} :τ.holds A W v→hc A W τs vs→hc A W (τ::τs) (v::vs)
theorem hc.mono {A W c8 W'}(e:Ext A W c8 W'):∀ {τs vs},hc A W τs vs→hc c8 W' τs vs
 | _,_,.nil=>.nil
 | _,_,.cons h r=>.cons (I.mono _ e h) (r.mono e)
theorem hc.length {A W} :∀ {τs vs},hc A W τs vs→vs.length=τs.length
 | _,_,.nil=>rfl
 | _,_,.cons _ r=>by simp [r.length]
def I.eu (τs:List I):I where
 holds A W v:= ∃ vs:Array Value,v= .tuple vs∧hc A W τs vs.toList
 mono e h:=let⟨vs,a6,cu⟩:=h; ⟨vs,a6,cu.mono e⟩
def I.ptr {α:Type}[ah α](x:α):I where
 holds A W v:= ∃ b off cur T hC,v= .pointer (some ⟨b,off,none⟩)∧b ∉ A∧W.heap[b]? =some (.cells cur T hC)∧off+ah.size α≤cur.size∧ah.rep A W ((cur.toList.drop off).take (ah.size α)) x
 mono e h:=by
  obtain⟨b,off,cur,T,hC,rfl,hb,cu,hs,aR⟩:=h;have ct:b<_:=(Array.getElem?_eq_some_iff.1 cu).1;exact⟨b,off,cur,T,hC,rfl,fun hm=>hb (e.new b hm ct),by rw [e.block b ct hb];exact cu,hs,ah.mono e aR⟩
structure dV where
 holds:List Nat→World→Obj→Prop
 ni:Prop
 mono:∀ {A W c8 W' o},Ext A W c8 W'→holds A W o→holds c8 W' o
def dV.var {α:Type}[ah α](x:α):dV where
 holds A W o:= ∃ cs T,o= .cells cs T (0,0)∧ah.rep A W cs.toList x
 ni:=False
 mono e h:=let⟨cs,T,bk,aR⟩:=h; ⟨cs,T,bk,ah.mono e aR⟩
def hg {α:Type}[ah α](A:List Nat)(W:World)(cs:List Value)(xs:List α):Prop:=
 cs.length=xs.length * ah.size α∧ ∀ i (h:i<xs.length),ah.rep A W ((cs.drop (i * ah.size α)).take (ah.size α)) xs[i]
theorem hg.mono {α:Type}[ah α]{A W c8 W'}{cs:List Value}{xs:List α}(e:Ext A W c8 W')(h:hg A W cs xs):hg c8 W' cs xs:=
 ⟨h.1,fun i ar=>ah.mono e (h.2 i ar)⟩
def dV.row {α:Type}[ah α](T:TypeId)(xs:List α)(cap:Nat):dV where
 holds A W o:= ∃ cs,o= .cells cs T (0,0)∧cs.size=cap * ah.size α∧xs.length≤cap∧cap≤maxLen∧hg A W (cs.toList.take (xs.length * ah.size α)) xs
 ni:=xs= []∧cap=0
 mono e h:=let⟨cs,h1,ad,aD,aZ,bc⟩:=h; ⟨cs,h1,ad,aD,aZ,bc.mono e⟩
def dV.dead:dV where
 holds _ _ _:=True
 ni:=True
 mono _ h:=h
structure aN where
 key:Option Nat
 cp:dV
def aN.ok (A:List Nat)(W:World)(e:aN):Prop:=
 match e.key with
 | some p=> ∃ o,W.heap[p]? =some o∧e.cp.holds A W o
 | none=>e.cp.ni
def aS:List aN→List Nat
 | []=>[]
 | e::r=>match e.key with
   | some p=>p::aS r
   | none=>aS r
theorem lM {L:List aN}{k:Nat} :k∈aS L↔ ∃ e∈L,e.key=some k:=by
 induction L with
 | nil=>simp [aS]
 | cons e r b7=>
   cases hk:e.key with
   | none=>simp [aS,hk,b7]
   | some p=>simp [aS,hk,b7,eq_comm]
structure dt where
 P:Program
 n:Nat
 jx:World
 X:List Nat
 b8:List Nat
 rd:Option Nat
 ds:List Nat
def GU (D:Nat):Deferred:= { target:= .collected D,args:= #[] }
abbrev dt.F (c:dt):Fence:= { fn:=fun _=>True,depth:=none,alive:=false,round:=c.rd }
abbrev dt.wp (c:dt)(y:Code)(Q:Exit→Act→World→Prop):Act→World→Prop:=y.wpIn c.F 9 c.P Q
abbrev dt.qb (c:dt)(ops:Array Oper)(Q:Exit→Act→World→Prop):List Oper→Act→World→Prop:=wpListIn c.F 9 c.P ops Q
def look:List (Nat×I)→Nat→Option I
 | [],_=>none
 | (s,τ)::r,t=>bif Nat.beq s t then some τ else look r t
structure bM (c:dt)(E:List (Nat×I))(L:List aN)(a:Act)(W:World):Prop where
 defers:a.defers=c.ds.map GU
 size:a.tmps.size=c.n
 env:∀ t τ,look E t=some τ→ ∃ v,a.tmps[t]? =some v∧τ.holds (aS L++c.b8) W v
 dR:Fr c.X c.jx W
 own:∀ e∈L,e.ok (aS L++c.b8) W
 nodup:(aS L).Nodup
 lt:∀ k∈aS L,k<W.heap.size
 gw:∀ k∈aS L,k<c.jx.heap.size→k∈c.X
 fb:∀ k∈c.b8,k<W.heap.size∧k ∉ aS L
theorem eH {s t:Nat} :Nat.beq s t=true↔s=t:=by
 constructor
 ·exact Nat.eq_of_beq_eq_true
 rintro rfl;exact Nat.beq_refl s
theorem bM.Gj {c E L a W}(h:bM c E L a W):∀ k∈aS L++c.b8,k<W.heap.size:=by
 intro k hk;rcases List.mem_append.1 hk with hk | hk
 ·exact h.lt k hk
 exact(h.fb k hk).1
theorem bM.world {c E L a W W'}(h:bM c E L a W)(f:Fr [] W W'):bM c E L a W' where
 defers:=h.defers
 size:=h.size
 env t τ al:=let⟨v,h1,ad⟩:=h.env t τ al; ⟨v,h1,τ.mono (.dR f) ad⟩
 dR:=h.dR.trans f.nil
 own e he:=by
  have h1:=h.own e he;unfold aN.ok at *;split at h1
  ·rename_i p hp;obtain⟨o,bk,cu⟩:=h1;have ct:=h.lt p (lM.2 ⟨e,he,hp⟩);exact⟨o,by rw [f.block p ct (by simp)];exact bk,dV.mono _ (.dR f) cu⟩
  exact h1
 nodup:=h.nodup
 lt k hk:=Nat.lt_of_lt_of_le (h.lt k hk) f.size
 gw:=h.gw
 fb k hk:=⟨Nat.lt_of_lt_of_le (h.fb k hk).1 f.size,(h.fb k hk).2⟩
theorem bM.put {c E L a W}(h:bM c E L a W){d:Nat}(hd:d<c.n){v:Value}{τ:I}(a6:τ.holds (aS L++c.b8) W v):
 bM c ((d,τ)::E) L (a.put (some d) v) W where
 defers:=h.defers
 size:=by simp [Act.put,h.size]
 env t nu al:=by
  simp only [look] at al;simp only [Act.put];by_cases e:Nat.beq d t=true
  ·rw [e] at al;simp only [cond_true,Option.some.injEq] at al;subst al;have:=eH.1 e;subst this;exact⟨v,by simp [h.size,hd],a6⟩
  simp only [Bool.not_eq_true] at e;rw [e] at al;simp only [cond_false] at al;obtain⟨u,h1,ad⟩:=h.env t nu al;have da:d≠t:=fun h=>by rw [eH.2 h] at e;cases e
  exact⟨u,by rw [Array.getElem?_setIfInBounds_ne da];exact h1,ad⟩
 dR:=h.dR
 own:=h.own
 nodup:=h.nodup
 lt:=h.lt
 gw:=h.gw
 fb:=h.fb
theorem bM.wk {c E L a W}(s:bM c E L a W)(h:c.ds= []):a.defers= []:=by rw [s.defers,h];rfl
theorem bM.less {c E E' L a W}(h:bM c E L a W)(aB:∀ t τ,look E' t=some τ→ ∃ σ,look E t=some σ∧ ∀ A W v,σ.holds A W v→τ.holds A W v):bM c E' L a W:=
 {h with env:=fun t τ al=>let⟨_,h1,ad⟩:=aB t τ al;let⟨v,aD,aZ⟩:=h.env t _ h1; ⟨v,aD,ad _ _ _ aZ⟩ }
theorem bM.alloc {c E L a W}(h:bM c E L a W){o:Obj}{cp:dV}(aj:cp.holds (aS L++c.b8) W o):
 bM c E (⟨some W.heap.size,cp⟩::L) a (W.alloc o):=by
 have xf:W.heap.size ∉ aS L:=fun hm=>Nat.lt_irrefl _ (h.lt _ hm)
 have gR:Ext (aS L++c.b8) W (aS (⟨some W.heap.size,cp⟩::L)++c.b8) (W.alloc o):=
  ⟨by simp,fun k hk _=>Cu W o k hk,fun k hk ct=>by
   simp only [aS,List.cons_append,List.mem_cons] at hk;rcases hk with rfl | hk
   ·exact absurd ct (Nat.lt_irrefl _)
   exact hk⟩
 exact
 {defers:=h.defers
  size:=h.size
  env:=fun t τ al=>let⟨v,h1,ad⟩:=h.env t τ al; ⟨v,h1,τ.mono gR ad⟩
  dR:=h.dR.trans (Fr.alloc W o)
  own:=fun e he=>by
   rcases List.mem_cons.1 he with rfl | he
   ·exact⟨o,J0 W o,cp.mono gR aj⟩
   have h1:=h.own e he;unfold aN.ok at *;split at h1
   ·rename_i p hp;obtain⟨o',bk,cu⟩:=h1;exact⟨o',by rw [Cu W o p (h.lt p (lM.2 ⟨e,he,hp⟩))];exact bk,dV.mono _ gR cu⟩
   exact h1
  nodup:=by simp only [aS];exact List.nodup_cons.2 ⟨xf,h.nodup⟩
  lt:=fun k hk=>by
   simp only [aS,List.mem_cons] at hk;rw [World.size_alloc];rcases hk with rfl | hk
   ·omega
   have:=h.lt k hk;omega
  gw:=fun k hk ct=>by
   simp only [aS,List.mem_cons] at hk;rcases hk with rfl | hk
   ·have:=h.dR.size;omega
   exact h.gw k hk ct
  fb:=fun k hk=>by
   obtain⟨h1,ad⟩:=h.fb k hk;refine⟨by rw [World.size_alloc];omega,fun hm=>?_⟩;simp only [aS,List.mem_cons] at hm;rcases hm with rfl | hm
   ·omega
   exact ad hm }
theorem bM.sub {c E L L' a W}(h:bM c E L a W)(ak:∀ e∈L',e∈L)(aO:(aS L').Nodup):bM c E L' a W:=by
 have hk:∀ k∈aS L',k∈aS L:=fun k hk=>by
  obtain⟨e,he,ad⟩:=lM.1 hk;exact lM.2 ⟨e,ak e he,ad⟩
 have gR:Ext (aS L++c.b8) W (aS L'++c.b8) W:= .drop fun k hm=>by
  rcases List.mem_append.1 hm with hm | hm
  ·exact List.mem_append.2 (.inl (hk k hm))
  exact List.mem_append.2 (.inr hm)
 exact
 {defers:=h.defers
  size:=h.size
  env:=fun t τ al=>let⟨v,h1,ad⟩:=h.env t τ al; ⟨v,h1,τ.mono gR ad⟩
  dR:=h.dR
  own:=fun e he=>by
   have h1:=h.own e (ak e he);unfold aN.ok at *;split at h1
   ·obtain⟨o',bk,cu⟩:=h1;exact⟨o',bk,dV.mono _ gR cu⟩
   exact h1
  nodup:=aO
  lt:=fun k hm=>h.lt k (hk k hm)
  gw:=fun k hm=>h.gw k (hk k hm)
  fb:=fun k hm=>⟨(h.fb k hm).1,fun ad=>(h.fb k hm).2 (hk k ad)⟩ }
theorem e5 (L R:List aN):aS (L++R)=aS L++aS R:=by
 induction L with
 | nil=>rfl
 | cons e r b7=>cases hk:e.key <;> simp [aS,hk,b7]
theorem y7 {L:List aN}{i:Nat}{e:aN}{cp:dV}(ar:L[i]? =some e):aS (L.set i ⟨e.key,cp⟩)=aS L:=by
 induction L generalizing i with
 | nil=>simp at ar
 | cons x r b7=>
   cases i with
   | zero=>simp only [List.getElem?_cons_zero,Option.some.injEq] at ar;subst ar;simp [aS]
   | succ i=>simp only [List.getElem?_cons_succ] at ar;simp [aS,b7 ar]
theorem J1 {L:List aN}(aO:(aS L).Nodup){i j:Nat}{e f:aN}{p:Nat}(ar:L[i]? =some e)(aF:L[j]? =some f)(he:e.key=some p)(bb:f.key=some p):i=j:=by
 induction L generalizing i j with
 | nil=>simp at ar
 | cons x r b7=>
   have aR:(aS r).Nodup:=by
    cases ao:x.key with
    | none=>simpa [aS,ao] using aO
    | some q=>simp only [aS,ao] at aO;exact(List.nodup_cons.1 aO).2
   have u2:∀ q,x.key=some q→q ∉ aS r:=fun q ao=>by simp only [aS,ao] at aO;exact(List.nodup_cons.1 aO).1
   cases i with
   | zero=>
     simp only [List.getElem?_cons_zero,Option.some.injEq] at ar
     subst ar
     cases j with
     | zero=>rfl
     | succ j=>
       simp only [List.getElem?_cons_succ] at aF
       exact absurd (lM.2 ⟨f,List.mem_of_getElem? aF,bb⟩) (u2 p he)
   | succ i=>
     simp only [List.getElem?_cons_succ] at ar
     cases j with
     | zero=>
       simp only [List.getElem?_cons_zero,Option.some.injEq] at aF
       subst aF
       exact absurd (lM.2 ⟨e,List.mem_of_getElem? ar,he⟩) (u2 p bb)
     | succ j=>
       simp only [List.getElem?_cons_succ] at aF
       rw [b7 aR ar aF]
theorem bM.store {c E L a W}(h:bM c E L a W){i p:Nat}{cp cp':dV}(ar:L[i]? =some ⟨some p,cp⟩){cs en:Array Value}{T:TypeId}
 (bk:W.heap[p]? =some (.cells cs T (0,0))) (aj:cp'.holds (aS L++c.b8) W (.cells en T (0,0))):
 bM c E (L.set i ⟨some p,cp'⟩) a (W.setRow p en):=by
 have gy:aS (L.set i ⟨some p,cp'⟩)=aS L:=y7 (cp:=cp') ar
 have hp:p∈aS L:=lM.2 ⟨_,List.mem_of_getElem? ar,rfl⟩
 have gR:Ext (aS L++c.b8) W (aS L++c.b8) (W.setRow p en):=
  ⟨by simp,fun k _ bo=>setRow_other W p k en (fun e=>bo (e ▸ List.mem_append.2 (.inl hp))),fun _ h _=>h⟩
 exact
 {defers:=h.defers
  size:=h.size
  env:=fun t τ al=>by rw [gy];exact let⟨v,h1,ad⟩:=h.env t τ al; ⟨v,h1,τ.mono gR ad⟩
  dR:=⟨h.dR.os,h.dR.tape,h.dR.output,h.dR.drawn,by simpa using h.dR.size,fun k hk ao=>by
   rw [setRow_other W p k en (fun e=>ao (e ▸ h.gw p hp (e ▸ hk)))];exact h.dR.block k hk ao⟩
  own:=fun e he=>by
   rw [gy];obtain⟨j,aF⟩:=List.mem_iff_getElem?.1 he;rw [List.getElem?_set] at aF;split at aF
   ·rename_i gd;subst gd;split at aF
    ·simp only [Option.some.injEq] at aF;subst aF;exact⟨_,setRow_heap W p cs en T (0,0) bk,cp'.mono gR aj⟩
    cases aF
   rename_i gd;have h1:=h.own e (List.mem_of_getElem? aF);unfold aN.ok at *;split at h1
   ·rename_i q hq;obtain⟨o',qV,cu⟩:=h1;have da:q≠p:=fun e'=>gd (J1 h.nodup ar aF rfl (e' ▸ hq));exact⟨o',by rw [setRow_other W p q en da];exact qV,dV.mono _ gR cu⟩
   exact h1
  nodup:=by rw [gy];exact h.nodup
  lt:=by rw [gy];simpa using h.lt
  gw:=by rw [gy];exact h.gw
  fb:=by rw [gy];simpa using h.fb }
abbrev ah.scalar {α:Type}(val:α→Value)(h:∀ x,(val x).oneCell'=true):ah α where
 size:=1
 agg:=false
 rep _ _ cs x:=cs= [val x]
 len h:=by rw [h];rfl
 one aR:=by subst aR;intro v a6;rw [List.mem_singleton.1 a6];exact h _
 flat _:=rfl
 mono _ h:=h
instance:ah Bool:= .scalar Value.bool fun _=>rfl
instance:ah Int:= .scalar (Value.int .i64) fun _=>rfl
instance:ah (BitVec 64):= .scalar (fun x=>Value.int .u64 (x.toNat:Int)) fun _=>rfl
instance:ah (BitVec 32):= .scalar (fun x=>Value.int .u32 (x.toNat:Int)) fun _=>rfl
instance:ah (BitVec 16):= .scalar (fun x=>Value.int .u16 (x.toNat:Int)) fun _=>rfl
instance:ah (BitVec 8):= .scalar (fun x=>Value.int .u8 (x.toNat:Int)) fun _=>rfl
instance:ah ByteArray:= .scalar Value.string fun _=>rfl
theorem o5 {v u:Value}(h:v.oneCell'=true)(e:v.cells.toList= [u]):v=u:=by
 rw [cells_one h] at e;simpa using e
theorem of_bool {A W v}{b:Bool} :(I.of b).holds A W v↔v= .bool b:=
 ⟨fun h=>o5 h.1 h.2,fun h=>by subst h;exact⟨rfl,rfl⟩⟩
theorem of_int {A W v}{x:Int} :(I.of x).holds A W v↔v= .int .i64 x:=
 ⟨fun h=>o5 h.1 h.2,fun h=>by subst h;exact⟨rfl,rfl⟩⟩
theorem gI {A W v}{x:BitVec 64} :(I.of x).holds A W v↔v= .int .u64 (x.toNat:Int):=
 ⟨fun h=>o5 h.1 h.2,fun h=>by subst h;exact⟨rfl,rfl⟩⟩
theorem GK {A W v}{x:BitVec 8} :(I.of x).holds A W v↔v= .int .u8 (x.toNat:Int):=
 ⟨fun h=>o5 h.1 h.2,fun h=>by subst h;exact⟨rfl,rfl⟩⟩
theorem QW {A W v}{x:ByteArray} :(I.of x).holds A W v↔v= .string x:=
 ⟨fun h=>o5 h.1 h.2,fun h=>by subst h;exact⟨rfl,rfl⟩⟩
def bg (c:dt)(E:List (Nat×I))(L:List aN)(x:Operand)(τ:I):Prop:= ∀ a W,bM c E L a W→τ.holds (aS L++c.b8) W (a.eval x)
section
variable {c:dt} {E:List (Nat×I)} {L:List aN}
theorem ab {t:Nat}{τ:I}(h:look E t=some τ):bg c E L (.tmp t) τ:=fun a W s=>by
 obtain⟨v,h1,ad⟩:=s.env t τ h;have:a.eval (.tmp t)=v:=by simp [Act.eval,h1]
 rw [this];exact ad
theorem b1 {t:Nat}{τ:I}{p:Prop}(h:look E t=some (.cond p τ))(hp:p):bg c E L (.tmp t) τ:=fun a W s=>(ab h a W s).1 hp
theorem JN (v:Value):bg c E L (.const v) (.eq v):=fun _ _ _=>rfl
theorem bX (k:Int):bg c E L (.const (.int .i64 k)) (.of k):=fun _ _ _=>of_int.2 rfl
theorem gC (b:Bool):bg c E L (.const (.bool b)) (.of b):=fun _ _ _=>of_bool.2 rfl
theorem fX (x:BitVec 64){k:Int}(h:(x.toNat:Int)=k):bg c E L (.const (.int .u64 k)) (.of x):=fun _ _ _=>gI.2 (by rw [h];rfl)
theorem ef (s:ByteArray):bg c E L (.const (.string s)) (.of s):=fun _ _ _=>QW.2 rfl
def hv (P:Program)(o:Oper)(a:Act)(W:World)(R:Value→World→Prop):Prop:=
 o.wp P a W (fun gX W'=> ∃ v,gX=a.put o.dst v∧R v W') (fun _ _ _=>False)
theorem CallsIn.Jt {rd:Option Nat}{n:Nat}{P:Program}{f:FuncId}{args:Array Value}{w:World}{R:Ending→World→Prop}
 (h:Calls P f args w R):CallsIn { fn:=fun _=>True,depth:=none,alive:=false,round:=rd } n P f args w R:=
 (callsIn_wide (n:=n)).2 h
theorem RowsIn.aax {rd:Option Nat}{n:Nat}{P:Program}{row:String}{args:Array Value}{w:World}{R:Value→World→Prop}
 (h:Rows P row args w R):RowsIn { fn:=fun _=>True,depth:=none,alive:=false,round:=rd } n P row args w R:=
 fun c cs _=>let⟨v,nD,r,s⟩:=h c cs; ⟨v,nD,r,stepsIn_wide.2 s⟩
theorem hv.wp {P:Program}{o:Oper}{a:Act}{W:World}{R:Value→World→Prop}{next:Act→World→Prop}{Q:Exit→Act→World→Prop}
 (h:hv P o a W R) (hk:∀ v W',R v W'→next (a.put o.dst v) W'):o.wp P a W next Q:=by
 unfold hv Oper.wp at *
 generalize (execOp a.eval o).run P W=r at *
 cases r with
 | ok n W'=>
   cases n <;> simp only [Oper.upon] at h ⊢
   case value v=>obtain⟨u,h1,ad⟩:=h;rw [h1];exact hk _ _ ad
   case skip=>obtain⟨u,h1,ad⟩:=h;rw [h1];exact hk _ _ ad
   case defer d=>obtain⟨u,h1,ad⟩:=h;rw [h1];exact hk _ _ ad
   case enter f args=>
    refine h.mono fun e vk he=>?_
    cases e with
    | returned v=>obtain⟨u,h1,ad⟩:=he;simp only at h1 ⊢;rw [h1];exact hk _ _ ad
    | panicked MN=>exact he.elim
    | outgrown=>obtain⟨_,_,h1⟩:=he;exact h1.elim
   case row row args=>exact h.mono fun v vk ⟨u,h1,ad⟩=>by rw [h1];exact hk _ _ ad
 | halt x W'=>cases x <;> simp only [Oper.upon] at h
theorem hv.YQ {P:Program}{o:Oper}{a:Act}{W:World}{R:Value→World→Prop}(h:hv P o a W R):∀ c,o.op≠ .defer c:=by
 intro c bk;unfold hv Oper.wp execOp at h;rw [bk] at h;simp only [Sem.run_bind] at h;generalize (resolve a.eval c o.type).run P W=r at h;cases r with
 | ok d W'=>
   simp only [Result.andThen,Sem.run_pure,Oper.upon] at h
   obtain⟨v,h1,_⟩:=h
   have:=congrArg Act.defers h1
   cases hd:o.dst <;> simp [Act.put,hd] at this
 | halt x W'=>cases x <;> simp only [Result.andThen,Oper.upon] at h
theorem hv.wpIn {c:dt}{n:Nat}{o:Oper}{a:Act}{W:World}{R:Value→World→Prop}{next:Act→World→Prop}{Q:Exit→Act→World→Prop}
 (h:hv c.P o a W R) (hk:∀ v W',R v W'→next (a.put o.dst v) W'):o.wpIn c.F n c.P a W next Q:=by
 refine⟨fun _ _=>trivial,?_⟩
 rw [Oper.semAt_eq _ _ _ h.YQ]
 unfold hv Oper.wp at h
 generalize (execOp a.eval o).run c.P W=r at *
 cases r with
 | ok m W'=>
   cases m <;> simp only [Oper.upon,Oper.uponIn] at h ⊢
   case value v=>obtain⟨u,h1,ad⟩:=h;rw [h1];exact hk _ _ ad
   case skip=>obtain⟨u,h1,ad⟩:=h;rw [h1];exact hk _ _ ad
   case defer d=>obtain⟨u,h1,ad⟩:=h;rw [h1];exact hk _ _ ad
   case enter f args=>
    refine⟨fun h=>by simp at h,CallsIn.Jt ?_⟩
    refine h.mono fun e vk he=>?_
    cases e with
    | returned v=>obtain⟨u,h1,ad⟩:=he;simp only at h1 ⊢;rw [h1];exact hk _ _ ad
    | panicked MN=>exact he.elim
    | outgrown=>obtain⟨_,_,h1⟩:=he;exact h1.elim
   case row row args=>
    refine⟨fun h=>by simp at h,RowsIn.aax ?_⟩
    exact h.mono fun v vk ⟨u,h1,ad⟩=>by rw [h1];exact hk _ _ ad
 | halt x W'=>cases x <;> simp only [Oper.upon] at h
theorem Wy {c:dt}{n:Nat}{o:Oper}{a:Act}{W W':World}{v:Value}{next:Act→World→Prop}{Q:Exit→Act→World→Prop}
 (h:(execOp a.eval o).run c.P W= .ok (.value v) W') (hk:next (a.put o.dst v) W'):o.wpIn c.F n c.P a W next Q:=
 hv.wpIn (R:=fun u U=>u=v∧U=W') (by unfold hv Oper.wp;rw [h];exact⟨v,rfl,rfl,rfl⟩) fun u U ⟨h1,ad⟩=>by subst h1;subst ad;exact hk
theorem NW {c:dt}{n:Nat}{o:Oper}{a:Act}{W W':World}{next:Act→World→Prop}{Q:Exit→Act→World→Prop}
 (h:(execOp a.eval o).run c.P W= .ok .skip W') (hk:next (a.put o.dst undef) W'):o.wpIn c.F n c.P a W next Q:=
 hv.wpIn (R:=fun u U=>u=undef∧U=W') (by unfold hv Oper.wp;rw [h];exact⟨undef,rfl,rfl,rfl⟩) fun u U ⟨h1,ad⟩=>by subst h1;subst ad;exact hk
theorem Bu {F:Fence}{n:Nat}{P:Program}{md:Region.Mode}{ops:Array Oper}{tG:Exit→Act→World→Prop} :∀ (l:List Oper) (k:Nat) (bp:Array Bool) (a:Act) (w:World),(∀ j,l[j]? =ops[k+j]?)→
 Region.seqB md ops l.length k bp=true→wpListIn F n P ops tG l a w→wpAnyIn F n P md ops tG l.length bp a w
 | [],_,_,_,_,_,ib,h=>⟨by simpa [Region.seqB] using ib,h⟩
 | o::l,k,bp,a,w,al,ib,h=>by
   have bR:ops[k]? =some o:=by simpa using (al 0).symm
   simp only [List.length_cons,Region.seqB,Bool.and_eq_true,decide_eq_true_eq] at ib;refine⟨fun h1=>(by rw [ib.1] at h1;cases h1),fun i ar=>?_⟩;rw [ib.1] at ar;have qW:i=k:=by simpa using ar
   subst qW;have hw:wpOpIn F n P ops tG i (wpListIn F n P ops tG l) a w:=by unfold wpOpIn;simp only [bR];exact h
   exact wpOpIn_mono (fun gX nD df=>Bu l (i+1) _ gX nD (fun j=>by have:=al (j+1);simpa [Nat.add_assoc,Nat.add_comm 1 j] using this) ib.2 df) hw
theorem hv.kX {P:Program}{o:Oper}{a:Act}{W W':World}{R:Value→World→Prop}{v:Value}
 (h:(execOp a.eval o).run P W= .ok (.value v) W') (aR:R v W'):hv P o a W R:=by
 unfold hv Oper.wp
 rw [h]
 exact⟨v,rfl,aR⟩
theorem hv.yV {P:Program}{o:Oper}{a:Act}{W W':World}{R:Value→World→Prop}
 (h:(execOp a.eval o).run P W= .ok .skip W') (aR:R undef W'):hv P o a W R:=by
 unfold hv Oper.wp
 rw [h]
 exact⟨undef,rfl,aR⟩
theorem hv.wm {P:Program}{o:Oper}{a:Act}{W W':World}{R:Value→World→Prop}{f:FuncId}{args:Array Value}
 (h:(execOp a.eval o).run P W= .ok (.enter f args) W') (aR:Calls P f args W' fun e vk=> ∃ v,e= .returned v∧R v vk):hv P o a W R:=by
 unfold hv Oper.wp
 rw [h]
 exact aR.mono fun e vk ⟨v,he,ad⟩=>by subst he;exact⟨v,rfl,ad⟩
def cf (c:dt)(E:List (Nat×I))(L:List aN)(o:Oper)(τ:I):Prop:=
 ∀ a W,bM c E L a W→hv c.P o a W fun v W'=>Fr [] W W'∧τ.holds (aS L++c.b8) W' v
theorem cf.pure {o:Oper}{τ:I}(h:∀ a W,bM c E L a W→ ∃ v,(execOp a.eval o).run c.P W= .ok (.value v) W∧τ.holds (aS L++c.b8) W v):cf c E L o τ:=
 fun a W s=>let⟨_,h1,ad⟩:=h a W s; .kX h1 ⟨.refl _ _,ad⟩
variable {ops:Array Oper} {Q:Exit→Act→World→Prop}
def ae (c:dt)(ops:Array Oper)(Q:Exit→Act→World→Prop)(l:List Oper)(E:List (Nat×I))(L:List aN):Prop:=
 ∀ a W,bM c E L a W→c.qb ops Q l a W
def aa (c:dt)(Q:Exit→Act→World→Prop)(x:Exit)(E:List (Nat×I))(L:List aN):Prop:= ∀ a W,bM c E L a W→Q x a W
theorem ae.nil (h:aa c Q .normal E L):ae c ops Q [] E L:=fun a W s=>wpListIn_nil (h a W s)
theorem h3 {c:dt}{o:Oper}{rest:List Oper}{a:Act}{W:World}(bH:o.guard=none){R:Value→World→Prop}(h:hv c.P o a W R)
 (hk:∀ v W',R v W'→c.qb ops Q rest (a.put o.dst v) W'):c.qb ops Q (o::rest) a W:=
 wpListIn_plain bH fun _ tH=>h.wpIn fun v W' aR=>tH _ _ (hk v W' aR)
theorem ae.v {o:Oper}{rest:List Oper}{d:Nat}{τ:I}(h:cf c E L o τ)(bH:o.guard=none)(hd:o.dst=some d)(aO:Nat.blt d c.n=true)
 (k:ae c ops Q rest ((d,τ)::E) L):ae c ops Q (o::rest) E L:=fun a W s=>
 h3 bH (h a W s) fun v W' ⟨f,a6⟩=>by
  rw [hd];exact k _ _ ((s.world f).put (by simpa using aO) a6)
theorem ae.x {o:Oper}{rest:List Oper}{τ:I}(h:cf c E L o τ)(bH:o.guard=none)(hd:o.dst=none)
 (k:ae c ops Q rest E L):ae c ops Q (o::rest) E L:=fun a W s=>
 h3 bH (h a W s) fun v W' ⟨f,_⟩=>by
  rw [hd];exact k _ _ (s.world f)
theorem yN {j g:Nat}{b:Bool}(aF:(ops[j]?).bind (·.dst)=some g)(al:look E g=some (.of b)){a:Act}{W:World}(s:bM c E L a W):
 yielded ops a.tmps j=some b:=by
 obtain⟨v,h1,ad⟩:=s.env g _ al
 unfold yielded
 rw [aF]
 simp only [Option.bind_some,h1,of_bool.1 ad]
theorem ae.g {o:Oper}{rest:List Oper}{d j g:Nat}{b want:Bool}{τ:I}(h:b=want→cf c E L o τ)(bH:o.guard=some (j,want))(aF:(ops[j]?).bind (·.dst)=some g)
 (al:look E g=some (.of b)) (hd:o.dst=some d) (aO:Nat.blt d c.n=true)
 (k:ae c ops Q rest ((d,.cond (b=want) τ)::E) L):ae c ops Q (o::rest) E L:=fun a W s=>by
 have a7:=yN aF al s
 unfold dt.qb wpListIn
 by_cases hb:b=want
 ·rw [if_pos (by simp [Region.wanted,bH,a7,hb])]
  refine((h hb a W s).wpIn fun v W' ⟨f,a6⟩=>?_)
  rw [hd]
  exact k _ _ ((s.world f).put (by simpa using aO) ⟨fun _=>a6,fun h=>absurd hb h⟩)
 rw [if_neg (by simp [Region.wanted,bH,a7,hb])]
 rw [hd]
 exact⟨fun _ _=>trivial,k _ _ (s.put (by simpa using aO) ⟨fun h=>absurd h hb,fun _=>rfl⟩)⟩
theorem WS {j g:Nat}{p:Prop}{b:Bool}(aF:(ops[j]?).bind (·.dst)=some g)(al:look E g=some (.cond p (.of b))){a:Act}{W:World}(s:bM c E L a W):
 (p→yielded ops a.tmps j=some b)∧ (¬ p→yielded ops a.tmps j=none):=by
 obtain⟨v,h1,ad,aD⟩:=s.env g _ al
 unfold yielded
 rw [aF]
 simp only [Option.bind_some,h1]
 exact⟨fun hp=>by simp only [of_bool.1 (ad hp)],fun hp=>by simp only [aD hp];rfl⟩
theorem ae.gg {o:Oper}{rest:List Oper}{d j g:Nat}{p:Prop}{b want:Bool}{τ:I}(h:p∧b=want→cf c E L o τ)(bH:o.guard=some (j,want))(aF:(ops[j]?).bind (·.dst)=some g)
 (al:look E g=some (.cond p (.of b))) (hd:o.dst=some d) (aO:Nat.blt d c.n=true)
 (k:ae c ops Q rest ((d,.cond (p∧b=want) τ)::E) L):ae c ops Q (o::rest) E L:=fun a W s=>by
 have a7:=WS aF al s
 unfold dt.qb wpListIn
 by_cases hb:p∧b=want
 ·rw [if_pos (by simp [Region.wanted,bH,a7.1 hb.1,hb.2])]
  refine((h hb a W s).wpIn fun v W' ⟨f,a6⟩=>?_)
  rw [hd]
  exact k _ _ ((s.world f).put (by simpa using aO) ⟨fun _=>a6,fun h=>absurd hb h⟩)
 have hw:Region.wanted o (yielded ops a.tmps)=false:=by
  by_cases hp:p
  ·have: ¬ (b=want):=fun h=>hb ⟨hp,h⟩;simp [Region.wanted,bH,a7.1 hp,this]
  simp [Region.wanted,bH,a7.2 hp]
 rw [if_neg (by simp [hw])]
 refine⟨fun _ _=>trivial,?_⟩
 rw [hd]
 exact k _ _ (s.put (by simpa using aO) ⟨fun h=>absurd h hb,fun _=>rfl⟩)
inductive gM (E:List (Nat×I)):List (Nat×I)→Prop
 | nil:gM E []
 | cons {t τ σ r} :look E t=some σ→ (∀ A W v,σ.holds A W v→τ.holds A W v)→gM E r→gM E ((t,τ)::r)
theorem gM.same {t:Nat}{τ:I}{r:List (Nat×I)}(h:look E t=some τ)(k:gM E r):gM E ((t,τ)::r):= .cons h (fun _ _ _ h=>h) k
theorem gM.all {r:List (Nat×I)}(h:gM E r:=by repeat (first | exact gM.nil | refine gM.same rfl ?_)):gM E r:=h
theorem gM.look:∀ {E':List (Nat×I)},gM E E'→ ∀ t τ,Gv.look E' t=some τ→ ∃ σ,Gv.look E t=some σ∧ ∀ A W v,σ.holds A W v→τ.holds A W v
 | _,.nil,t,τ,h=>by simp [Gv.look] at h
 | _,.cons (t:=s) (σ:=σ) h1 ad r,t,τ,h=>by
   simp only [Gv.look] at h;by_cases e:Nat.beq s t=true
   ·rw [e] at h;simp only [cond_true,Option.some.injEq] at h;subst h;rw [eH.1 e] at h1;exact⟨σ,h1,ad⟩
   simp only [Bool.not_eq_true] at e;rw [e] at h;exact r.look t τ h
theorem aa.le {x:Exit}{E':List (Nat×I)}(h:gM E E')(k:aa c Q x E' L):aa c Q x E L:=fun a W s=>k a W (s.less h.look)
theorem ae.le {l:List Oper}{E':List (Nat×I)}(h:gM E E')(k:ae c ops Q l E' L):ae c ops Q l E L:=fun a W s=>k a W (s.less h.look)
def ag (c:dt)(Q:Exit→Act→World→Prop)(code:Code)(E:List (Nat×I))(L:List aN):Prop:= ∀ a W,bM c E L a W→c.wp code Q a W
theorem ag.le {code:Code}{E':List (Nat×I)}(h:gM E E')(k:ag c Q code E' L):ag c Q code E L:=fun a W s=>k a W (s.less h.look)
theorem ag.cq {id:Nat}{l:List Oper}(h:ae c l.toArray Q l E L):ag c Q (.region id l.toArray false) E L:=fun a W s=>wpIn_region_lit (h a W s)
theorem ag.seq {x y:Code}(h:ag c (Exit.then (c.wp y Q) Q) x E L):ag c Q (.seq x y) E L:=fun a W s=>wpIn_seq (h a W s)
theorem aa.next {y:Code}(h:ag c Q y E L):aa c (Exit.then (c.wp y Q) Q) .normal E L:=fun a W s=>h a W s
theorem aa.exit {y:Act→World→Prop}{id:Nat}(h:aa c Q (.exit id) E L):aa c (Exit.then y Q) (.exit id) E L:=fun a W s=>h a W s
theorem aa.ret {y:Act→World→Prop}(h:aa c Q .ret E L):aa c (Exit.then y Q) .ret E L:=fun a W s=>h a W s
theorem ag.block {id:Nat}{x:Code}(h:ag c (Exit.inBlock id Q) x E L):ag c Q (.block id x) E L:=fun a W s=>wpIn_block (h a W s)
theorem aa.dI {id:Nat}(h:aa c Q .normal E L):aa c (Exit.inBlock id Q) .normal E L:=fun a W s=>h a W s
theorem aa.fg {id:Nat}(h:aa c Q .normal E L):aa c (Exit.inBlock id Q) (.exit id) E L:=fun a W s=>by
 show(if id=id then Q .normal a W else Q (.exit id) a W);rw [if_pos rfl];exact h a W s
theorem aa.aan {id DS:Nat}(da:Nat.beq DS id=false)(h:aa c Q (.exit DS) E L):aa c (Exit.inBlock id Q) (.exit DS) E L:=fun a W s=>by
 show(if DS=id then Q .normal a W else Q (.exit DS) a W);rw [if_neg (fun e=>by rw [e,Nat.beq_refl] at da;cases da)];exact h a W s
theorem aa.dk {id:Nat}(h:aa c Q .ret E L):aa c (Exit.inBlock id Q) .ret E L:=fun a W s=>h a W s
theorem ag.skip (h:aa c Q .normal E L):ag c Q .skip E L:=fun a W s=>wpIn_skip (h a W s)
theorem ag.exit {id:Nat}(h:aa c Q (.exit id) E L):ag c Q (.exit id) E L:=fun a W s=>wpIn_exit (h a W s)
theorem ag.ret (h:aa c Q .ret E L):ag c Q .ret E L:=fun a W s=>wpIn_ret (h a W s)
theorem ag.cond {x:Operand}{b:Bool}{y z:Code}(al:bg c E L x (.of b))(bP:b=true→ag c Q y E L)(bb:b=false→ag c Q z E L):ag c Q (.cond x y z) E L:=
 fun a W s=>wpIn_cond_split (of_bool.1 (al a W s)) (fun h=>bP h a W s) (fun h=>bb h a W s)
def ey {σ ε:Type} :Nat→ (σ→Option (σ ⊕ ε))→σ→Option ε
 | 0,_,_=>none
 | n+1,b,s=>match b s with
   | none=>none
   | some (.inl cw)=>ey n b cw
   | some (.inr e)=>some e
def ahg {σ ε:Type}(c:dt)(E:σ→List (Nat×I))(L:σ→List aN)(xs:ε→Exit)(gY:ε→List (Nat×I))(Lx:ε→List aN):σ ⊕ ε→Exit→Act→World→Prop
 | .inl s,x,a,W=>x= .normal∧bM c (E s) (L s) a W
 | .inr e,x,a,W=>x≠ .normal∧x=xs e∧bM c (gY e) (Lx e) a W
theorem aa.round {σ ε:Type}{E':σ→List (Nat×I)}{L':σ→List aN}{xs:ε→Exit}{gY:ε→List (Nat×I)}{Lx:ε→List aN}{s:σ}
 (h:∀ a W,bM c E L a W→bM c (E' s) (L' s) a W):aa c (ahg c E' L' xs gY Lx (.inl s)) .normal E L:=fun a W st=>⟨rfl,h a W st⟩
theorem X6 {F:Fence}{n:Nat}{P:Program}{body:Code}{σ ε:Type}(b:σ→Option (σ ⊕ ε))(gf:σ→Act→World→Prop)(X:ε→Exit→Act→World→Prop)
 (pV:∀ s r,b s=some r→ ∀ a W,gf s a W→body.wpIn F n P (fun x a W=>match r with | .inl cw=>x= .normal∧gf cw a W | .inr e=>x≠ .normal∧X e x a W) a W)
 (Q:Exit→Act→World→Prop) (e:ε) (qA:∀ x a W,X e x a W→Q x a W) {cF:σ} {N:Nat} (al:ey N b cF=some e) {a0:Act} {jx:World} (bR:gf cF a0 jx):
 (Code.loop body).wpIn F n P Q a0 jx:=by
 intro dR k cs zU hb aR
 have key:∀ N s,ey N b s=some e→ ∀ a W,gf s a W→
  ∃ x gX W',Q x gX W'∧ArrivesIn (Machine.fenced P F) P (lone (dR.atR a (.code body::.inLoop body::k)) cs W) dR k cs x gX W':=by
  intro N
  induction N with
  | zero=>intro s h;simp [ey] at h
  | succ N b7=>
    intro s h a W mw
    simp only [ey] at h
    split at h
    ·cases h
    ·rename_i cw hs
     obtain⟨x,zE,zF,hq,rU⟩:=pV s _ hs a W mw dR (.inLoop body::k) cs zU hb aR
     obtain⟨ao,LF⟩:=hq
     subst ao
     obtain⟨K5,K6,K7,KD,Ju⟩:=b7 cw h zE zF LF
     exact⟨K5,K6,K7,KD,.of_steps (StepsIn.trans rU (.one (fenced_calm hb aR rfl) stepR_inLoop)) Ju⟩
    rename_i e' hs
    simp only [Option.some.injEq] at h
    subst h
    obtain⟨x,zE,zF,hq,rU⟩:=pV s _ hs a W mw dR (.inLoop body::k) cs zU hb aR
    obtain⟨ao,MO⟩:=hq
    exact⟨x,zE,zF,qA _ _ _ MO,.pass (x:= .inLoop body) rfl (fun _ _=>.inl ao) rU⟩
 obtain⟨x,gX,W',hq,rU⟩:=key N cF al a0 jx bR
 exact⟨x,gX,W',hq,.of_steps (.one (fenced_calm hb aR rfl) stepR_loop) rU⟩
def bK (P:Program)(f:FuncId)(τs:List I)(ρ:I):Prop:=
 ∀ (A:List Nat) (W:World) (vs:List Value),(∀ k∈A,k<W.heap.size)→hc A W τs vs→
   Calls P f vs.toArray W fun e W'=> ∃ v,e= .returned v∧Fr [] W W'∧ρ.holds A W' v
def params:Nat→List I→List (Nat×I)
 | _,[]=>[]
 | k,τ::r=>(k,τ)::params (k+1) r
theorem wa {A:List Nat}{W:World}{τs:List I}{vs:List Value}(h:hc A W τs vs):∀ (k t:Nat) (τ:I),look (params k τs) t=some τ→k≤t∧ ∃ v,vs[t - k]? =some v∧τ.holds A W v:=by
 induction h with
 | nil=>intro k t τ h;simp [params,look] at h
 | cons h1 r b7=>
   intro k t τ al
   simp only [params,look] at al
   by_cases e:Nat.beq k t=true
   ·rw [e] at al
    simp only [cond_true,Option.some.injEq] at al
    subst al
    rw [eH.1 e]
    exact⟨Nat.le_refl _,_,by simp,h1⟩
   simp only [Bool.not_eq_true] at e
   rw [e] at al
   have da:k≠t:=fun h=>by rw [eH.2 h] at e;cases e
   obtain⟨ad,v,aD,aZ⟩:=b7 (k+1) t τ al
   refine⟨by omega,v,?_,aZ⟩
   rw [show t - k=(t - (k+1))+1 by omega,List.getElem?_cons_succ]
   exact aD
theorem bK.enter {P:Program}{f:FuncId}{fn:Func}{code:Code}{n:Nat}{τs:List I}{ρ:I}(bb:P.funcs[f]? =some fn)(hb:fn.body=some code)(aO:fn.ntmps=n)(hlen:Nat.ble τs.length n=true)
 (h:∀ W A,ag ⟨P,n,W,[],A,none,[]⟩ (bodyPost P fn fun e W'=> ∃ v,e= .returned v∧Fr [] W W'∧ρ.holds A W' v) code (params 0 τs) []):bK P f τs ρ:=by
 intro A W vs gk a6
 refine calls_of_wp bb hb (wpIn_wide.1 (h W A _ _ ?_))
 have al:=a6.length
 have hle:τs.length≤n:=Nat.le_of_ble_eq_true hlen
 exact
 {defers:=rfl
  size:=by simp [aO,al];omega
  env:=fun t τ iB=>by
   obtain⟨_,v,ad,aD⟩:=wa a6 0 t τ iB;refine⟨v,?_,aD⟩;have ct:t<vs.length:=(List.getElem?_eq_some_iff.1 ad).1;rw [Array.getElem?_append_left (by simpa using ct)];simpa using ad
  dR:= .refl _ _
  own:=by simp
  nodup:=by simp [aS]
  lt:=by simp [aS]
  gw:=by simp [aS]
  fb:=fun k hk=>⟨gk k hk,by simp [aS]⟩ }
theorem Oe {ρ:I}{A B:List Nat}{W:World}{v:Value}(h:ρ.holds (B++A) W v):ρ.holds A W v:=ρ.mono (.drop fun _ h=>List.mem_append.2 (.inr h)) h
end
section
variable {c:dt} {E:List (Nat×I)} {L:List aN} {ops:Array Oper} {Q:Exit→Act→World→Prop}
def l4 (c:dt)(ops:Array Oper)(E:List (Nat×I))(L:List aN)(o:Oper)(τ:I):Prop:=
 ∀ a W,bM c E L a W→
   (Region.wanted o (yielded ops a.tmps)=true→hv c.P o a W fun v W'=>Fr [] W W'∧τ.holds (aS L++c.b8) W' v)∧
   (Region.wanted o (yielded ops a.tmps)=false→τ.holds (aS L++c.b8) W undef)
theorem l4.v {o:Oper}{τ:I}(h:cf c E L o τ)(bH:o.guard=none):l4 c ops E L o τ:=fun a W s=>
 ⟨fun _=>h a W s,fun hw=>by simp [Region.wanted,bH] at hw⟩
theorem l4.g {o:Oper}{j g:Nat}{b want:Bool}{τ:I}(h:b=want→cf c E L o τ)(bH:o.guard=some (j,want))(aF:(ops[j]?).bind (·.dst)=some g)(al:look E g=some (.of b)):
 l4 c ops E L o (.cond (b=want) τ):=fun a W s=>by
 have a7:=yN aF al s
 constructor
 ·intro hw
  have hb:b=want:=by simpa [Region.wanted,bH,a7] using hw
  refine hv.wp (h hb a W s) fun v W' ⟨f,a6⟩=>⟨v,rfl,f,fun _=>a6,fun h=>absurd hb h⟩
 intro hw
 exact⟨fun hb=>by simp [Region.wanted,bH,a7,hb] at hw,fun _=>rfl⟩
inductive fj
 | val (τ:I)
 | new (cp:dV)
 | lk (i:Nat) (cp:dV)
 | nt (j:Nat) (cp:dV)
def fj.nj:fj→Bool
 | .lk _ _ | .nt _ _=>true
 | _=>false
def fj.sf (p:Nat):fj→Option I
 | .val τ=>some τ
 | .new _=>some (.eq (.pointer (some ⟨p,0,none⟩)))
 | _=>none
def he (bC:Nat→Nat)(er:List (Option Nat))(hs:List fj)(E:List (Nat×I)):List Nat→List (Nat×I)
 | []=>E
 | j::r=>match er[j]?,hs[j]? with
   | some (some s),some h=>match h.sf (bC j) with
     | some τ=>(s,τ)::he bC er hs E r
     | none=>he bC er hs E r
   | _,_=>he bC er hs E r
def zs:List aN→Nat→dV→List aN
 | [],_,_=>[]
 | e::r,0,cp=>⟨e.key,cp⟩::r
 | e::r,i+1,cp=>e::zs r i cp
theorem X7 {L:List aN}{i:Nat}{e:aN}{cp:dV}(h:L[i]? =some e):zs L i cp=L.set i ⟨e.key,cp⟩:=by
 induction L generalizing i with
 | nil=>simp at h
 | cons x r b7=>
   cases i with
   | zero=>simp only [List.getElem?_cons_zero,Option.some.injEq] at h;subst h;rfl
   | succ i=>simp only [List.getElem?_cons_succ] at h;simp [zs,b7 h]
def ez (L:List aN):List fj→List aN
 | []=>L
 | .lk i cp::r=>ez (zs L i cp) r
 | _::r=>ez L r
def jk (j:Nat)(cp:dV):List fj→dV
 | []=>cp
 | .nt i cp'::r=>jk j (bif Nat.beq i j then cp' else cp) r
 | _::r=>jk j cp r
theorem Of (L:List aN)(r:List fj)(h:fj):ez L (r++[h])=ez (ez L r) [h]:=by
 induction r generalizing L with
 | nil=>rfl
 | cons x r b7=>cases x <;> simp only [List.cons_append,ez] <;> exact b7 _
theorem IK (j:Nat)(cp:dV)(r:List fj)(h:fj):jk j cp (r++[h])=jk j (jk j cp r) [h]:=by
 induction r generalizing cp with
 | nil=>rfl
 | cons x r b7=>cases x <;> simp only [List.cons_append,jk] <;> exact b7 _
theorem FK {L:List aN} :∀ {r:List fj},(∀ h∈r,h.nj=false)→ez L r=L
 | [],_=>rfl
 | h::r,cu=>by
   have:=cu h (by simp);have b7:=FK (L:=L) (r:=r) (fun x ao=>cu x (by simp [ao]));cases h <;> first | exact b7 | cases this
theorem FD {j:Nat}{cp:dV} :∀ {r:List fj},(∀ h∈r,h.nj=false)→jk j cp r=cp
 | [],_=>rfl
 | h::r,cu=>by
   have:=cu h (by simp);have b7:=FD (j:=j) (cp:=cp) (r:=r) (fun x ao=>cu x (by simp [ao]));cases h <;> first | exact b7 | cases this
def p2 (w:Nat→Bool)(i:Nat):Nat→List fj→Bool
 | _,[]=>true
 | k,.lk j _::r=>(!(Nat.beq j i)||w k)&&p2 w i (k+1) r
 | k,.val _::r=>p2 w i (k+1) r
 | k,.new _::r=>p2 w i (k+1) r
 | k,.nt _ _::r=>p2 w i (k+1) r
theorem W3 {L:List aN}{i j:Nat}{cp:dV}(h:i≠j):(zs L i cp)[j]? =L[j]? :=by
 induction L generalizing i j with
 | nil=>rfl
 | cons e r b7=>
   cases i with
   | zero=>cases j with
     | zero=>exact absurd rfl h
     | succ j=>rfl
   | succ i=>cases j with
     | zero=>rfl
     | succ j=>simp only [zs,List.getElem?_cons_succ];exact b7 (by omega)
theorem BL {L:List aN}{i:Nat}{w:Nat→Bool} :∀ {r:List fj} (b k:Nat),p2 w i k r=true→ (∀ q,q<b→ (∃ j cp,r[q]? =some (.lk j cp))→w (k+q)=false)→ (ez L (r.take b))[i]? =L[i]?
 | [],b,_,_,_=>by simp [ez]
 | h::r,0,_,_,_=>by simp [ez]
 | .lk j cp::r,b+1,k,h,hw=>by
   simp only [p2,Bool.and_eq_true,Bool.or_eq_true,Bool.not_eq_true'] at h;have afO:w k=false:=by simpa using hw 0 (by omega) ⟨j,cp,by simp⟩
   have da:j≠i:=fun e=>by
    rw [e,Nat.beq_refl,afO] at h;rcases h.1 with h | h <;> cases h
   rw [List.take_succ_cons,ez,BL b (k+1) h.2 (fun q hq ao=>by have:=hw (q+1) (by omega) (by simpa using ao);rw [← this];congr 1;omega),W3 da]
 | .val _::r,b+1,k,h,hw=>by rw [List.take_succ_cons];exact BL (r:=r) b (k+1) h (fun q hq ao=>by have:=hw (q+1) (by omega) (by simpa using ao);rw [← this];congr 1;omega)
 | .new _::r,b+1,k,h,hw=>by rw [List.take_succ_cons];exact BL (r:=r) b (k+1) h (fun q hq ao=>by have:=hw (q+1) (by omega) (by simpa using ao);rw [← this];congr 1;omega)
 | .nt _ _::r,b+1,k,h,hw=>by rw [List.take_succ_cons];exact BL (r:=r) b (k+1) h (fun q hq ao=>by have:=hw (q+1) (by omega) (by simpa using ao);rw [← this];congr 1;omega)
def MP (P:Program)(o:Oper)(cp:dV):Prop:=
 o.guard=none∧ ∃ ky,(∀ A W,cp.holds A W ky)∧ ∀ (a:Act) W,(execOp a.eval o).run P W= .ok (.value (.pointer (some ⟨W.heap.size,0,none⟩))) (W.alloc ky)
def Eu (c:dt)(E:List (Nat×I))(L:List aN)(o:Oper)(p:Nat)(cp:dV):Prop:=
 o.guard=none∧o.dst=none∧ ∀ a W,bM c E L a W→ ∃ cs en T,W.heap[p]? =some (.cells cs T (0,0))∧ (execOp a.eval o).run c.P W= .ok .skip (W.setRow p en)∧cp.holds (aS L++c.b8) W (.cells en T (0,0))
def qF (c:dt)(ops:Array Oper)(bC:Nat→Nat)(er:List (Option Nat))(all:List fj)(E:List (Nat×I))(L:List aN):Nat→List Oper→List fj→List (List Nat)→Prop
 | _,_,[],_=>True
 | i,o::os,.val τ::hs,d::ds=>(∀ L':List aN,(∀ (j:Nat) (e:aN),L[j]? =some e→p2 (fun k=>Region.waitsFor .any ops k i) j 0 all=true→L'[j]? =some e)→l4 c ops (he bC er all E d) L' o τ)∧qF c ops bC er all E L (i+1) os hs ds
 | i,o::os,.new cp::hs,_::ds=>MP c.P o cp∧qF c ops bC er all E L (i+1) os hs ds
 | i,o::os,.lk k cp::hs,d::ds=>(∃ (p:Nat) (n3:dV),(ez L (all.take i))[k]? =some ⟨some p,n3⟩∧ ∀ L':List aN,(∀ (j:Nat) (e:aN),(ez L (all.take i))[j]? =some e→L'[j]? =some e)→Eu c (he bC er all E d) L' o p cp)∧qF c ops bC er all E L (i+1) os hs ds
 | i,o::os,.nt k cp::hs,d::ds=>(d.contains k=true∧ ∃ n3:dV,all[k]? =some (.new n3)∧ ∀ (L':List aN) (q:Nat),L'[q]? =some ⟨some (bC k),jk k n3 (all.take i)⟩→Eu c (he bC er all E d) L' o (bC k) cp)∧qF c ops bC er all E L (i+1) os hs ds
 | _,_,_,_=>False
def CZ (ops:Array Oper)(n:Nat)(er:List (Option Nat))(pk:List (List Nat))(DT:List Bool)(Ai:Nat):Bool:=
 decide (er.length=n)&&decide (n≤ops.size)&&(er.filterMap id).all (Nat.blt · Ai)&&decide (er.filterMap id).Nodup&&
 ((List.range n).all fun i=>((ops[i]?).map fun o=>(some o.dst==er[i]?)&&(o.after.all fun e=> !Region.binds .any e||decide (e.on<i))).getD false)&&
 ((List.range n).all fun i=>(pk.getD i []).all fun j=>decide (j<n)&&Region.waitsFor .any ops i j)&&
 ((List.range n).all fun i=> !(DT.getD i false)||((List.range i).all fun j=> !(DT.getD j false)||Region.waitsFor .any ops i j))&&
 (decide (n=ops.size)||(Region.sinkB .any ops n&&Region.chainB .any ops n))&&
 Region.seqB .any ops (ops.size - n) n ((List.range n).foldl (fun l i=>l.setIfInBounds i true) (Array.replicate ops.size false))
def zG (E:List (Nat×I))(er:List Nat):Bool:=match E with
 | []=>true
 | e::r=> !(er.contains e.1)&&zG r er
theorem IZ {er:List Nat} :∀ {E:List (Nat×I)},zG E er=true→ ∀ t τ,look E t=some τ→t ∉ er
 | [],_,t,τ,h=>by simp [look] at h
 | (s,σ)::r,hd,t,τ,h=>by
   simp only [zG,Bool.and_eq_true,Bool.not_eq_true'] at hd;simp only [look] at h;by_cases e:Nat.beq s t=true
   ·have:=eH.1 e;subst this;simpa using hd.1
   simp only [Bool.not_eq_true] at e;rw [e] at h;exact IZ hd.2 t τ h
theorem J2 (f g:Nat→Bool)(i:Nat)(bb:f i=true)(bH:g i=false)(h:∀ j,g j=true→f j=true):∀ n,i<n→ ((List.range n).filter g).length<((List.range n).filter f).length:=by
 have le:∀ n,((List.range n).filter g).length≤ ((List.range n).filter f).length:=by
  intro n;induction n with
  | zero=>simp
  | succ n b7=>
    rw [List.range_succ,List.filter_append,List.filter_append,List.length_append,List.length_append]
    have:([n].filter g).length≤ ([n].filter f).length:=by
     cases xu:g n with
     | false=>simp [xu]
     | true=>simp [xu,h n xu]
    omega
 intro n;induction n with
 | zero=>omega
 | succ n b7=>
   intro ct
   rw [List.range_succ,List.filter_append,List.filter_append,List.length_append,List.length_append]
   by_cases e:i=n
   ·subst e
    have:=le i
    simp [bb,bH]
    omega
   have h1:=b7 (by omega)
   have:([n].filter g).length≤ ([n].filter f).length:=by
    cases xu:g n with
    | false=>simp [xu]
    | true=>simp [xu,h n xu]
   omega
theorem I0 {bC:Nat→Nat}{er:List (Option Nat)}{all:List fj} :∀ {k:Nat} {os:List Oper} {hs:List fj} {ds:List (List Nat)},qF c ops bC er all E L k os hs ds→
 ∀ (i:Nat) h,hs[i]? =some h→ ∃ o,os[i]? =some o∧ (match h with
   | .val τ=> ∀ L':List aN,(∀ (j:Nat) (e:aN),L[j]? =some e→p2 (fun q=>Region.waitsFor .any ops q (k+i)) j 0 all=true→L'[j]? =some e)→l4 c ops (he bC er all E (ds.getD i [])) L' o τ
   | .new cp=>MP c.P o cp
   | .lk q cp=> ∃ (p:Nat) (n3:dV),(ez L (all.take (k+i)))[q]? =some ⟨some p,n3⟩∧ ∀ L':List aN,(∀ (j:Nat) (e:aN),(ez L (all.take (k+i)))[j]? =some e→L'[j]? =some e)→Eu c (he bC er all E (ds.getD i [])) L' o p cp
   | .nt q cp=>(ds.getD i []).contains q=true∧ ∃ n3:dV,all[q]? =some (.new n3)∧ ∀ (L':List aN) (r:Nat),L'[r]? =some ⟨some (bC q),jk q n3 (all.take (k+i))⟩→Eu c (he bC er all E (ds.getD i [])) L' o (bC q) cp)
 | k,os,[],ds,_,i,h,ar=>by simp at ar
 | k,[],h::hs,ds,cu,_,_,_=>by cases h <;> simp [qF] at cu
 | k,o::os,h::hs,[],cu,_,_,_=>by cases h <;> simp [qF] at cu
 | k,o::os,bR::hs,d::ds,cu,i,h,ar=>by
   have hd:qF c ops bC er all E L (k+1) os hs ds:=by cases bR <;> exact cu.2
   cases i with
   | zero=>
     simp only [List.getElem?_cons_zero,Option.some.injEq] at ar
     subst ar
     refine⟨o,by simp,?_⟩
     cases bR <;> exact cu.1
   | succ i=>
     simp only [List.getElem?_cons_succ] at ar
     obtain⟨o',h1,ad⟩:=I0 hd i h ar
     refine⟨o',by simpa using h1,?_⟩
     rw [show k+(i+1)=k+1+i by omega]
     cases h <;> exact ad
theorem PH {bC:Nat→Nat}{er:List (Option Nat)}{hs:List fj}{t:Nat}{τ:I} :∀ {ds:List Nat},look (he bC er hs E ds) t=some τ→ (∃ j∈ds,er[j]? =some (some t)∧ ∃ h,hs[j]? =some h∧h.sf (bC j)=some τ)∨look E t=some τ
 | [],h=>.inr h
 | j::r,h=>by
   have rest:look (he bC er hs E r) t=some τ→ (∃ k∈j::r,er[k]? =some (some t)∧ ∃ h,hs[k]? =some h∧h.sf (bC k)=some τ)∨look E t=some τ:=fun h=>by
    rcases PH h with⟨k,hk,h1⟩ | h1
    ·exact .inl ⟨k,List.mem_cons_of_mem _ hk,h1⟩
    exact .inr h1
   simp only [he] at h;split at h
   ·rename_i s hk DU tp;split at h
    ·rename_i σ mr;simp only [look] at h;by_cases e:Nat.beq s t=true
     ·rw [e] at h;simp only [cond_true,Option.some.injEq] at h;subst h;exact .inl ⟨j,by simp,by rw [DU,eH.1 e],hk,tp,mr⟩
     simp only [Bool.not_eq_true] at e;rw [e] at h;exact rest h
    exact rest h
   exact rest h
def tb (bC:Nat→Nat)(E:List (Nat×I)):Nat→List (Option Nat)→List fj→List (Nat×I)
 | i,some s::hI,.val τ::hs=>(s,τ)::tb bC E (i+1) hI hs
 | i,some s::hI,.new _::hs=>(s,.eq (.pointer (some ⟨bC i,0,none⟩)))::tb bC E (i+1) hI hs
 | i,_::hI,_::hs=>tb bC E (i+1) hI hs
 | _,_,_=>E
def mg (bC:Nat→Nat)(all:List fj)(L:List aN):Nat→List fj→List aN
 | i,.new cp::hs=>⟨some (bC i),jk i cp all⟩::mg bC all L (i+1) hs
 | i,_::hs=>mg bC all L (i+1) hs
 | _,[]=>L
theorem OA {bC:Nat→Nat}{t:Nat}{τ:I} :∀ {er:List (Option Nat)} {hs:List fj} (k:Nat),look (tb bC E k er hs) t=some τ→
 (∃ j:Nat,er[j]? =some (some t)∧ ∃ h,hs[j]? =some h∧h.sf (bC (k+j))=some τ)∨look E t=some τ
 | [],hs,k,h=>.inr (by cases hs <;> exact h)
 | s::hI,[],k,h=>.inr (by cases s <;> exact h)
 | s::hI,x::hs,k,h=>by
   have rest:look (tb bC E (k+1) hI hs) t=some τ→ (∃ j:Nat,(s::hI)[j]? =some (some t)∧ ∃ h,(x::hs)[j]? =some h∧h.sf (bC (k+j))=some τ)∨look E t=some τ:=fun h=>by
    rcases OA (k+1) h with⟨j,h1,ad⟩ | h1
    ·refine .inl ⟨j+1,by simpa using h1,?_⟩;rw [show k+(j+1)=k+1+j by omega];simpa using ad
    exact .inr h1
   have one:∀ (cw:Nat) (σ:I),s=some cw→x.sf (bC k)=some σ→look ((cw,σ)::tb bC E (k+1) hI hs) t=some τ→ (∃ j:Nat,(s::hI)[j]? =some (some t)∧ ∃ h,(x::hs)[j]? =some h∧h.sf (bC (k+j))=some τ)∨look E t=some τ:=fun cw σ eS mr h=>by
    simp only [look] at h;by_cases e:Nat.beq cw t=true
    ·rw [e] at h;simp only [cond_true,Option.some.injEq] at h;subst h;exact .inl ⟨0,by simp [eS,eH.1 e],x,by simp,by simpa using mr⟩
    simp only [Bool.not_eq_true] at e;rw [e] at h;exact rest h
   cases s with
   | none=>cases x <;> exact rest h
   | some cw=>
     cases x with
     | val σ=>exact one cw σ rfl rfl h
     | new cp=>exact one cw _ rfl rfl h
     | lk i cp=>exact rest h
     | nt i cp=>exact rest h
theorem IS {n:Nat}{bp:Array Bool}(inv:HeadInv .any ops n bp)(aO:n≤ops.size)(k2:∀ i,i<n→bp.getD i true=true):
 bp=(List.range n).foldl (fun l i=>l.setIfInBounds i true) (Array.replicate ops.size false):=by
 have key:∀ m,m≤ops.size→ ((List.range m).foldl (fun l i=>l.setIfInBounds i true) (Array.replicate ops.size false)).size=ops.size∧
  ∀ j (d:Bool),j<ops.size→ ((List.range m).foldl (fun l i=>l.setIfInBounds i true) (Array.replicate ops.size false)).getD j d=decide (j<m):=by
  intro m
  induction m with
  | zero=>intro _;exact⟨by simp,fun j d aF=>by simp [aF]⟩
  | succ m b7=>
    intro hm
    obtain⟨h1,ad⟩:=b7 (by omega)
    rw [List.range_succ,List.foldl_append]
    simp only [List.foldl_cons,List.foldl_nil]
    refine⟨by simpa using h1,fun j d aF=>?_⟩
    by_cases e:m=j
    ·subst e
     simp [h1,aF]
    rw [getD_set_ne d e,ad j d aF]
    by_cases aD:j<m
    ·simp [aD];omega
    simp [aD];omega
 obtain⟨h1,ad⟩:=key n aO
 apply Array.ext
 ·rw [inv.size,h1]
 intro i TN afP
 have ar:i<ops.size:=by rw [← inv.size];exact TN
 have aD:=ad i true ar
 have aw:bp.getD i true=bp[i]:=by simp [TN]
 have aX:((List.range n).foldl (fun l i=>l.setIfInBounds i true) (Array.replicate ops.size false)).getD i true=((List.range n).foldl (fun l i=>l.setIfInBounds i true) (Array.replicate ops.size false))[i]:=by
  simp [afP]
 rw [← aX,aD,← aw]
 by_cases aZ:i<n
 ·rw [k2 i aZ];simp [aZ]
 rw [inv.tail i (by omega) ar];simp [aZ]
theorem yL (bC:Nat→Nat)(all:List fj)(L:List aN):∀ (hs:List fj) (i:Nat),mg bC all L i hs=mg bC all [] i hs++L
 | [],_=>rfl
 | .new cp::hs,i=>by simp only [mg];rw [yL bC all L hs (i+1)];rfl
 | .val _::hs,i=>yL bC all L hs (i+1)
 | .lk _ _::hs,i=>yL bC all L hs (i+1)
 | .nt _ _::hs,i=>yL bC all L hs (i+1)
theorem I1 {bC:Nat→Nat}{all:List fj}{e:aN} :∀ {hs:List fj} {i:Nat},e∈mg bC all [] i hs→ ∃ (j:Nat) (cp:dV),hs[j]? =some (.new cp)∧e=⟨some (bC (i+j)),jk (i+j) cp all⟩
 | [],_,h=>by simp [mg] at h
 | x::hs,i,h=>by
   have rest:e∈mg bC all [] (i+1) hs→ ∃ (j:Nat) (cp:dV),(x::hs)[j]? =some (.new cp)∧e=⟨some (bC (i+j)),jk (i+j) cp all⟩:=fun h=>by
    obtain⟨j,cp,h1,ad⟩:=I1 (hs:=hs) (i:=i+1) h;refine⟨j+1,cp,by simpa using h1,?_⟩;rw [show i+(j+1)=i+1+j by omega];exact ad
   cases x with
   | new cp=>
     rcases List.mem_cons.1 h with h | h
     ·exact⟨0,cp,by simp,by simpa using h⟩
     exact rest h
   | val _=>exact rest h
   | lk _ _=>exact rest h
   | nt _ _=>exact rest h
theorem NM {bC:Nat→Nat}{all:List fj} :∀ (hs:List fj) (i:Nat),(∀ (j k:Nat) (u v:dV),hs[j]? =some (.new u)→hs[k]? =some (.new v)→bC (i+j)=bC (i+k)→j=k)→ (aS (mg bC all [] i hs)).Nodup
 | [],_,_=>by simp [mg,aS]
 | x::hs,i,h=>by
   have aR:(aS (mg bC all [] (i+1) hs)).Nodup:=NM hs (i+1) fun j k u v h1 ad aD=>by
    have:=h (j+1) (k+1) u v (by simpa using h1) (by simpa using ad) (by rw [show i+(j+1)=i+1+j by omega,show i+(k+1)=i+1+k by omega];exact aD);omega
   cases x with
   | val _=>exact aR
   | lk _ _=>exact aR
   | nt _ _=>exact aR
   | new cp=>
     simp only [mg,aS]
     refine List.nodup_cons.2 ⟨fun hm=>?_,aR⟩
     obtain⟨e,he,hk⟩:=lM.1 hm
     obtain⟨j,u,h1,ad⟩:=I1 he
     rw [ad] at hk
     simp only [Option.some.injEq] at hk
     have:=h 0 (j+1) cp u (by simp) (by simpa using h1) (by rw [show i+(j+1)=i+1+j by omega];simpa using hk.symm)
     omega
def fK (bC:Nat→Nat)(all:List fj)(b:Nat)(dW:List Nat):List aN:=dW.map fun j=>⟨some (bC j),match all[j]? with | some (.new cp)=>jk j cp (all.take b) | _=>.dead⟩
theorem B0 (bC:Nat→Nat)(all:List fj)(b:Nat):∀ (dW:List Nat),aS (fK bC all b dW)=dW.map bC
 | []=>rfl
 | j::dW=>by
   have:=B0 bC all b dW;simp only [fK,List.map_cons,aS] at this ⊢;rw [this]
structure zV (c:dt)(n:Nat)(er:List (Option Nat))(hs:List fj)(E:List (Nat×I))(L:List aN)(bp:Array Bool)(bC:Nat→Nat)(dW:List Nat)(b:Nat)(a:Act)(W:World):Prop where
 st:bM c E (ez L (hs.take b)++fK bC hs b dW) a W
 done:∀ (j:Nat) s h τ,j<n→bp.getD j false=true→er[j]? =some (some s)→hs[j]? =some h→h.sf (bC j)=some τ→ ∃ v,a.tmps[s]? =some v∧τ.holds (aS (ez L (hs.take b)++fK bC hs b dW)++c.b8) W v
 news:∀ (j:Nat),j∈dW↔ (j<n∧bp.getD j false=true∧ ∃ cp,hs[j]? =some (.new cp))
 stored:∀ (j:Nat) h,hs[j]? =some h→h.nj=true→ (bp.getD j false=true↔j<b)
 ble:b≤n
theorem YR {hs:List fj}{b i:Nat}{h:fj}(hb:b≤i)(ar:hs[i]? =some h)(aO:∀ (j:Nat) x,b≤j→j<i→hs[j]? =some x→x.nj=false):
 ∃ r,hs.take i=hs.take b++r∧ ∀ x∈r,x.nj=false:=by
 refine⟨(hs.drop b).take (i - b),?_,fun x ao=>?_⟩
 ·rw [← List.take_add];congr 1;omega
 obtain⟨j,aF⟩:=List.mem_iff_getElem?.1 ao
 rw [List.getElem?_take] at aF
 split at aF
 ·rw [List.getElem?_drop] at aF
  exact aO (b+j) x (by omega) (by omega) aF
 cases aF
theorem Jv (L:List aN)(r s:List fj):ez L (r++s)=ez (ez L r) s:=by
 induction r generalizing L with
 | nil=>rfl
 | cons x r b7=>cases x <;> simp only [List.cons_append,ez] <;> exact b7 _
theorem Ja (j:Nat)(cp:dV)(r s:List fj):jk j cp (r++s)=jk j (jk j cp r) s:=by
 induction r generalizing cp with
 | nil=>rfl
 | cons x r b7=>cases x <;> simp only [List.cons_append,jk] <;> exact b7 _
theorem wA {L R:List aN}(h:L.Perm R):(aS L).Perm (aS R):=by
 induction h with
 | nil=>exact .nil
 | cons x _ b7=>cases hk:x.key <;> simp only [aS,hk] <;> first | exact b7 | exact b7.cons _
 | swap x y l=>
   cases ao:x.key <;> cases a7:y.key <;> simp only [aS,ao,a7]
   all_goals first | exact .refl _ | exact .swap _ _ _
 | trans _ _ h1 ad=>exact h1.trans ad
theorem bM.perm {E L L' a W}(h:bM c E L a W)(p:L.Perm L'):bM c E L' a W:=
 h.sub (fun e he=>p.mem_iff.2 he) ((wA p).nodup_iff.1 h.nodup)
theorem BG {j:Nat}{cp:dV} :∀ {r:List fj},(∀ q x,fj.nt q x∈r→q≠j)→jk j cp r=cp
 | [],_=>rfl
 | .nt q x::r,h=>by
   have h1:=h q x (by simp);have e:Nat.beq q j=false:=by
    cases hb:Nat.beq q j with
    | false=>rfl
    | true=>exact absurd (eH.1 hb) h1
   simp only [jk,e,cond_false];exact BG fun q x hm=>h q x (by simp [hm])
 | .val _::r,h=>BG (r:=r) fun q x hm=>h q x (by simp [hm])
 | .new _::r,h=>BG (r:=r) fun q x hm=>h q x (by simp [hm])
 | .lk _ _::r,h=>BG (r:=r) fun q x hm=>h q x (by simp [hm])
theorem NX (f:Nat→Nat):∀ (l:List Nat),(l.map f).Nodup→l.Nodup
 | [],_=>by simp
 | x::r,h=>by
   simp only [List.map_cons] at h;obtain⟨h1,ad⟩:=List.nodup_cons.1 h;exact List.nodup_cons.2 ⟨fun hm=>h1 (List.mem_map.2 ⟨x,hm,rfl⟩),NX f r ad⟩
theorem ZB {bC n4:Nat→Nat}{all:List fj}{b:Nat}{dW:List Nat}(h:∀ j∈dW,n4 j=bC j):fK n4 all b dW=fK bC all b dW:=by
 unfold fK;exact List.map_congr_left fun j aF=>by rw [h j aF]
theorem X8 {n:Nat}{er:List (Option Nat)}{hs:List fj}{pk:List (List Nat)}(ib:CZ ops n er pk (hs.map fj.nj) c.n=true)(aB:zG E (er.filterMap id)=true)(hlen:hs.length=n)
 (cu:∀ bC,qF c ops bC er hs E L 0 ops.toList hs pk) (bP:∀ bC,ae c ops Q (ops.toList.drop n) (tb bC E 0 er hs) (mg bC hs (ez L hs) 0 hs)):
 ∀ m (bp:Array Bool) (bC:Nat→Nat) (dW:List Nat) (b:Nat) (a:Act) (W:World),((List.range n).filter fun i=> !bp.getD i true).length≤m→HeadInv .any ops n bp→zV c n er hs E L bp bC dW b a W→
   wpAnyIn c.F 9 c.P .any ops Q (m+(ops.size - n)) bp a W:=by
 simp only [CZ,Bool.and_eq_true,decide_eq_true_eq,Bool.or_eq_true] at ib
 obtain⟨⟨⟨⟨⟨⟨⟨⟨ps,aO⟩,ct⟩,h7⟩,aeT⟩,Sx⟩,aeU⟩,wY⟩,qJ⟩:=ib
 have tq:∀ i,i<n→ ∃ o,ops[i]? =some o∧er[i]? =some o.dst∧ ∀ e∈o.after,Region.binds .any e=true→e.on<i:=by
  intro i ar;have h1:=List.all_eq_true.1 aeT i (List.mem_range.2 ar);cases bk:ops[i]? with
  | none=>simp [bk] at h1
  | some o=>
    simp only [bk,Option.map_some,Option.getD_some,Bool.and_eq_true,beq_iff_eq] at h1
    refine⟨o,rfl,h1.1.symm,fun e he hb=>?_⟩
    have:=Array.all_eq_true_iff_forall_mem.1 h1.2 e he
    simp [hb] at this
    exact this
 have GV:∀ (i s:Nat),er[i]? =some (some s)→s<c.n:=fun i s h=>by
  have:s∈er.filterMap id:=List.mem_filterMap.2 ⟨some s,List.mem_of_getElem? h,rfl⟩;have:=List.all_eq_true.1 ct s this;simpa using this
 have Tl:∀ (i j s:Nat),er[i]? =some (some s)→er[j]? =some (some s)→i=j:=by
  have key:∀ (l:List (Option Nat)),(l.filterMap id).Nodup→ ∀ (i j s:Nat),l[i]? =some (some s)→l[j]? =some (some s)→i=j:=by
   intro l;induction l with
   | nil=>intro _ i j s h;simp at h
   | cons x r b7=>
     intro h7 i j s ar aF
     have aR:(r.filterMap id).Nodup:=by
      cases x with
      | none=>simpa using h7
      | some y=>simp only [List.filterMap_cons_some (f:=id) (a:=some y) (b:=y) rfl] at h7;exact(List.nodup_cons.1 h7).2
     have u2:x=some s→s ∉ r.filterMap id:=fun e=>by
      subst e;simp only [List.filterMap_cons_some (f:=id) (a:=some s) (b:=s) rfl] at h7;exact(List.nodup_cons.1 h7).1
     cases i with
     | zero=>
       simp only [List.getElem?_cons_zero,Option.some.injEq] at ar
       cases j with
       | zero=>rfl
       | succ j=>
         simp only [List.getElem?_cons_succ] at aF
         exact absurd (List.mem_filterMap.2 ⟨some s,List.mem_of_getElem? aF,rfl⟩:s∈r.filterMap id) (u2 ar)
     | succ i=>
       simp only [List.getElem?_cons_succ] at ar
       cases j with
       | zero=>
         simp only [List.getElem?_cons_zero,Option.some.injEq] at aF
         exact absurd (List.mem_filterMap.2 ⟨some s,List.mem_of_getElem? ar,rfl⟩:s∈r.filterMap id) (u2 aF)
       | succ j=>
         simp only [List.getElem?_cons_succ] at aF
         rw [b7 aR i j s ar aF]
  exact key er h7
 intro m
 induction m with
 | zero=>
   intro bp bC dW b a W hm inv mid
   have k2:∀ i,i<n→bp.getD i true=true:=by
    intro i ar;cases h:bp.getD i true with
    | true=>rfl
    | false=>
      have:i∈ (List.range n).filter fun i=> !bp.getD i true:=List.mem_filter.2 ⟨List.mem_range.2 ar,by rw [h];rfl⟩
      rw [List.length_eq_zero_iff.1 (Nat.le_zero.1 hm)] at this
      cases this
   have al:=IS inv aO k2
   rw [← al] at qJ
   have wZ:(ops.toList.drop n).length=ops.size - n:=by simp
   rw [Nat.zero_add,← wZ]
   rw [← wZ] at qJ
   refine Bu (ops.toList.drop n) n bp a W (fun j=>by simp) qJ (bP bC a W ?_)
   have pS:∀ j,j<n→bp.getD j false=true:=fun j qX=>by
    have aD:=k2 j qX;have aZ:j<bp.size:=by rw [inv.size];omega
    simpa [aZ] using aD
   have qX:∀ (j:Nat) (h:fj),hs[j]? =some h→j<n:=fun j h aF=>by have:=(List.getElem?_eq_some_iff.1 aF).1;omega
   have QX:∀ x∈hs.drop b,x.nj=false:=fun x ao=>by
    obtain⟨j,aF⟩:=List.mem_iff_getElem?.1 ao;rw [List.getElem?_drop] at aF;cases h8:x.nj with
    | false=>rfl
    | true=>
      have:=(mid.stored (b+j) x aF h8).1 (pS _ (qX _ _ aF))
      omega
   have Tm:ez L hs=ez L (hs.take b):=by
    conv=>lhs;rw [← List.take_append_drop b hs]
    rw [Jv,FK QX]
   have zW:∀ (j:Nat) cp,jk j cp hs=jk j cp (hs.take b):=fun j cp=>by
    conv=>lhs;rw [← List.take_append_drop b hs]
    rw [Ja,FD QX]
   have KE:(dW.map bC).Nodup:=by
    have:=mid.st.nodup;rw [e5,B0] at this;exact(List.nodup_append.1 this).2.1
   have aeV:∀ (j k:Nat),j∈dW→k∈dW→bC j=bC k→j=k:=by
    have key:∀ (l:List Nat),(l.map bC).Nodup→ ∀ j k:Nat,j∈l→k∈l→bC j=bC k→j=k:=by
     intro l;induction l with
     | nil=>intro _ j k h;cases h
     | cons x r afQ=>
       intro aO j k aF hk e
       simp only [List.map_cons] at aO
       obtain⟨h1,ad⟩:=List.nodup_cons.1 aO
       rcases List.mem_cons.1 aF with aD | aF
       ·rcases List.mem_cons.1 hk with aZ | hk
        ·rw [aD,aZ]
        exact absurd (List.mem_map.2 ⟨k,hk,by rw [← e,aD]⟩) h1
       rcases List.mem_cons.1 hk with aZ | hk
       ·exact absurd (List.mem_map.2 ⟨j,aF,by rw [e,aZ]⟩) h1
       exact afQ ad j k aF hk e
    exact key dW KE
   have LG:∀ (j:Nat) cp,hs[j]? =some (.new cp)→j∈dW:=fun j cp aF=>(mid.news j).2 ⟨qX j _ aF,pS j (qX j _ aF),cp,aF⟩
   have KF:∀ e∈mg bC hs [] 0 hs,e∈fK bC hs b dW:=fun e he=>by
    obtain⟨j,cp,h1,ad⟩:=I1 he;rw [Nat.zero_add] at ad;refine List.mem_map.2 ⟨j,LG j cp h1,?_⟩;simp only [h1];rw [ad,zW]
   have Hm:bM c E (mg bC hs (ez L hs) 0 hs) a W:=by
    rw [yL,Tm];refine mid.st.sub (fun e he=>?_) ?_
    ·rcases List.mem_append.1 he with he | he
     ·exact List.mem_append.2 (.inr (KF e he))
     exact List.mem_append.2 (.inl he)
    rw [e5];have fU:=mid.st.nodup;rw [e5,B0] at fU;obtain⟨h1,ad,aD⟩:=List.nodup_append.1 fU;refine List.nodup_append.2 ⟨NM hs 0 fun j k u v aw aX dc=>?_,h1,fun x ao y a7 e=>?_⟩
    ·simp only [Nat.zero_add] at dc;exact aeV j k (LG j u aw) (LG k v aX) dc
    subst e;obtain⟨e,he,vl⟩:=lM.1 ao;have:x∈aS (fK bC hs b dW):=lM.2 ⟨e,KF e he,vl⟩;rw [B0] at this;exact aD x a7 x this rfl
   have lh:∀ k∈aS (mg bC hs (ez L hs) 0 hs)++c.b8,k∈aS (ez L (hs.take b)++fK bC hs b dW)++c.b8:=fun k hk=>by
    rw [yL,e5,Tm] at hk;rw [e5];simp only [List.mem_append] at hk ⊢;rcases hk with(hk | hk) | hk
    ·obtain⟨e,he,vl⟩:=lM.1 hk;exact .inl (.inr (lM.2 ⟨e,KF e he,vl⟩))
    ·exact .inl (.inl hk)
    exact .inr hk
   refine { Hm with env:=fun t τ ft=>?_ }
   rcases OA 0 ft with⟨j,h1,h,ad,aD⟩ | h1
   ·rw [Nat.zero_add] at aD
    obtain⟨v,aZ,bc⟩:=mid.done j t h τ (qX j h ad) (pS j (qX j h ad)) h1 ad aD
    exact⟨v,aZ,τ.mono (.drop lh) bc⟩
   exact Hm.env t τ h1
 | succ m b7=>
   intro bp bC dW b a W hm inv mid
   by_cases k2:∀ i,i<n→bp.getD i true=true
   ·have bR:((List.range n).filter fun i=> !bp.getD i true).length≤m:=by
     have:((List.range n).filter fun i=> !bp.getD i true)= []:=List.filter_eq_nil_iff.2 fun i ar=>by simp [k2 i (List.mem_range.1 ar)]
     rw [this];simp
    have h1:=b7 bp bC dW b a W bR inv mid
    have more:∀ f (bp:Array Bool) a W,wpAnyIn c.F 9 c.P .any ops Q f bp a W→wpAnyIn c.F 9 c.P .any ops Q (f+1) bp a W:=by
     intro f;induction f with
     | zero=>intro bp a W h;exact⟨fun _=>h.2,fun i ar=>by rw [h.1] at ar;cases ar⟩
     | succ f DV=>intro bp a W h;exact⟨h.1,fun i ar=>wpOpIn_mono (fun gX nD df=>DV _ gX nD df) (h.2 i ar)⟩
    rw [show m+1+(ops.size - n)=(m+(ops.size - n))+1 by omega]
    exact more _ _ _ _ h1
   rw [show m+1+(ops.size - n)=(m+(ops.size - n))+1 by omega]
   have hex:∃ i,i<n∧bp.getD i true=false:=by
    have h1: ¬ ∀ i,i<n→bp.getD i true=true:=k2;false_or_by_contra;rename_i ad;exact h1 fun i ar=>by
     cases h:bp.getD i true with
     | true=>rfl
     | false=>exact absurd ⟨i,ar,h⟩ ad
   have Cv:∀ t∈Region.ready .any ops bp,t<n:=by
    intro t qY;rcases Nat.lt_or_ge t n with h | h
    ·exact h
    obtain⟨i,ar,jR⟩:=hex;rcases wY with h1 | h1
    ·obtain⟨_,o,bk,_⟩:=mem_ready.1 qY;have:=(Array.getElem?_eq_some_iff.1 bk).1;omega
    have Tn:n<ops.size:=by
     obtain⟨_,o,bk,_⟩:=mem_ready.1 qY;have:=(Array.getElem?_eq_some_iff.1 bk).1;omega
    exact absurd qY (tail_waits h1.1 h1.2 Tn inv _ i rfl ar jR t h)
   refine⟨fun bR=>?_,fun i ar=>?_⟩
   ·exfalso
    have aay:∀ k,∀ i,i≤k→i<n→bp.getD i true=false→ ∃ i,i<n∧bp.getD i true=false∧ ∀ j,j<i→bp.getD j true=true:=by
     intro k;induction k with
     | zero=>intro i qW ar hu;exact⟨i,ar,hu,fun j aF=>by omega⟩
     | succ k DW=>
       intro i qW ar hu
       by_cases hq:∀ j,j<i→bp.getD j true=true
       ·exact⟨i,ar,hu,hq⟩
       have:∃ j,j<i∧bp.getD j true=false:=by
        false_or_by_contra;rename_i ad;exact hq fun j aF=>by
         cases h:bp.getD j true with
         | true=>rfl
         | false=>exact absurd ⟨j,aF,h⟩ ad
       obtain⟨j,aF,afR⟩:=this
       exact DW j (by omega) (by omega) afR
    obtain⟨i0,DX,afS⟩:=hex
    obtain⟨i,ar,hu,K8⟩:=aay i0 i0 (Nat.le_refl _) DX afS
    obtain⟨o,bk,_,Gk⟩:=tq i ar
    have:i∈Region.ready .any ops bp:=mem_ready.2 ⟨hu,o,bk,fun e he hb=>by
     have h1:=K8 e.on (Gk e he hb);have ad:e.on<bp.size:=by rw [inv.size];have:=Gk e he hb;omega
     simpa [ad] using h1⟩
    rw [bR] at this
    cases this
   have fc:=Cv i ar
   obtain⟨o,bk,nk,Gk⟩:=tq i fc
   obtain⟨jR,o',qV,pS⟩:=mem_ready.1 ar
   have afT:o'=o:=Option.some.inj (qV.symm.trans bk)
   subst afT
   obtain⟨h,eL⟩:∃ h,hs[i]? =some h:=⟨hs[i]'(by omega),by simp⟩
   obtain⟨cV,e8,hH⟩:=I0 (cu bC) i h eL
   have aeW:cV=o':=by
    rw [Array.getElem?_toList] at e8;exact Option.some.inj (e8.symm.trans bk)
   subst aeW
   have tc:((List.range n).filter fun j=> !(bp.setIfInBounds i true).getD j true).length≤m:=by
    have:((List.range n).filter fun j=> !(bp.setIfInBounds i true).getD j true).length<((List.range n).filter fun j=> !bp.getD j true).length:=by
     refine J2 (fun j=> !bp.getD j true) (fun j=> !(bp.setIfInBounds i true).getD j true) i (by simp only [jR];rfl) ?_ (fun j aF=>?_) n fc
     ·have:i<bp.size:=by rw [inv.size];omega
      simp [this]
     by_cases e:i=j
     ·subst e;simp only [jR];rfl
     rw [getD_set_ne true e] at aF;exact aF
    omega
   have xg:=inv.set ar fc
   have u3:i<bp.size:=by rw [inv.size];omega
   have zt:(bp.setIfInBounds i true).getD i false=true:=by simp [u3]
   have nW:bp.getD i false=false:=getD_both jR
   have aeX:i ∉ dW:=fun hm=>by have:=((mid.news i).1 hm).2.1;rw [nW] at this;cases this
   have GW:∀ j∈pk.getD i [],j<n∧bp.getD j false=true:=fun j aF=>by
    have aD:=List.all_eq_true.1 (List.all_eq_true.1 Sx i (List.mem_range.2 fc)) j aF;simp only [Bool.and_eq_true,decide_eq_true_eq] at aD;obtain⟨oV,lZ,e,he,hb,pt⟩:=Region.waitsFor_spec aD.2;have:oV=cV:=Option.some.inj (lZ.symm.trans bk);subst this;have aZ:=pS e he hb;rw [pt] at aZ;exact⟨aD.1,aZ⟩
   have kN:bM c (he bC er hs E (pk.getD i [])) (ez L (hs.take b)++fK bC hs b dW) a W:=by
    refine { mid.st with env:=fun t σ ft=>?_ };rcases PH ft with⟨j,aF,h1,x,ad,aD⟩ | h1
    ·exact mid.done j t x σ (GW j aF).1 (GW j aF).2 h1 ad aD
    exact mid.st.env t σ h1
   have PI:h.nj=true→b≤i∧ ∃ r,hs.take i=hs.take b++r∧ ∀ x∈r,x.nj=false:=fun To=>by
    have Hn:b≤i:=by
     rcases Nat.lt_or_ge i b with h1 | h1
     ·have:=(mid.stored i h eL To).2 h1;rw [nW] at this;cases this
     exact h1
    refine⟨Hn,YR Hn eL fun j x qa lv ao=>?_⟩;cases h8:x.nj with
    | false=>rfl
    | true=>
      have aD:=List.all_eq_true.1 aeU i (List.mem_range.2 fc)
      have aw:(hs.map fj.nj).getD i false=true:=by simp [eL,To]
      simp only [aw,Bool.not_true,Bool.false_or] at aD
      have aZ:=List.all_eq_true.1 aD j (List.mem_range.2 lv)
      have aX:(hs.map fj.nj).getD j false=true:=by simp [ao,h8]
      simp only [aX,Bool.not_true,Bool.false_or] at aZ
      obtain⟨oV,lZ,e,he,hb,pt⟩:=Region.waitsFor_spec aZ
      have:oV=cV:=Option.some.inj (lZ.symm.trans bk)
      subst this
      have bc:=pS e he hb
      rw [pt] at bc
      have:=(mid.stored j x ao h8).1 bc
      omega
   unfold wpOpIn
   simp only [bk]
   cases h with
   | val τ=>
     simp only at hH
     have afU:=hH (ez L (hs.take b)++fK bC hs b dW) (fun j e aF hu=>by
      have h1:(ez L (hs.take b))[j]? =some e:=by
       rw [BL b 0 hu (fun q hq ⟨Uu,cp',ao⟩=>by
        have Ho:=(mid.stored q _ ao rfl).2 hq;cases hw:Region.waitsFor .any ops (0+q) (0+i) with
        | false=>rfl
        | true=>
          obtain⟨LH,GX,e',Hp,xv,Tp⟩:=Region.waitsFor_spec hw
          rw [Nat.zero_add] at GX Tp
          have:=inv.closed q LH GX Ho e' Hp xv
          rw [Tp,nW] at this
          cases this)]
       exact aF
      rw [List.getElem?_append_left (List.getElem?_eq_some_iff.1 h1).1];exact h1)
     obtain⟨h1,ad⟩:=afU a W kN
     have Sy:∀ v W',Fr [] W W'→τ.holds (aS (ez L (hs.take b)++fK bC hs b dW)++c.b8) W' v→zV c n er hs E L (bp.setIfInBounds i true) bC dW b (a.put cV.dst v) W':=by
      intro v W' f a6;have k4:=mid.st.world f;refine⟨?_,fun j cw x σ aF al eS ao mr=>?_,fun j=>?_,fun j x ao h8=>?_,mid.ble⟩
      ·cases hd:cV.dst with
       | none=>exact k4
       | some s=>
         rw [hd] at nk
         refine { (k4.put (d:=s) (GV i s nk) a6) with env:=fun t σ ft=>?_ }
         have da:s≠t:=fun e=>IZ aB t σ ft (by rw [← e];exact List.mem_filterMap.2 ⟨some s,List.mem_of_getElem? nk,rfl⟩)
         obtain⟨u,bc,bu⟩:=k4.env t σ ft
         exact⟨u,by simp only [Act.put];rw [Array.getElem?_setIfInBounds_ne da];exact bc,bu⟩
      ·by_cases e:i=j
       ·subst e;rw [nk] at eS;rw [eL] at ao;cases ao;simp only [fj.sf,Option.some.injEq] at mr;subst mr;simp only [Option.some.injEq] at eS;rw [eS];exact⟨v,by rw [eS] at nk;simp [Act.put,k4.size,GV i cw nk],a6⟩
       rw [getD_set_ne false e] at al;obtain⟨u,bc,bu⟩:=mid.done j cw x σ aF al eS ao mr;refine⟨u,?_,σ.mono (.dR f) bu⟩;cases hd:cV.dst with
       | none=>exact bc
       | some s=>
         rw [hd] at nk
         have da:s≠cw:=fun aX=>e (Tl i j s nk (by rw [aX];exact eS))
         simp only [Act.put];rw [Array.getElem?_setIfInBounds_ne da];exact bc
      ·rw [mid.news j];by_cases e:i=j
       ·subst e;constructor
        ·rintro ⟨_,bc,_⟩;rw [nW] at bc;cases bc
        rintro ⟨_,_,cp,bc⟩;rw [eL] at bc;cases bc
       rw [getD_set_ne false e]
      have e:i≠j:=fun e=>by subst e;rw [eL] at ao;cases ao;cases h8
      rw [getD_set_ne false e];exact mid.stored j x ao h8
     split
     ·rename_i hw
      exact(h1 hw).wpIn fun v W' ⟨f,a6⟩=>b7 _ bC dW b _ _ tc xg (Sy v W' f a6)
     rename_i hw
     have Hq:Region.wanted cV (yielded ops a.tmps)=false:=by simpa using hw
     exact⟨fun _ _=>trivial,b7 _ bC dW b _ _ tc xg (Sy undef W (.refl _ _) (ad Hq))⟩
   | new cp=>
     simp only at hH
     obtain⟨DY,ky,eY,iP⟩:=hH
     have acK:∀ q x,fj.nt q x∈hs.take b→q≠i:=fun q x hm e=>by
      subst e;obtain⟨j,aF⟩:=List.mem_iff_getElem?.1 hm;rw [List.getElem?_take] at aF;split at aF
      ·rename_i afV;have DZ:=(mid.stored j _ aF rfl).2 afV;have qX:j<n:=by have:=(List.getElem?_eq_some_iff.1 aF).1;omega
       obtain⟨oV,lZ,TO⟩:=I0 (cu bC) j _ aF;simp only at TO;have aD:=List.all_eq_true.1 (List.all_eq_true.1 Sx j (List.mem_range.2 qX)) q (by simpa using TO.1);simp only [Bool.and_eq_true,decide_eq_true_eq] at aD;obtain⟨LH,GX,e,he,hb,pt⟩:=Region.waitsFor_spec aD.2;have:=inv.closed j LH GX DZ e he hb;rw [pt,nW] at this;cases this
      cases aF
     have GY:jk i cp (hs.take b)=cp:=BG acK
     let n4:Nat→Nat:=fun j=>if j=i then W.heap.size else bC j
     have afW:∀ j,j∈dW→n4 j=bC j:=fun j aF=>if_neg (fun e=>aeX (by rw [← e];exact aF))
     have LI:n4 i=W.heap.size:=if_pos rfl
     have r3:ez L (hs.take b)++fK n4 hs b (i::dW)=ez L (hs.take b)++(⟨some W.heap.size,cp⟩::fK bC hs b dW):=by
      have:fK n4 hs b (i::dW)=⟨some W.heap.size,cp⟩::fK n4 hs b dW:=by simp only [fK,List.map_cons,eL,LI,GY]
      rw [this,ZB afW]
     have DA:zV c n er hs E L (bp.setIfInBounds i true) n4 (i::dW) b (a.put cV.dst (.pointer (some ⟨W.heap.size,0,none⟩))) (W.alloc ky):=by
      have k4:bM c E (ez L (hs.take b)++fK n4 hs b (i::dW)) a (W.alloc ky):=by
       rw [r3];exact(mid.st.alloc (eY _ _)).perm List.perm_middle.symm
      have gR:Ext (aS (ez L (hs.take b)++fK bC hs b dW)++c.b8) W (aS (ez L (hs.take b)++fK n4 hs b (i::dW))++c.b8) (W.alloc ky):=by
       refine⟨by simp,fun k hk _=>Cu W ky k hk,fun k hk ct=>?_⟩;rw [r3] at hk;simp only [e5,aS,List.mem_append,List.mem_cons] at hk ⊢;rcases hk with(h | h | h) | h
       ·exact .inl (.inl h)
       ·omega
       ·exact .inl (.inr h)
       exact .inr h
      refine⟨?_,fun j cw x σ aF al eS ao mr=>?_,fun j=>?_,fun j x ao h8=>?_,mid.ble⟩
      ·cases hd:cV.dst with
       | none=>exact k4
       | some s=>
         rw [hd] at nk
         refine { (k4.put (d:=s) (τ:= .any) (GV i s nk) trivial) with env:=fun t σ ft=>?_ }
         have da:s≠t:=fun e=>IZ aB t σ ft (by rw [← e];exact List.mem_filterMap.2 ⟨some s,List.mem_of_getElem? nk,rfl⟩)
         obtain⟨u,bc,bu⟩:=k4.env t σ ft
         exact⟨u,by simp only [Act.put];rw [Array.getElem?_setIfInBounds_ne da];exact bc,bu⟩
      ·by_cases e:i=j
       ·subst e;rw [nk] at eS;rw [eL] at ao;cases ao;simp only [fj.sf,Option.some.injEq] at mr;subst mr;simp only [Option.some.injEq] at eS;rw [eS];exact⟨.pointer (some ⟨W.heap.size,0,none⟩),by rw [eS] at nk;simp [Act.put,k4.size,GV i cw nk],by rw [LI];rfl⟩
       rw [getD_set_ne false e] at al;have afX:n4 j=bC j:=if_neg (fun e'=>e e'.symm);rw [afX] at mr;obtain⟨u,bc,bu⟩:=mid.done j cw x σ aF al eS ao mr;refine⟨u,?_,σ.mono gR bu⟩;cases hd:cV.dst with
       | none=>exact bc
       | some s=>
         rw [hd] at nk
         have da:s≠cw:=fun aX=>e (Tl i j s nk (by rw [aX];exact eS))
         simp only [Act.put];rw [Array.getElem?_setIfInBounds_ne da];exact bc
      ·rw [List.mem_cons,mid.news j];by_cases e:i=j
       ·subst e;exact⟨fun _=>⟨fc,zt,cp,eL⟩,fun _=>.inl rfl⟩
       rw [getD_set_ne false e];exact⟨fun h=>h.resolve_left (fun e'=>e e'.symm),.inr⟩
      have e:i≠j:=fun e=>by subst e;rw [eL] at ao;cases ao;cases h8
      rw [getD_set_ne false e];exact mid.stored j x ao h8
     rw [if_pos (by simp [Region.wanted,DY])]
     refine Wy (iP a W) ?_
     exact b7 _ n4 (i::dW) b _ _ tc xg DA
   | lk q cp=>
     simp only at hH
     obtain⟨Hn,r,xw,pv⟩:=PI rfl
     have TP:ez L (hs.take i)=ez L (hs.take b):=by rw [xw,Jv,FK pv]
     rw [Nat.zero_add,TP] at hH
     obtain⟨p,n3,hq,vm⟩:=hH
     have jn:(ez L (hs.take b)++fK bC hs b dW)[q]? =some ⟨some p,n3⟩:=by
      rw [List.getElem?_append_left (List.getElem?_eq_some_iff.1 hq).1];exact hq
     obtain⟨DY,GZ,vm⟩:=vm (ez L (hs.take b)++fK bC hs b dW) (fun j e aF=>by
      rw [List.getElem?_append_left (List.getElem?_eq_some_iff.1 aF).1];exact aF)
     obtain⟨cs,en,T,h1,ad,aD⟩:=vm a W kN
     have DU:=mid.st.store jn h1 aD
     have zH:hs.take (i+1)=hs.take i++[.lk q cp]:=by rw [List.take_add_one,eL];rfl
     have xx:ez L (hs.take (i+1))=(ez L (hs.take b)).set q ⟨some p,cp⟩:=by
      rw [zH,Of,TP];simp only [ez];exact X7 hq
     have LJ:fK bC hs (i+1) dW=fK bC hs b dW:=by
      unfold fK;refine List.map_congr_left fun j _=>?_;congr 1;split
      ·rw [zH,IK,xw,Ja,FD pv];rfl
      rfl
     have D0:ez L (hs.take (i+1))++fK bC hs (i+1) dW=(ez L (hs.take b)++fK bC hs b dW).set q ⟨some p,cp⟩:=by
      rw [xx,LJ,List.set_append_left _ _ (List.getElem?_eq_some_iff.1 hq).1]
     have jS:aS (ez L (hs.take (i+1))++fK bC hs (i+1) dW)=aS (ez L (hs.take b)++fK bC hs b dW):=by rw [D0];exact y7 (cp:=cp) jn
     have lx:p∈aS (ez L (hs.take b)++fK bC hs b dW):=lM.2 ⟨_,List.mem_of_getElem? jn,rfl⟩
     have gR:Ext (aS (ez L (hs.take b)++fK bC hs b dW)++c.b8) W (aS (ez L (hs.take b)++fK bC hs b dW)++c.b8) (W.setRow p en):=
      ⟨by simp,fun k _ bo=>setRow_other W p k en (fun e=>bo (e ▸ List.mem_append.2 (.inl lx))),fun _ h _=>h⟩
     have DA:zV c n er hs E L (bp.setIfInBounds i true) bC dW (i+1) (a.put cV.dst undef) (W.setRow p en):=by
      rw [GZ];refine⟨by rw [D0];exact DU,fun j cw x σ aF al eS ao mr=>?_,fun j=>?_,fun j x ao h8=>?_,fc⟩
      ·rw [jS];by_cases e:i=j
       ·subst e;rw [eL] at ao;cases ao;cases mr
       rw [getD_set_ne false e] at al;obtain⟨u,bc,bu⟩:=mid.done j cw x σ aF al eS ao mr;exact⟨u,bc,σ.mono gR bu⟩
      ·rw [mid.news j];by_cases e:i=j
       ·subst e;constructor
        ·rintro ⟨_,bc,_⟩;rw [nW] at bc;cases bc
        rintro ⟨_,_,cp,bc⟩;rw [eL] at bc;cases bc
       rw [getD_set_ne false e]
      by_cases e:i=j
      ·subst e;exact⟨fun _=>by omega,fun _=>zt⟩
      rw [getD_set_ne false e,mid.stored j x ao h8];constructor
      ·intro _;omega
      intro aF;rcases Nat.lt_or_ge j b with bc | bc
      ·exact bc
      have:x∈r:=by
       have bu:(hs.take i)[j]? =some x:=by rw [List.getElem?_take,if_pos (by omega)];exact ao
       rw [xw,List.getElem?_append_right (by rw [List.length_take];omega)] at bu;exact List.mem_of_getElem? bu
      have:=pv x this;rw [h8] at this;cases this
     rw [if_pos (by simp [Region.wanted,DY])]
     refine NW ad ?_
     exact b7 _ bC dW (i+1) _ _ tc xg DA
   | nt q cp=>
     simp only at hH
     obtain⟨Hn,r,xw,pv⟩:=PI rfl
     obtain⟨Tq,n3,tr,vm⟩:=hH
     rw [Nat.zero_add] at vm
     have GY:∀ (j:Nat) x,jk j x (hs.take i)=jk j x (hs.take b):=fun j x=>by rw [xw,Ja,FD pv]
     have aeY:q∈dW:=(mid.news q).2 ⟨(GW q (by simpa using Tq)).1,(GW q (by simpa using Tq)).2,n3,tr⟩
     obtain⟨k,hk⟩:=List.mem_iff_getElem?.1 aeY
     have DB:(fK bC hs b dW)[k]? =some ⟨some (bC q),jk q n3 (hs.take i)⟩:=by
      simp only [fK,List.getElem?_map,hk,Option.map_some,tr,GY]
     have jn:(ez L (hs.take b)++fK bC hs b dW)[(ez L (hs.take b)).length+k]? =some ⟨some (bC q),jk q n3 (hs.take i)⟩:=by
      rw [List.getElem?_append_right (by omega),Nat.add_sub_cancel_left];exact DB
     obtain⟨DY,GZ,vm⟩:=vm (ez L (hs.take b)++fK bC hs b dW) _ jn
     obtain⟨cs,en,T,h1,ad,aD⟩:=vm a W kN
     have DU:=mid.st.store jn h1 aD
     have zH:hs.take (i+1)=hs.take i++[.nt q cp]:=by rw [List.take_add_one,eL];rfl
     have xx:ez L (hs.take (i+1))=ez L (hs.take b):=by
      rw [zH,Of];simp only [ez];rw [xw,Jv,FK pv]
     have KE:dW.Nodup:=by
      have:=mid.st.nodup;rw [e5,B0] at this;exact NX bC dW (List.nodup_append.1 this).2.1
     have LJ:fK bC hs (i+1) dW=(fK bC hs b dW).set k ⟨some (bC q),cp⟩:=by
      apply List.ext_getElem?;intro j;rw [List.getElem?_set];by_cases e:k=j
      ·subst e;have LK:k<(fK bC hs b dW).length:=(List.getElem?_eq_some_iff.1 DB).1;rw [if_pos rfl,if_pos LK];simp only [fK,List.getElem?_map,hk,Option.map_some,tr];rw [zH,IK];simp [jk]
      rw [if_neg e];simp only [fK,List.getElem?_map];cases aF:dW[j]? with
      | none=>rfl
      | some x=>
        have afY:x≠q:=fun aX=>by
         subst aX;obtain⟨dn,a2⟩:=List.getElem?_eq_some_iff.1 aF;obtain⟨dM,eC⟩:=List.getElem?_eq_some_iff.1 hk;exact e ((List.getElem_inj KE).1 (eC.trans a2.symm))
        simp only [Option.map_some]
        congr 2
        split
        ·rw [zH,IK,GY]
         have:Nat.beq q x=false:=by
          cases hb:Nat.beq q x with
          | false=>rfl
          | true=>exact absurd (eH.1 hb).symm afY
         simp [jk,this]
        rfl
     have D0:ez L (hs.take (i+1))++fK bC hs (i+1) dW=(ez L (hs.take b)++fK bC hs b dW).set ((ez L (hs.take b)).length+k) ⟨some (bC q),cp⟩:=by
      rw [xx,LJ,List.set_append_right _ _ (by omega),Nat.add_sub_cancel_left]
     have jS:aS (ez L (hs.take (i+1))++fK bC hs (i+1) dW)=aS (ez L (hs.take b)++fK bC hs b dW):=by rw [D0];exact y7 (cp:=cp) jn
     have lx:bC q∈aS (ez L (hs.take b)++fK bC hs b dW):=lM.2 ⟨_,List.mem_of_getElem? jn,rfl⟩
     have gR:Ext (aS (ez L (hs.take b)++fK bC hs b dW)++c.b8) W (aS (ez L (hs.take b)++fK bC hs b dW)++c.b8) (W.setRow (bC q) en):=
      ⟨by simp,fun k _ bo=>setRow_other W (bC q) k en (fun e=>bo (e ▸ List.mem_append.2 (.inl lx))),fun _ h _=>h⟩
     have DA:zV c n er hs E L (bp.setIfInBounds i true) bC dW (i+1) (a.put cV.dst undef) (W.setRow (bC q) en):=by
      rw [GZ];refine⟨by rw [D0];exact DU,fun j cw x σ aF al eS ao mr=>?_,fun j=>?_,fun j x ao h8=>?_,fc⟩
      ·rw [jS];by_cases e:i=j
       ·subst e;rw [eL] at ao;cases ao;cases mr
       rw [getD_set_ne false e] at al;obtain⟨u,bc,bu⟩:=mid.done j cw x σ aF al eS ao mr;exact⟨u,bc,σ.mono gR bu⟩
      ·rw [mid.news j];by_cases e:i=j
       ·subst e;constructor
        ·rintro ⟨_,bc,_⟩;rw [nW] at bc;cases bc
        rintro ⟨_,_,cp,bc⟩;rw [eL] at bc;cases bc
       rw [getD_set_ne false e]
      by_cases e:i=j
      ·subst e;exact⟨fun _=>by omega,fun _=>zt⟩
      rw [getD_set_ne false e,mid.stored j x ao h8];constructor
      ·intro _;omega
      intro aF;rcases Nat.lt_or_ge j b with bc | bc
      ·exact bc
      have:x∈r:=by
       have bu:(hs.take i)[j]? =some x:=by rw [List.getElem?_take,if_pos (by omega)];exact ao
       rw [xw,List.getElem?_append_right (by rw [List.length_take];omega)] at bu;exact List.mem_of_getElem? bu
      have:=pv x this;rw [h8] at this;cases this
     rw [if_pos (by simp [Region.wanted,DY])]
     refine NW ad ?_
     exact b7 _ bC dW (i+1) _ _ tc xg DA
theorem ag.draw {n5:Nat}{l:List Oper}(hm:c.P.follows .mixedOrders=true)(n:Nat)(er:List (Option Nat))(pk:List (List Nat))(hs:List fj)(DT:List Bool)(ib:CZ l.toArray n er pk DT c.n=true)(xV:hs.map fj.nj=DT)(aB:zG E (er.filterMap id)=true)
 (hlen:Nat.beq hs.length n=true) (cu:∀ bC,qF c l.toArray bC er hs E L 0 l hs pk)
 (bP:∀ bC:Nat→Nat,ae c l.toArray Q (l.drop n) (tb bC E 0 er hs) (mg bC hs (ez L hs) 0 hs)):ag c Q (.region n5 l.toArray true) E L:=fun a W s=>by
 subst xV
 refine wpIn_region_any hm ?_
 have aO:n≤l.toArray.size:=by
  simp only [CZ,Bool.and_eq_true,decide_eq_true_eq] at ib;exact ib.1.1.1.1.1.1.1.2
 have K9:HeadInv .any l.toArray n (Array.replicate l.toArray.size false):=
  {size:=by simp
   closed:=fun j oV _ al=>by rw [getD_replicate_false] at al;cases al
   tail:=fun t _ bP=>by simp at bP;simp [bP] }
 have aeZ:zV c n er hs E L (Array.replicate l.toArray.size false) (fun _=>0) [] 0 a W.drew:=
  {st:=by simpa [ez,fK] using s.world (Fr.drew W)
   done:=fun j s h τ _ al=>by rw [getD_replicate_false] at al;cases al
   news:=fun j=>by
    constructor
    ·intro h;cases h
    rintro ⟨_,h,_⟩;rw [getD_replicate_false] at h;cases h
   stored:=fun j h _ _=>by
    rw [getD_replicate_false];constructor
    ·intro h;cases h
    intro h;omega
   ble:=Nat.zero_le _ }
 have h:=X8 (ops:=l.toArray) (Q:=Q) ib aB (eH.1 hlen) (by simpa using cu) (by simpa using bP) n (Array.replicate l.toArray.size false) (fun _=>0) [] 0 a W.drew
  (Nat.le_trans (List.length_filter_le _ _) (by simp)) K9 aeZ
 rw [show n+(l.toArray.size - n)=l.toArray.size by omega] at h
 exact h
end
structure bG (P:Program)(t:TypeId)(α:Type)[ah α]:Prop where
 size:(P.info? t).map (·.size)=some (ah.size α)
 TQ:∃ d,P.underlying t=some d∧ (match d with | .struct _ | .array _ _=>true | _=>false)=ah.agg α
structure cR (P:Program)(t:TypeId){α:Type}[ah α](x:α):Prop where
 zero:∃ i z,P.info? t=some i∧i.zero=some z∧ ∀ A W,(I.of x).holds A W z
theorem bG.info {P t α}[ah α](h:bG P t α):∃ i,P.info? t=some i∧i.size=ah.size α:=by
 have:=h.size;cases ar:P.info? t with
 | none=>simp [ar] at this
 | some i=>exact⟨i,rfl,by simpa [ar] using this⟩
theorem bG.isAgg {P t α}[ah α](h:bG P t α)(W:World):(isAgg t).run P W= .ok (ah.agg α) W:=by
 obtain⟨d,hd,he⟩:=h.TQ;unfold Go.isAgg;rw [Sem.run_bind,run_underlying hd W];simp only [Result.andThen_ok];cases d <;> simp_all
theorem bG.sizeOf {P t α}[ah α](h:bG P t α)(W:World):(Go.sizeOf t).run P W= .ok (ah.size α) W:=by
 obtain⟨i,ar,hs⟩:=h.info;simp [Go.sizeOf,typeInfo,ar,hs]
theorem jL (b off j:Nat):(⟨b,off,none⟩:Addr).add j=⟨b,off+j,none⟩:=by unfold Addr.add;split <;> simp_all
theorem vT {P:Program}{W:World}{b off:Nat}{cur:Array Value}{T t:TypeId}{hC:Nat×Nat}{α:Type}[ah α]{A:List Nat}{x:α}(ty:bG P t α)
 (hb:W.heap[b]? =some (.cells cur T hC)) (hs:off+ah.size α≤cur.size) (aR:ah.rep A W ((cur.toList.drop off).take (ah.size α)) x):
 ∃ v,(loadVar t ⟨b,off,none⟩).run P W= .ok v W∧ (I.of x).holds A W v:=by
 have al:=ah.len aR
 have sW:∀ j v,((cur.toList.drop off).take (ah.size α))[j]? =some v→W.cell? ((⟨b,off,none⟩:Addr).add j)=some v:=by
  intro j v a6;rw [jL,cell_of_row W b (off+j) cur T hC hb];rw [List.getElem?_take] at a6;split at a6
  ·rw [List.getElem?_drop] at a6;simpa using a6
  cases a6
 cases bo:ah.agg α with
 | true=>
   have h1:=run_loadCells_list (P:=P) W ⟨b,off,none⟩ _ sW
   rw [al] at h1
   refine⟨.agg ((cur.toList.drop off).take (ah.size α)).toArray,?_,?_,?_⟩
   ·simp [loadVar,Sem.run_bind,ty.isAgg,ty.sizeOf,bo,h1]
   ·simp [shaped,bo]
   simpa [Value.cells] using aR
 | false=>
   have h1:ah.size α=1:=ah.flat bo
   rw [h1] at al
   obtain⟨v,a6⟩:=List.length_eq_one_iff.1 al
   have ad:=sW 0 v (by rw [h1,a6];rfl)
   have aD:v.oneCell'=true:=ah.one aR v (by rw [h1,a6];simp)
   refine⟨v,?_,?_,?_⟩
   ·rw [jL,Nat.add_zero] at ad
    simp [loadVar,Sem.run_bind,ty.isAgg,bo,ad]
   ·simp [shaped,bo,aD]
   rw [cells_one aD]
   rw [h1,a6] at aR
   simpa using aR
def gD (cur:List Value)(off:Nat)(ds:List Value):List Value:=cur.take off++ds++cur.drop (off+ds.length)
theorem YS {A W v}{α:Type}[ah α]{x:α}(h:(I.of x).holds A W v):v.cells.toList.length=ah.size α∧ ∀ u∈v.cells.toList,u.oneCell'=true:=⟨ah.len h.2,ah.one h.2⟩
theorem Bo {P:Program}{W:World}{b off:Nat}{cur:Array Value}{T t:TypeId}{α:Type}[ah α]{A:List Nat}{x:α}{v:Value}(ty:bG P t α)
 (hb:W.heap[b]? =some (.cells cur T (0,0))) (hs:off+ah.size α≤cur.size) (a6:(I.of x).holds A W v):
 (storeVar t ⟨b,off,none⟩ v).run P W= .ok () (W.setRow b (gD cur.toList off v.cells.toList).toArray):=by
 obtain⟨al,h1⟩:=YS a6
 have ad:=run_storeCells_at P b off T v.cells.toList 0 cur W hb (by rw [al];omega) h1
 have ev:v.cells.size=ah.size α:=by simpa using al
 simp only [Nat.add_zero] at ad
 simp only [storeVar,Sem.run_bind,ty.sizeOf,Result.andThen_ok,ev]
 simp only [ne_eq,not_true_eq_false,↓reduceIte,Sem.run_pure,Sem.run_bind,Result.andThen_ok]
 simpa [gD] using ad
structure aI (β γ:Type)[ah β][ah γ] where
 off:Nat
 get:β→γ
 set:β→γ→β
 gK:off+ah.size γ≤ah.size β
 iV:∀ {A W cs b},ah.rep A W cs b→ah.rep A W ((cs.drop off).take (ah.size γ)) (get b)
 lK:∀ {A W cs b ds g},ah.rep A W cs b→ah.rep A W ds g→ah.rep A W (cs.take off++ds++cs.drop (off+ah.size γ)) (set b g)
def aI.id (β:Type)[ah β]:aI β β where
 off:=0
 get b:=b
 set _ g:=g
 gK:=by simp
 iV h:=by
  have:=ah.len h;rw [List.drop_zero,← this,List.take_length];exact h
 lK h bH:=by
  have h1:=ah.len h;rw [List.take_zero,List.nil_append,Nat.zero_add,← h1,List.drop_length,List.append_nil];exact bH
theorem vX (cs:List Value)(cC s1 cV s2:Nat)(h:cV+s2≤s1):(((cs.drop cC).take s1).drop cV).take s2=(cs.drop (cC+cV)).take s2:=by
 apply List.ext_getElem?;intro i;simp only [List.getElem?_take,List.getElem?_drop];split
 ·rw [if_pos (by omega)];congr 1;omega
 rfl
theorem OB (cs ds:List Value)(cC s1 cV s2:Nat)(h:cV+s2≤s1)(aj:cC+s1≤cs.length):
 cs.take cC++(((cs.drop cC).take s1).take cV++ds++((cs.drop cC).take s1).drop (cV+s2))++cs.drop (cC+s1)=cs.take (cC+cV)++ds++cs.drop (cC+cV+s2):=by
 have aw:cs.take (cC+cV)=cs.take cC++((cs.drop cC).take s1).take cV:=by
  rw [List.take_take,Nat.min_eq_left (by omega),List.take_add]
 have aX:cs.drop (cC+cV+s2)=((cs.drop cC).take s1).drop (cV+s2)++cs.drop (cC+s1):=by
  apply List.ext_getElem?;intro i;simp only [List.getElem?_append,List.getElem?_drop,List.getElem?_take,List.length_drop,List.length_take];split
  ·rw [if_pos (by omega)];congr 1;omega
  congr 1;omega
 rw [aw,aX]
 simp only [List.append_assoc]
def aI.comp {α β γ:Type}[ah α][ah β][ah γ](l:aI α β)(m:aI β γ):aI α γ where
 off:=l.off+m.off
 get b:=m.get (l.get b)
 set b g:=l.set b (m.set (l.get b) g)
 gK:=by have:=l.gK;have:=m.gK;omega
 iV h:=by
  have:=m.iV (l.iV h);rwa [vX _ _ _ _ _ m.gK] at this
 lK h bH:=by
  have h1:=l.lK h (m.lK (l.iV h) bH);have ad:=ah.len h;have aD:=l.gK;rwa [OB _ _ _ _ _ _ m.gK (by omega)] at h1
def bF {α:Type}[Inhabited α]{n:Nat}(v:Vector α n)(k:Nat):α:=v[k]?.getD default
def dr {α:Type}{n:Nat}(v:Vector α n)(k:Nat)(x:α):Vector α n:=v.setIfInBounds k x
instance {α:Type} [Inhabited α] {n:Nat} :Inhabited (Vector α n):=⟨Vector.replicate n default⟩
instance ahu {α:Type} [ah α] [Inhabited α] {n:Nat} :ah (Vector α n) where
 size:=n * ah.size α
 agg:=true
 rep A W cs v:=hg A W cs v.toList
 len h:=by rw [h.1];simp
 one h:=by
  intro u hu;obtain⟨j,aF⟩:=List.mem_iff_getElem?.1 hu;have ct:=(List.getElem?_eq_some_iff.1 aF).1;have h1:=h.1;by_cases hs:ah.size α=0
  ·rw [hs,Nat.mul_zero] at h1;omega
  have hp:0<ah.size α:=Nat.pos_of_ne_zero hs;have ar:j / ah.size α<_:=(Nat.div_lt_iff_lt_mul hp).2 (by rw [h1] at ct;exact ct);refine ah.one (h.2 _ ar) u (List.mem_iff_getElem?.2 ⟨j % ah.size α,?_⟩);rw [List.getElem?_take,if_pos (Nat.mod_lt _ hp),List.getElem?_drop,Nat.mul_comm,Nat.div_add_mod];exact aF
 flat h:=by cases h
 mono e h:=h.mono e
theorem W4 {α:Type}[Inhabited α]{n:Nat}(v:Vector α n){k:Nat}(h:k<n):bF v k=v.toList[k]'(by simpa using h):=by simp [bF,h]
theorem Jb {α:Type}[ah α]{A W}{cs ds:List Value}{xs:List α}{x:α}{k:Nat}(h:hg A W cs xs)(hk:k<xs.length)(hd:ah.rep A W ds x):
 hg A W (cs.take (k * ah.size α)++ds++cs.drop (k * ah.size α+ah.size α)) (xs.set k x):=by
 have al:=h.1
 have ahR:=ah.len hd
 have hle:(k+1) * ah.size α≤xs.length * ah.size α:=Nat.mul_le_mul_right _ hk
 rw [Nat.succ_mul] at hle
 refine⟨by simp only [List.length_append,List.length_take,List.length_drop,List.length_set];omega,fun i ar=>?_⟩
 rw [List.length_set] at ar
 by_cases e:k=i
 ·subst e
  have:((cs.take (k * ah.size α)++ds++cs.drop (k * ah.size α+ah.size α)).drop (k * ah.size α)).take (ah.size α)=ds:=by
   rw [List.append_assoc,List.drop_append_of_le_length (by simp only [List.length_take];omega),List.drop_of_length_le (by simp only [List.length_take];omega),List.nil_append,
    List.take_append_of_le_length (by omega),List.take_of_length_le (by omega)]
  rw [this]
  simpa using hd
 have h1:=h.2 i ar
 have:((cs.take (k * ah.size α)++ds++cs.drop (k * ah.size α+ah.size α)).drop (i * ah.size α)).take (ah.size α)=(cs.drop (i * ah.size α)).take (ah.size α):=by
  apply List.ext_getElem?;intro j;simp only [List.getElem?_take,List.getElem?_drop];split
  ·rename_i aF;simp only [List.getElem?_append,List.length_append,List.length_take,List.getElem?_take,List.getElem?_drop];rcases Nat.lt_or_gt_of_ne e with ad | ad
   ·have:(k+1) * ah.size α≤i * ah.size α:=Nat.mul_le_mul_right _ ad;rw [Nat.succ_mul] at this;rw [if_neg (by omega)];congr 1;omega
   have:(i+1) * ah.size α≤k * ah.size α:=Nat.mul_le_mul_right _ ad;rw [Nat.succ_mul] at this;rw [if_pos (by omega),if_pos (by omega),if_pos (by omega)]
  rfl
 rw [this]
 simpa [List.getElem_set_ne e] using h1
def aI.idx {α:Type}[ah α][Inhabited α](n k:Nat)(hk:k<n):aI (Vector α n) α where
 off:=k * ah.size α
 get v:=bF v k
 set v x:=dr v k x
 gK:=by
  show k * ah.size α+ah.size α≤n * ah.size α;rw [← Nat.succ_mul];exact Nat.mul_le_mul_right _ hk
 iV h:=by
  rename_i b;rw [W4 b hk];exact h.2 k (by simpa using hk)
 lK h hd:=by
  rename_i b ds g;have:=Jb h (k:=k) (by simpa using hk) hd;show hg _ _ _ (dr b k g).toList;rw [show(dr b k g).toList=b.toList.set k g by simp [dr]];exact this
def idx (n:Nat)(i:Int):Option Nat:=if 0≤i∧i<n then some i.toNat else none
theorem cY {n:Nat}{i:Int}{k:Nat}(h:idx n i=some k):k<n∧i=k:=by
 unfold idx at h;split at h
 ·rename_i ar;simp only [Option.some.injEq] at h;omega
 cases h
section
variable {c:dt} {E:List (Nat×I)} {L:List aN} {ops:Array Oper} {Q:Exit→Act→World→Prop}
variable {d:Option Tmp} {ty:TypeId} {pos:String} {af:Array Edge} {g:Option (Nat×Bool)}
theorem cG {x:Operand}{τ:I}(h:bg c E L x τ):cf c E L ⟨d,.move x,ty,pos,af,g⟩ τ:= .pure fun a W s=>⟨_,rfl,h a W s⟩
theorem e2 {x:Operand}{τ:I}(h:bg c E L x τ):cf c E L ⟨d,.assign x,ty,pos,af,g⟩ τ:= .pure fun a W s=>⟨_,rfl,h a W s⟩
theorem s0 {x y:Operand}{b e:Bool}{p:Prop}(ao:bg c E L x (.of b))(a7:bg c E L y (.cond p (.of e)))(hp:b=false→p):
 cf c E L ⟨d,.pick x (.const (.bool true)) y,ty,pos,af,g⟩ (.of (b||e)):= .pure fun a W s=>by
 have h1:=of_bool.1 (ao a W s)
 cases b with
 | true=>exact⟨.bool true,by simp only [execOp,h1,asBool];rfl,of_bool.2 rfl⟩
 | false=>
   have ad:=of_bool.1 ((a7 a W s).1 (hp rfl))
   exact⟨.bool e,by simp [execOp,asBool,h1,ad],of_bool.2 rfl⟩
theorem nQ {x y:Operand}{b e:Bool}{p:Prop}(ao:bg c E L x (.of b))(a7:bg c E L y (.cond p (.of e)))(hp:b=true→p):
 cf c E L ⟨d,.pick x y (.const (.bool false)),ty,pos,af,g⟩ (.of (b&&e)):= .pure fun a W s=>by
 have h1:=of_bool.1 (ao a W s)
 cases b with
 | false=>exact⟨.bool false,by simp only [execOp,h1,asBool];rfl,of_bool.2 rfl⟩
 | true=>
   have ad:=of_bool.1 ((a7 a W s).1 (hp rfl))
   exact⟨.bool e,by simp [execOp,asBool,h1,ad],of_bool.2 rfl⟩
theorem iO {x:Operand}{b:Bool}{t:TypeId}(ao:bg c E L x (.of b)):cf c E L ⟨d,.unOp .not t x,ty,pos,af,g⟩ (.of (!b)):= .pure fun a W s=>
 ⟨.bool (!b),by simp [execOp,Op.unary,of_bool.1 (ao a W s)],of_bool.2 rfl⟩
theorem dz {x:Operand}{t:TypeId}{i p o:Nat}{β γ:Type}[ah β][ah γ]{b:β}(l:aI β γ){r:γ}(eD:bG c.P t γ)(ao:bg c E L x (.eq (.pointer (some ⟨p,o,none⟩))))
 (ak:L[i]? =some ⟨some p,.var b⟩) (bk:o=l.off) (aR:l.get b=r):cf c E L ⟨d,.load t x,ty,pos,af,g⟩ (.of r):= .pure fun a W s=>by
 subst bk
 subst aR
 obtain⟨ky,eY,cs,T,rfl,gx⟩:=s.own _ (List.mem_of_getElem? ak)
 have h1:cs.toList.length=ah.size β:=ah.len gx
 obtain⟨v,ad,aD⟩:=vT (A:=aS L++c.b8) eD eY (by have:=l.gK;simp at h1;omega) (l.iV gx)
 refine⟨v,?_,aD⟩
 have aZ:a.eval x=_:=ao a W s
 simp [execOp,Instr.loadAt,Instr.sureAddr,aZ,ad]
theorem dv {x:Operand}{t:TypeId}{γ:Type}[ah γ]{r:γ}(eD:bG c.P t γ)(ao:bg c E L x (.ptr r)):cf c E L ⟨d,.load t x,ty,pos,af,g⟩ (.of r):= .pure fun a W s=>by
 obtain⟨b,off,cur,T,hC,aZ,hb,cu,hs,aR⟩:=ao a W s;obtain⟨v,ad,aD⟩:=vT eD cu hs aR;exact⟨v,by simp [execOp,Instr.loadAt,Instr.sureAddr,aZ,ad],aD⟩
structure cE (P:Program)(s:TypeId)(f o:Nat):Prop where
 at_:∃ fs fd i,P.underlying s=some (.struct fs)∧fs[f]? =some fd∧fd.offset=o∧P.info? fd.type=some i∧i.size≠0
theorem N2 {P:Program}{s:TypeId}{f o:Nat}(h:cE P s f o)(p off:Nat)(W:World):
 (Instr.fieldAt s (.pointer (some ⟨p,off,none⟩)) f).run P W= .ok (.pointer (some ⟨p,off+o,none⟩)) W:=by
 obtain⟨fs,fd,i,h1,ad,aD,aZ,bc⟩:=h.at_
 simp [Instr.fieldAt,run_underlying h1,ad,Instr.sureAddr,fieldPlace,Go.sizeOf,typeInfo,aZ,bc,jL,aD]
theorem aM {x:Operand}{s f o p off:Nat}(fd:cE c.P s f o)(ao:bg c E L x (.eq (.pointer (some ⟨p,off,none⟩)))):
 cf c E L ⟨d,.fieldAddr s x f,ty,pos,af,g⟩ (.eq (.pointer (some ⟨p,off+o,none⟩))):= .pure fun a W st=>by
 have aZ:a.eval x=_:=ao a W st
 exact⟨_,by simp [execOp,aZ,N2 fd],rfl⟩
theorem CI {x:Operand}{s f o:Nat}{β γ:Type}[ah β][ah γ]{b:β}(l:aI β γ){r:γ}(fd:cE c.P s f o)(ao:bg c E L x (.ptr b))(bk:l.off=o)(aR:l.get b=r):
 cf c E L ⟨d,.fieldAddr s x f,ty,pos,af,g⟩ (.ptr r):= .pure fun a W st=>by
 subst bk
 subst aR
 obtain⟨q,off,cur,T,hC,aZ,hb,cu,hs,gx⟩:=ao a W st
 refine⟨.pointer (some ⟨q,off+l.off,none⟩),by simp [execOp,aZ,N2 fd],q,off+l.off,cur,T,hC,rfl,hb,cu,by have:=l.gK;omega,?_⟩
 have:=l.iV gx
 rwa [vX _ _ _ _ _ l.gK] at this
structure qi (P:Program)(t:TypeId)(n s:Nat):Prop where
 at_:∃ e i,P.underlying t=some (.array n e)∧P.info? e=some i∧i.size=s
theorem Wl {P:Program}{t n s:Nat}(h:qi P t n s)(p off:Nat)(k:Nat)(hk:k<n)(W:World):
 (Instr.indexAt t (.pointer (some ⟨p,off,none⟩)) (.int .i64 (k:Int))).run P W= .ok (.pointer (some ⟨p,off+k * s,none⟩)) W:=by
 obtain⟨e,i,h1,ad,aD⟩:=h.at_
 simp [Instr.indexAt,asIntOf,run_underlying h1,Instr.sureAddr,Go.sizeOf,typeInfo,ad,aD,hk,jL]
theorem fM {x y:Operand}{t n s p off:Nat}{i:Int}{k:Nat}(ahh:qi c.P t n s)(ao:bg c E L x (.eq (.pointer (some ⟨p,off,none⟩))))(a7:bg c E L y (.of i))(hk:k<n∧i=k):
 cf c E L ⟨d,.indexAddr t x y,ty,pos,af,g⟩ (.eq (.pointer (some ⟨p,off+k * s,none⟩))):= .pure fun a W st=>by
 have aZ:a.eval x=_:=ao a W st
 have bc:=of_int.1 (a7 a W st)
 obtain⟨bu,rfl⟩:=hk
 exact⟨_,by simp [execOp,aZ,bc,Wl ahh p off k bu],rfl⟩
theorem ae.alloc {t:TypeId}{rest:List Oper}{bf:Nat}{α:Type}[ah α]{z:α}(hl:cR c.P t z)(aO:Nat.blt bf c.n=true)
 (k:∀ p,ae c ops Q rest ((bf,.eq (.pointer (some ⟨p,0,none⟩)))::E) (⟨some p,.var z⟩::L)):ae c ops Q (⟨some bf,.alloc t,ty,pos,af,none⟩::rest) E L:=fun a W s=>by
 obtain⟨i,eG,h1,ad,aD⟩:=hl.zero
 refine h3 rfl (R:=fun v W'=>v= .pointer (some ⟨W.heap.size,0,none⟩)∧W'=W.alloc (.cells eG.cells t)) (.kX ?_ ⟨rfl,rfl⟩) fun v W' ⟨a6,hw⟩=>?_
 ·simp [execOp,Instr.alloc,zeroValue,typeInfo,h1,ad,newVar,newRow]
 subst a6
 subst hw
 exact k _ _ _ ((s.alloc (cp:= .var z) ⟨eG.cells,t,rfl,(aD _ _).2⟩).put (by simpa using aO) rfl)
theorem qq {P:Program}{t:TypeId}{α:Type}[ah α]{z:α}(hl:cR P t z):MP P ⟨d,.alloc t,ty,pos,af,none⟩ (.var z):=by
 obtain⟨i,eG,h1,ad,aD⟩:=hl.zero;refine⟨rfl,.cells eG.cells t,fun A W=>⟨eG.cells,t,rfl,(aD A W).2⟩,fun a W=>?_⟩;simp [execOp,Instr.alloc,zeroValue,typeInfo,h1,ad,newVar,newRow]
theorem wF {x y:Operand}{t:TypeId}{i p o:Nat}{β γ:Type}[ah β][ah γ]{b b':β}{v:γ}(l:aI β γ)(eD:bG c.P t γ)(ao:bg c E L x (.eq (.pointer (some ⟨p,o,none⟩))))
 (a7:bg c E L y (.of v)) (ak:L[i]? =some ⟨some p,.var b⟩) (bk:o=l.off) (hb:l.set b v=b'):Eu c E L ⟨none,.store t x y,ty,pos,af,none⟩ p (.var b'):=⟨rfl,rfl,fun a W s=>by
 subst bk
 subst hb
 obtain⟨ky,eY,cs,T,rfl,gx⟩:=s.own _ (List.mem_of_getElem? ak)
 have h1:cs.toList.length=ah.size β:=ah.len gx
 have fc:=l.gK
 have a6:=a7 a W s
 have ad:=Bo (A:=aS L++c.b8) eD eY (off:=l.off) (by simp at h1;omega) a6
 have aZ:a.eval x=_:=ao a W s
 refine⟨cs,(gD cs.toList l.off (a.eval y).cells.toList).toArray,T,eY,?_,?_⟩
 ·simp [execOp,Instr.storeAt,Instr.sureAddr,aZ,ad]
 refine⟨_,T,rfl,?_⟩
 have:=l.lK gx a6.2
 simpa [gD,ah.len a6.2] using this⟩
theorem ae.box {t:TypeId}{x:Operand}{rest:List Oper}{bf:Nat}{α:Type}[ah α]{z:α}(ao:bg c E L x (.of z))(aO:Nat.blt bf c.n=true)
 (k:∀ p,ae c ops Q rest ((bf,.eq (.pointer (some ⟨p,0,none⟩)))::E) (⟨some p,.var z⟩::L)):ae c ops Q (⟨some bf,.box t x,ty,pos,af,none⟩::rest) E L:=fun a W s=>by
 refine h3 rfl (R:=fun v W'=>v= .pointer (some ⟨W.heap.size,0,none⟩)∧W'=W.alloc (.cells (a.eval x).cells t)) (.kX ?_ ⟨rfl,rfl⟩) fun v W' ⟨a6,hw⟩=>?_
 ·simp [execOp,Instr.box,newVar,newRow]
 subst a6
 subst hw
 exact k _ _ _ ((s.alloc (cp:= .var z) ⟨_,t,rfl,(ao a W s).2⟩).put (by simpa using aO) rfl)
theorem ae.store {x y:Operand}{t:TypeId}{rest:List Oper}{i p o:Nat}{β γ:Type}[ah β][ah γ]{b b':β}{v:γ}(l:aI β γ)(eD:bG c.P t γ)(ao:bg c E L x (.eq (.pointer (some ⟨p,o,none⟩))))
 (a7:bg c E L y (.of v)) (ak:L[i]? =some ⟨some p,.var b⟩) (bk:o=l.off) (hb:l.set b v=b')
 (k:ae c ops Q rest E (L.set i ⟨some p,.var b'⟩)):ae c ops Q (⟨none,.store t x y,ty,pos,af,none⟩::rest) E L:=fun a W s=>by
 subst bk
 subst hb
 obtain⟨ky,eY,cs,T,rfl,gx⟩:=s.own _ (List.mem_of_getElem? ak)
 have h1:cs.toList.length=ah.size β:=ah.len gx
 have fc:=l.gK
 have a6:=a7 a W s
 have ad:=Bo (A:=aS L++c.b8) eD eY (off:=l.off) (by simp at h1;omega) a6
 have aZ:a.eval x=_:=ao a W s
 refine h3 rfl (R:=fun v W'=>W'=W.setRow p (gD cs.toList l.off (a.eval y).cells.toList).toArray) (.yV ?_ rfl) fun v W' hw=>?_
 ·simp [execOp,Instr.storeAt,Instr.sureAddr,aZ,ad]
 subst hw
 refine k _ _ (s.store ak eY ?_)
 refine⟨_,T,rfl,?_⟩
 have:=l.lK gx a6.2
 simpa [gD,ah.len a6.2] using this
def ik (c:dt)(E:List (Nat×I))(L:List aN):List Operand→List I→Prop
 | [],[]=>True
 | x::xs,τ::τs=>bg c E L x τ∧ik c E L xs τs
 | _,_=>False
theorem ik.holds:∀ {xs:List Operand} {τs:List I},ik c E L xs τs→ ∀ a W,bM c E L a W→hc (aS L++c.b8) W τs (xs.map a.eval)
 | [],[],_,_,_,_=>.nil
 | x::xs,τ::τs,h,a,W,s=>.cons (h.1 a W s) (h.2.holds a W s)
 | [],_::_,h,_,_,_=>h.elim
 | _::_,[],h,_,_,_=>h.elim
structure bL (P:Program)(f:FuncId):Prop where
 at_:∃ fn,P.funcs[f]? =some fn∧fn.body.isNone=false∧ (fn.name== "runtime.NumGoroutine")=false
theorem bL.run {P:Program}{f:FuncId}(h:bL P f)(args:Array Value)(W:World):(callFunc f args).run P W= .ok (.enter f args) W:=by
 obtain⟨fn,h1,ad,aD⟩:=h.at_;simp only [callFunc,Sem.run_bind,run_program,Result.andThen_ok,h1,aD,ad];rfl
theorem iN {f:FuncId}{xs:List Operand}{ats:Array TypeId}{τs:List I}{ρ:I}(ew:bL c.P f)(h:bK c.P f τs ρ)(ao:ik c E L xs τs):
 cf c E L ⟨d,.call ⟨.value (.func f),xs.toArray,ats⟩,ty,pos,af,g⟩ ρ:=fun a W s=>by
 refine .wm (f:=f) (args:=(xs.map a.eval).toArray) (W':=W) ?_ (h _ W _ s.Gj (ao.holds a W s))
 simp [execOp,resolve,Deferred.ofValue,Act.eval,invoke,ew.run]
theorem rz {P:Program}{W:World}{t off:Nat}{cs:Array Value}{α:Type}[ah α]{A:List Nat}{x:α}(ty:bG P t α)(hs:off+ah.size α≤cs.size)
 (aR:ah.rep A W ((cs.toList.drop off).take (ah.size α)) x):∃ v,(part t cs off).run P W= .ok v W∧ (I.of x).holds A W v:=by
 have al:=ah.len aR
 cases bo:ah.agg α with
 | true=>
   refine⟨.agg (cs.extract off (off+ah.size α)),?_,?_,?_⟩
   ·simp [part,ty.isAgg,ty.sizeOf,bo]
   ·simp [shaped,bo]
   simpa [Value.cells,List.extract,Array.toList_extract] using aR
 | false=>
   have h1:ah.size α=1:=ah.flat bo
   have ct:off<cs.size:=by omega
   have ad:(cs.toList.drop off).take (ah.size α)= [cs[off]]:=by
    rw [h1];apply List.ext_getElem?;intro j;rw [List.getElem?_take,List.getElem?_drop];cases j with
    | zero=>simp [ct]
    | succ j=>simp
   rw [ad] at aR
   have aD:cs[off].oneCell'=true:=ah.one aR _ (by simp)
   refine⟨cs[off],?_,?_,?_⟩
   ·simp [part,ty.isAgg,bo,ct]
   ·simp [shaped,bo,aD]
   rw [cells_one aD];simpa using aR
structure MQ (P:Program)(s f t o:Nat):Prop where
 at_:∃ fs fd,P.underlying s=some (.struct fs)∧fs[f]? =some fd∧fd.offset=o∧fd.type=t
theorem Jp {x:Operand}{s f t o:Nat}{β γ:Type}[ah β][ah γ]{b:β}(l:aI β γ){r:γ}(ahi:MQ c.P s f t o)(eD:bG c.P t γ)(bo:ah.agg β=true)(ao:bg c E L x (.of b))(bk:l.off=o)(aR:l.get b=r):
 cf c E L ⟨d,.field s x f,ty,pos,af,g⟩ (.of r):= .pure fun a W st=>by
 subst bk
 subst aR
 obtain⟨h1,ad⟩:=ao a W st
 simp only [shaped,bo,if_true] at h1
 obtain⟨cs,qZ⟩:=h1
 obtain⟨fs,fd,aD,aZ,bc,bu⟩:=ahi.at_
 rw [qZ] at ad
 simp only [Value.cells] at ad
 have al:cs.toList.length=ah.size β:=ah.len ad
 obtain⟨v,dh,fk⟩:=rz (A:=aS L++c.b8) (P:=c.P) (W:=W) (cs:=cs) (off:=l.off) eD (by have:=l.gK;simp at al;omega) (l.iV ad)
 refine⟨v,?_,fk⟩
 simp [execOp,Instr.field,run_underlying aD,aZ,qZ,asAgg,bc,bu,dh]
theorem PB {x y:Operand}{t e n:Nat}{i:Int}{k:Nat}{α:Type}[ah α][Inhabited α]{v:Vector α n}(hu:c.P.underlying t=some (.array n e))(eD:bG c.P e α)(ao:bg c E L x (.of v))(a7:bg c E L y (.of i))(hk:k<n∧i=k):
 cf c E L ⟨d,.index t x y,ty,pos,af,g⟩ (.of (bF v k)):= .pure fun a W st=>by
 obtain⟨h1,ad⟩:=ao a W st
 obtain⟨cs,qZ⟩:∃ cs,a.eval x= .agg cs:=by simpa [shaped,ah.agg] using h1
 have bc:=of_int.1 (a7 a W st)
 obtain⟨bu,rfl⟩:=hk
 rw [qZ] at ad
 simp only [Value.cells] at ad
 have al:cs.toList.length=n * ah.size α:=ah.len ad
 have fc:=(aI.idx (α:=α) n k bu).gK
 obtain⟨u,dh,fk⟩:=rz (A:=aS L++c.b8) (P:=c.P) (W:=W) (cs:=cs) (off:=k * ah.size α) eD
  (by
   have:k * ah.size α+ah.size α≤n * ah.size α:=fc;simp at al;omega) ((aI.idx (α:=α) n k bu).iV ad)
 refine⟨u,?_,fk⟩
 simp [execOp,Instr.index,asIntOf,run_underlying hu,qZ,bc,bu,eD.sizeOf,dh]
theorem lN {x:Operand}{i:Nat}{τs:List I}{τ:I}(ao:bg c E L x (.eu τs))(ar:τs[i]? =some τ):cf c E L ⟨d,.extract x i,ty,pos,af,g⟩ τ:= .pure fun a W st=>by
 obtain⟨vs,h1,ad⟩:=ao a W st;have get:∀ {τs:List I} {vs:List Value},hc (aS L++c.b8) W τs vs→ ∀ (i:Nat) (τ:I),τs[i]? =some τ→ ∃ v,vs[i]? =some v∧τ.holds (aS L++c.b8) W v:=by
  intro τs vs h;induction h with
  | nil=>intro i τ h;simp at h
  | cons h1 _ b7=>
    intro i τ h
    cases i with
    | zero=>simp only [List.getElem?_cons_zero,Option.some.injEq] at h;subst h;exact⟨_,rfl,h1⟩
    | succ i=>simp only [List.getElem?_cons_succ] at h ⊢;exact b7 i τ h
 obtain⟨v,aD,aZ⟩:=get ad i τ ar;refine⟨v,?_,aZ⟩;have bc:vs[i]? =some v:=by simpa using aD
 simp [execOp,Instr.extract,h1,bc]
end
def bE (x:Int):Int:=IntKind.i64.wrap x
theorem hN {x:Int}(h: -9223372036854775808≤x)(df:x≤9223372036854775807):bE x=x:=by
 unfold bE;rw [IntKind.wrap_i64];omega
def u1 (a b:Int):Option Int:=if b=0 then none else some (a.tmod b)
theorem IW {a b r:Int}(h:u1 a b=some r):b≠0∧a.tmod b=r:=by unfold u1 at h;split at h <;> simp_all
theorem wrap_u8 (n:Int):IntKind.u8.wrap n=n % 256:=by simp [IntKind.wrap,IntKind.signed,IntKind.bits]
theorem wrap_u64 (n:Int):IntKind.u64.wrap n=n % 18446744073709551616:=by simp [IntKind.wrap,IntKind.signed,IntKind.bits]
theorem ZC (P:Program)(W:World)(k MR:IntKind)(a b:Int)(h:0≤b):(Op.shift .shl k a MR b).run P W= .ok (.int k (k.wrap (a * 2 ^ min b.toNat k.bits))) W:=by
 unfold Op.shift;rw [if_neg (by omega)];rfl
theorem ZD (P:Program)(W:World)(k MR:IntKind)(a b:Int)(h:0≤b):(Op.shift .shr k a MR b).run P W= .ok (.int k (a.fdiv (2 ^ min b.toNat k.bits))) W:=by
 unfold Op.shift;rw [if_neg (by omega)];rfl
section
variable {c:dt} {E:List (Nat×I)} {L:List aN}
variable {d:Option Tmp} {ty:TypeId} {pos:String} {af:Array Edge} {g:Option (Nat×Bool)} {x y:Operand} {t t2:TypeId}
theorem dw {a b:Int}(ao:bg c E L x (.of a))(a7:bg c E L y (.of b)):cf c E L ⟨d,.binOp .add t x y t2,ty,pos,af,g⟩ (.of (bE (a+b))):= .pure fun A W s=>
 ⟨.int .i64 (bE (a+b)),by simp [execOp,eqGuard,binOp,Op.intArith,of_int.1 (ao A W s),of_int.1 (a7 A W s),bE],of_int.2 rfl⟩
theorem kD {a b:Int}(ao:bg c E L x (.of a))(a7:bg c E L y (.of b)):cf c E L ⟨d,.binOp .sub t x y t2,ty,pos,af,g⟩ (.of (bE (a - b))):= .pure fun A W s=>
 ⟨.int .i64 (bE (a - b)),by simp [execOp,eqGuard,binOp,Op.intArith,of_int.1 (ao A W s),of_int.1 (a7 A W s),bE],of_int.2 rfl⟩
theorem abv {a b:Int}(ao:bg c E L x (.of a))(a7:bg c E L y (.of b)):cf c E L ⟨d,.binOp .mul t x y t2,ty,pos,af,g⟩ (.of (bE (a * b))):= .pure fun A W s=>
 ⟨.int .i64 (bE (a * b)),by simp [execOp,eqGuard,binOp,Op.intArith,of_int.1 (ao A W s),of_int.1 (a7 A W s),bE],of_int.2 rfl⟩
theorem Kf {a b r:Int}(ao:bg c E L x (.of a))(a7:bg c E L y (.of b))(h:b≠0∧a.tmod b=r):cf c E L ⟨d,.binOp .rem t x y t2,ty,pos,af,g⟩ (.of r):= .pure fun A W s=>
 ⟨.int .i64 r,by obtain⟨h1,rfl⟩:=h;simp [execOp,eqGuard,binOp,Op.intDiv,of_int.1 (ao A W s),of_int.1 (a7 A W s),h1],of_int.2 rfl⟩
theorem ej {a b:Int}(ao:bg c E L x (.of a))(a7:bg c E L y (.of b)):cf c E L ⟨d,.binOp .lss t x y t2,ty,pos,af,g⟩ (.of (decide (a<b))):= .pure fun A W s=>
 ⟨.bool (decide (a<b)),by simp only [execOp,eqGuard,binOp,of_int.1 (ao A W s),of_int.1 (a7 A W s)];rfl,of_bool.2 rfl⟩
theorem pW {a b:Int}(ao:bg c E L x (.of a))(a7:bg c E L y (.of b)):cf c E L ⟨d,.binOp .leq t x y t2,ty,pos,af,g⟩ (.of (decide (a≤b))):= .pure fun A W s=>
 ⟨.bool (decide (a≤b)),by simp only [execOp,eqGuard,binOp,of_int.1 (ao A W s),of_int.1 (a7 A W s)];rfl,of_bool.2 rfl⟩
theorem oD {a b:Int}(ao:bg c E L x (.of a))(a7:bg c E L y (.of b)):cf c E L ⟨d,.binOp .gtr t x y t2,ty,pos,af,g⟩ (.of (decide (a>b))):= .pure fun A W s=>
 ⟨.bool (decide (a>b)),by simp only [execOp,eqGuard,binOp,of_int.1 (ao A W s),of_int.1 (a7 A W s)];rfl,of_bool.2 rfl⟩
theorem kY {a b:Int}(ao:bg c E L x (.of a))(a7:bg c E L y (.of b)):cf c E L ⟨d,.binOp .geq t x y t2,ty,pos,af,g⟩ (.of (decide (a≥b))):= .pure fun A W s=>
 ⟨.bool (decide (a≥b)),by simp only [execOp,eqGuard,binOp,of_int.1 (ao A W s),of_int.1 (a7 A W s)];rfl,of_bool.2 rfl⟩
theorem e7 {a b:Int}(ao:bg c E L x (.of a))(a7:bg c E L y (.of b)):cf c E L ⟨d,.binOp .eql t x y t2,ty,pos,af,g⟩ (.of (a==b)):= .pure fun A W s=>
 ⟨.bool (a==b),by simp only [execOp,eqGuard,binOp,of_int.1 (ao A W s),of_int.1 (a7 A W s)];rfl,of_bool.2 rfl⟩
theorem oE {a b:Int}(ao:bg c E L x (.of a))(a7:bg c E L y (.of b)):cf c E L ⟨d,.binOp .neq t x y t2,ty,pos,af,g⟩ (.of (a !=b)):= .pure fun A W s=>
 ⟨.bool (a !=b),by simp only [execOp,eqGuard,binOp,of_int.1 (ao A W s),of_int.1 (a7 A W s)];rfl,of_bool.2 rfl⟩
theorem CJ {a b:Bool}(hu:c.P.underlying t=some .bool)(ao:bg c E L x (.of a))(a7:bg c E L y (.of b)):cf c E L ⟨d,.binOp .neq t x y t2,ty,pos,af,g⟩ (.of (a !=b)):= .pure fun A W s=>
 ⟨.bool (a !=b),by
   simp only [execOp,eqGuard,binOp,of_bool.1 (ao A W s),of_bool.1 (a7 A W s),Op.equal,Op.maxDepth];simp [run_equalIn_bool' W 9999 t a b hu,bne],of_bool.2 rfl⟩
theorem CA {a b:Int}{ats:Array TypeId}(ao:bg c E L x (.of a))(a7:bg c E L y (.of b)):cf c E L ⟨d,.call ⟨.builtin .min,#[x,y],ats⟩,ty,pos,af,g⟩ (.of (min a b)):= .pure fun A W s=>
 ⟨.int .i64 (min a b),by
   simp [execOp,resolve,invoke,builtin,Builtin.min_,Builtin.min2,of_int.1 (ao A W s),of_int.1 (a7 A W s)];split <;> omega,of_int.2 rfl⟩
theorem CB {a b:Int}{ats:Array TypeId}(ao:bg c E L x (.of a))(a7:bg c E L y (.of b)):cf c E L ⟨d,.call ⟨.builtin .max,#[x,y],ats⟩,ty,pos,af,g⟩ (.of (max a b)):= .pure fun A W s=>
 ⟨.int .i64 (max a b),by
   simp [execOp,resolve,invoke,builtin,Builtin.max_,Builtin.max2,of_int.1 (ao A W s),of_int.1 (a7 A W s)];split <;> omega,of_int.2 rfl⟩
theorem acL (a:BitVec 8):(a.toNat:Int)<256:=by have:=a.isLt;omega
theorem Rk {a:BitVec 8}{src dst:TypeId}{e:TypeDesc}(hs:c.P.underlying src=some e)(hd:c.P.underlying dst=some (.int .i64))(ao:bg c E L x (.of a)):cf c E L ⟨d,.convert src dst x,ty,pos,af,g⟩ (.of (a.toNat:Int)):= .pure fun A W s=>
 ⟨.int .i64 a.toNat,by
   have h:IntKind.i64.wrap (a.toNat:Int)=(a.toNat:Int):=hN (by omega) (by have:=acL a;omega);simp only [execOp,convert,Sem.run_bind,run_underlying hs,run_underlying hd,GK.1 (ao A W s),Conv.intToInt,Result.andThen_ok,h];rfl,of_int.2 rfl⟩
theorem y8 (a:BitVec 64):(a.toNat:Int)<18446744073709551616:=by have:=a.isLt;omega
theorem ofInt_u64 (a:BitVec 64):BitVec.ofInt 64 (a.toNat:Int)=a:=by simp
theorem ZE (a b:BitVec 64):IntKind.u64.wrap ((a.toNat:Int)+(b.toNat:Int))=((a+b).toNat:Int):=by rw [wrap_u64,BitVec.toNat_add];omega
theorem Zs {a b:BitVec 64}(ao:bg c E L x (.of a))(a7:bg c E L y (.of b)):cf c E L ⟨d,.binOp .add t x y t2,ty,pos,af,g⟩ (.of (a+b)):= .pure fun A W s=>
 ⟨.int .u64 (a+b).toNat,by simp [execOp,eqGuard,binOp,Op.intArith,gI.1 (ao A W s),gI.1 (a7 A W s),ZE],gI.2 rfl⟩
theorem ZF (a b:BitVec 64):IntKind.u64.wrap ((a.toNat:Int) - (b.toNat:Int))=((a - b).toNat:Int):=by rw [wrap_u64,BitVec.toNat_sub];have:=y8 a;have:=y8 b;omega
theorem uk {a b:BitVec 64}(ao:bg c E L x (.of a))(a7:bg c E L y (.of b)):cf c E L ⟨d,.binOp .sub t x y t2,ty,pos,af,g⟩ (.of (a - b)):= .pure fun A W s=>
 ⟨.int .u64 (a - b).toNat,by simp [execOp,eqGuard,binOp,Op.intArith,gI.1 (ao A W s),gI.1 (a7 A W s),ZF],gI.2 rfl⟩
theorem rA {a b:BitVec 64}(ao:bg c E L x (.of a))(a7:bg c E L y (.of b)):cf c E L ⟨d,.binOp .and t x y t2,ty,pos,af,g⟩ (.of (a&&&b)):= .pure fun A W s=>
 ⟨.int .u64 (a&&&b).toNat,by
   simp only [execOp,eqGuard,binOp,gI.1 (ao A W s),gI.1 (a7 A W s)];have h:IntKind.u64.wrap ((a&&&b).toNat:Int)=((a&&&b).toNat:Int):=by rw [wrap_u64];have:=y8 (a&&&b);omega
   rw [← h];conv=>rhs;rw [← ofInt_u64 a,← ofInt_u64 b]
   rfl,gI.2 rfl⟩
theorem pT {a b:BitVec 64}(ao:bg c E L x (.of a))(a7:bg c E L y (.of b)):cf c E L ⟨d,.binOp .or t x y t2,ty,pos,af,g⟩ (.of (a|||b)):= .pure fun A W s=>
 ⟨.int .u64 (a|||b).toNat,by
   simp only [execOp,eqGuard,binOp,gI.1 (ao A W s),gI.1 (a7 A W s)];have h:IntKind.u64.wrap ((a|||b).toNat:Int)=((a|||b).toNat:Int):=by rw [wrap_u64];have:=y8 (a|||b);omega
   rw [← h];conv=>rhs;rw [← ofInt_u64 a,← ofInt_u64 b]
   rfl,gI.2 rfl⟩
theorem PE {a b:BitVec 64}(ao:bg c E L x (.of a))(a7:bg c E L y (.of b)):cf c E L ⟨d,.binOp .xor t x y t2,ty,pos,af,g⟩ (.of (a ^^^ b)):= .pure fun A W s=>
 ⟨.int .u64 (a ^^^ b).toNat,by
   simp only [execOp,eqGuard,binOp,gI.1 (ao A W s),gI.1 (a7 A W s)];have h:IntKind.u64.wrap ((a ^^^ b).toNat:Int)=((a ^^^ b).toNat:Int):=by rw [wrap_u64];have:=y8 (a ^^^ b);omega
   rw [← h];conv=>rhs;rw [← ofInt_u64 a,← ofInt_u64 b]
   rfl,gI.2 rfl⟩
theorem Od {a b:BitVec 64}(ao:bg c E L x (.of a))(a7:bg c E L y (.of b)):cf c E L ⟨d,.binOp .andNot t x y t2,ty,pos,af,g⟩ (.of (a&&& ~~~b)):= .pure fun A W s=>
 ⟨.int .u64 (a&&& ~~~b).toNat,by
   simp only [execOp,eqGuard,binOp,gI.1 (ao A W s),gI.1 (a7 A W s)];have h:IntKind.u64.wrap ((a&&& ~~~b).toNat:Int)=((a&&& ~~~b).toNat:Int):=by rw [wrap_u64];have:=y8 (a&&& ~~~b);omega
   rw [← h];conv=>rhs;rw [← ofInt_u64 a,← ofInt_u64 b]
   rfl,gI.2 rfl⟩
theorem ZG (a:BitVec 64)(n:Nat):IntKind.u64.wrap ((a.toNat:Int) * 2 ^ min n 64)=((a <<< n).toNat:Int):=by
 rw [wrap_u64,BitVec.toNat_shiftLeft,Nat.shiftLeft_eq];rcases Nat.lt_or_ge n 64 with h | h
 ·rw [Nat.min_eq_left (by omega)];simp
 rw [Nat.min_eq_right h];have e:(a.toNat * 2 ^ n) % 2 ^ 64=0:=by
  rw [show n=64+(n - 64) by omega,Nat.pow_add];exact Nat.mod_eq_zero_of_dvd ⟨a.toNat * 2 ^ (n - 64),by rw [← Nat.mul_assoc,Nat.mul_comm a.toNat,Nat.mul_assoc]⟩
 rw [e];have aX:(2:Int) ^ 64=18446744073709551616:=by decide
 rw [aX];omega
theorem ZH (a:BitVec 64)(n:Nat):(a.toNat:Int).fdiv (2 ^ min n 64)=((a >>> n).toNat:Int):=by
 rw [BitVec.toNat_ushiftRight,Nat.shiftRight_eq_div_pow];have e:∀ m:Nat,(a.toNat:Int).fdiv (2 ^ m)=((a.toNat / 2 ^ m:Nat):Int):=by
  intro m;rw [show((2:Int) ^ m)=((2 ^ m:Nat):Int) by simp];rw [Int.fdiv_eq_ediv_of_nonneg _ (Int.natCast_nonneg _)];exact(Int.natCast_ediv _ _).symm
 rw [e];rcases Nat.lt_or_ge n 64 with h | h
 ·rw [Nat.min_eq_left (by omega)]
 rw [Nat.min_eq_right h];have h1:a.toNat / 2 ^ 64=0:=Nat.div_eq_of_lt a.isLt;have ad:a.toNat / 2 ^ n=0:=Nat.div_eq_of_lt (Nat.lt_of_lt_of_le a.isLt (Nat.pow_le_pow_right (by omega) h));rw [h1,ad]
theorem nd {a:BitVec 64}{b:BitVec 64}(ao:bg c E L x (.of a))(a7:bg c E L y (.of b)):cf c E L ⟨d,.binOp .shl t x y t2,ty,pos,af,g⟩ (.of (a <<< b.toNat)):= .pure fun A W s=>
 ⟨.int .u64 (a <<< b.toNat).toNat,by
   simp only [execOp,eqGuard,binOp,gI.1 (ao A W s),gI.1 (a7 A W s)];have h:=ZC c.P W .u64 .u64 a.toNat b.toNat (by omega);simp only [Int.toNat_natCast,IntKind.bits,ZG] at h;exact congrArg (fun r:Result Value=>r.andThen fun v w=>.ok (Next.value v) w) h,gI.2 rfl⟩
theorem rB {a:BitVec 64}{b:BitVec 64}(ao:bg c E L x (.of a))(a7:bg c E L y (.of b)):cf c E L ⟨d,.binOp .shr t x y t2,ty,pos,af,g⟩ (.of (a >>> b.toNat)):= .pure fun A W s=>
 ⟨.int .u64 (a >>> b.toNat).toNat,by
   simp only [execOp,eqGuard,binOp,gI.1 (ao A W s),gI.1 (a7 A W s)];have h:=ZD c.P W .u64 .u64 a.toNat b.toNat (by omega);simp only [Int.toNat_natCast,IntKind.bits,ZH] at h;exact congrArg (fun r:Result Value=>r.andThen fun v w=>.ok (Next.value v) w) h,gI.2 rfl⟩
theorem Pz {a b:BitVec 64}(ao:bg c E L x (.of a))(a7:bg c E L y (.of b)):cf c E L ⟨d,.binOp .lss t x y t2,ty,pos,af,g⟩ (.of (decide (a<b))):= .pure fun A W s=>
 ⟨.bool (decide (a<b)),by
   simp only [execOp,eqGuard,binOp,gI.1 (ao A W s),gI.1 (a7 A W s)];have h:decide ((a.toNat:Int)<(b.toNat:Int))=decide (a<b):=by simp [BitVec.lt_def,BitVec.le_def]
   rw [← h];rfl,of_bool.2 rfl⟩
theorem Jo {a b:BitVec 64}(ao:bg c E L x (.of a))(a7:bg c E L y (.of b)):cf c E L ⟨d,.binOp .geq t x y t2,ty,pos,af,g⟩ (.of (decide (a≥b))):= .pure fun A W s=>
 ⟨.bool (decide (a≥b)),by
   simp only [execOp,eqGuard,binOp,gI.1 (ao A W s),gI.1 (a7 A W s)];have h:decide ((a.toNat:Int)≥ (b.toNat:Int))=decide (a≥b):=by simp [BitVec.lt_def,BitVec.le_def]
   rw [← h];rfl,of_bool.2 rfl⟩
theorem yT {a b:BitVec 64}(ao:bg c E L x (.of a))(a7:bg c E L y (.of b)):cf c E L ⟨d,.binOp .eql t x y t2,ty,pos,af,g⟩ (.of (a==b)):= .pure fun A W s=>
 ⟨.bool (a==b),by
   simp only [execOp,eqGuard,binOp,gI.1 (ao A W s),gI.1 (a7 A W s)];have h:((a.toNat:Int)==(b.toNat:Int))=(a==b):=by
    rw [Bool.eq_iff_iff];simp [bne];exact⟨fun h=>BitVec.eq_of_toNat_eq (by omega),fun h=>by rw [h]⟩
   rw [← h];rfl,of_bool.2 rfl⟩
theorem PA {a b:BitVec 64}(ao:bg c E L x (.of a))(a7:bg c E L y (.of b)):cf c E L ⟨d,.binOp .neq t x y t2,ty,pos,af,g⟩ (.of (a !=b)):= .pure fun A W s=>
 ⟨.bool (a !=b),by
   simp only [execOp,eqGuard,binOp,gI.1 (ao A W s),gI.1 (a7 A W s)];have h:((a.toNat:Int) !=(b.toNat:Int))=(a !=b):=by
    rw [Bool.eq_iff_iff];simp [bne];exact⟨fun h=>fun e=>h (by rw [e]),fun h=>by intro e;exact h (BitVec.eq_of_toNat_eq (by omega))⟩
   rw [← h];rfl,of_bool.2 rfl⟩
theorem iM {a:Int}{src dst:TypeId}{e:TypeDesc}(hs:c.P.underlying src=some e)(hd:c.P.underlying dst=some (.int .u64))(ao:bg c E L x (.of a)):cf c E L ⟨d,.convert src dst x,ty,pos,af,g⟩ (.of (BitVec.ofInt 64 a)):= .pure fun A W s=>
 ⟨.int .u64 (BitVec.ofInt 64 a).toNat,by
   have h:IntKind.u64.wrap a=((BitVec.ofInt 64 a).toNat:Int):=by rw [wrap_u64,BitVec.toNat_ofInt];omega
   simp [execOp,convert,run_underlying hs,run_underlying hd,of_int.1 (ao A W s),Conv.intToInt,h],gI.2 rfl⟩
theorem Zo {a:BitVec 64}{src dst:TypeId}{e:TypeDesc}(hs:c.P.underlying src=some e)(hd:c.P.underlying dst=some (.int .u8))(ao:bg c E L x (.of a)):cf c E L ⟨d,.convert src dst x,ty,pos,af,g⟩ (.of (a.setWidth 8)):= .pure fun A W s=>
 ⟨.int .u8 (a.setWidth 8).toNat,by
   have h:IntKind.u8.wrap (a.toNat:Int)=((a.setWidth 8).toNat:Int):=by rw [wrap_u8,BitVec.toNat_setWidth];have:=a.isLt;omega
   simp only [execOp,convert,Sem.run_bind,run_underlying hs,run_underlying hd,gI.1 (ao A W s),Conv.intToInt,Result.andThen_ok,h];rfl,GK.2 rfl⟩
theorem aal {a:BitVec 64}{src dst:TypeId}{e:TypeDesc}(hs:c.P.underlying src=some e)(hd:c.P.underlying dst=some (.int .i64))(ao:bg c E L x (.of a)):cf c E L ⟨d,.convert src dst x,ty,pos,af,g⟩ (.of (bE a.toNat)):= .pure fun A W s=>
 ⟨.int .i64 (bE a.toNat),by
   simp only [execOp,convert,Sem.run_bind,run_underlying hs,run_underlying hd,gI.1 (ao A W s),Conv.intToInt,Result.andThen_ok];rfl,of_int.2 rfl⟩
end
def wH (tmps:Array Value):ResultVar→Sem Value
 | .tmp t=>pure (tmps.getD t undef)
 | .cell a t=>do loadVar t (← asAddr (tmps.getD a undef))
theorem wc (fn:Func)(tmps:Array Value):results fn tmps=(do
 let vs ← fn.results.mapM (wH tmps)
 pure (if h:vs.size=1 then vs[0] else .tuple vs)):=by
 unfold results
 congr 1
section
variable {c:dt} {E:List (Nat×I)} {L:List aN} {ops:Array Oper} {Q:Exit→Act→World→Prop}
def tI (c:dt)(E:List (Nat×I))(L:List aN)(r:ResultVar)(τ:I):Prop:=
 ∀ a W,bM c E L a W→ ∃ v,(wH a.tmps r).run c.P W= .ok v W∧τ.holds c.b8 W v
theorem uW {t:Nat}{τ:I}(h:look E t=some τ):tI c E L (.tmp t) τ:=fun a W s=>by
 obtain⟨v,h1,ad⟩:=s.env t τ h;exact⟨v,by simp [wH,h1],Oe ad⟩
theorem ae0 {t:Nat}{ty:TypeId}{i p:Nat}{α:Type}[ah α]{x:α}(eD:bG c.P ty α)(h:look E t=some (.eq (.pointer (some ⟨p,0,none⟩))))(ak:L[i]? =some ⟨some p,.var x⟩):tI c E L (.cell t ty) (.of x):=fun a W s=>by
 obtain⟨v,h1,ad⟩:=s.env t _ h;subst ad;obtain⟨ky,eY,cs,T,rfl,gx⟩:=s.own _ (List.mem_of_getElem? ak);have al:cs.toList.length=ah.size α:=ah.len gx;have ev:cs.size=ah.size α:=by simpa using al
 obtain⟨v,aD,aZ⟩:=vT (A:=aS L++c.b8) (off:=0) eD eY (by omega) (by rw [List.drop_zero,← al,List.take_length];exact gx);exact⟨v,by simp [wH,h1,asAddr,aD],Oe aZ⟩
def zI (c:dt)(ρ:I):Ending→World→Prop:=fun e W'=> ∃ v,e= .returned v∧Fr c.X c.jx W'∧ρ.holds c.b8 W' v
theorem aa.ji {fn:Func}{r:ResultVar}{τ:I}(aR:fn.results= #[r])(h:tI c E L r τ)(gT:c.ds= []:=by rfl):aa c (bodyPost c.P fn (zI c τ)) .ret E L:=fun a W s=>by
 obtain⟨v,h1,ad⟩:=h a W s;exact⟨s.wk gT,v,by simp [wc,aR,h1],v,rfl,s.dR,ad⟩
theorem aa.Dn {fn:Func}{r hA:ResultVar}{τ oR:I}(aR:fn.results= #[r,hA])(h:tI c E L r τ)(ad:tI c E L hA oR)(gT:c.ds= []:=by rfl):aa c (bodyPost c.P fn (zI c (.eu [τ,oR]))) .ret E L:=fun a W s=>by
 obtain⟨v,aD,aZ⟩:=h a W s;obtain⟨v2,bc,bu⟩:=ad a W s;exact⟨s.wk gT,.tuple #[v,v2],by simp [wc,aR,aD,bc],_,rfl,s.dR,_,rfl,.cons aZ (.cons bu .nil)⟩
theorem aa.Ta {fn:Func}{r hA oW:ResultVar}{τ oR D1:I}(aR:fn.results= #[r,hA,oW])(h:tI c E L r τ)(ad:tI c E L hA oR)(aD:tI c E L oW D1)(gT:c.ds= []:=by rfl):aa c (bodyPost c.P fn (zI c (.eu [τ,oR,D1]))) .ret E L:=fun a W s=>by
 obtain⟨v,aZ,bc⟩:=h a W s;obtain⟨v2,bu,dh⟩:=ad a W s;obtain⟨v3,fk,gz⟩:=aD a W s;exact⟨s.wk gT,.tuple #[v,v2,v3],by simp [wc,aR,aZ,bu,fk],_,rfl,s.dR,_,rfl,.cons bc (.cons dh (.cons gz .nil))⟩
theorem bK.of {P:Program}{f:FuncId}{fn:Func}{code:Code}{n:Nat}{τs:List I}{ρ:I}(bb:P.funcs[f]? =some fn)(hb:fn.body=some code)(aO:fn.ntmps=n)(hlen:Nat.ble τs.length n=true)
 (h:∀ W A,ag ⟨P,n,W,[],A,none,[]⟩ (bodyPost P fn (zI ⟨P,n,W,[],A,none,[]⟩ ρ)) code (params 0 τs) []):bK P f τs ρ:=bK.enter bb hb aO hlen h
end
structure mS (P:Program)(t:TypeId)(α:Type)[ah α][DecidableEq α](k:Nat):Prop where
 run:∀ d,k≤d→ ∀ A W u v (x y:α),(I.of x).holds A W u→ (I.of y).holds A W v→ (Op.equalIn d t u v).run P W= .ok (decide (x=y)) W
theorem PJ {P t K}(h:P.underlying t=some (.int K)):mS P t Int 1 where
 run d hd A W u v x y ao a7:=by
  obtain⟨d,rfl⟩:∃ e,d=e+1:=⟨d - 1,by omega⟩;rw [of_int.1 ao,of_int.1 a7,run_equalIn_int W d t .i64 K x y h];congr 1
theorem ZI {P t K}(h:P.underlying t=some (.int K)):mS P t (BitVec 64) 1 where
 run d hd A W u v x y ao a7:=by
  obtain⟨d,rfl⟩:∃ e,d=e+1:=⟨d - 1,by omega⟩;rw [gI.1 ao,gI.1 a7,run_equalIn_int W d t .u64 K _ _ h];congr 1;rw [Bool.eq_iff_iff];simp only [beq_iff_eq,decide_eq_true_eq];exact⟨fun h=>BitVec.eq_of_toNat_eq (by omega),fun h=>by rw [h]⟩
theorem YT {P t}(h:P.underlying t=some .bool):mS P t Bool 1 where
 run d hd A W u v x y ao a7:=by
  obtain⟨d,rfl⟩:∃ e,d=e+1:=⟨d - 1,by omega⟩;rw [of_bool.1 ao,of_bool.1 a7,run_equalIn_bool' W d t x y h];congr 1
theorem IE {P:Program}{W:World}(f:Nat→Sem Bool)(p:Nat→Bool):∀ (l:List Nat),(∀ i∈l,(f i).run P W= .ok (p i) W)→
 (forIn (m:=Sem) l ((none,()):Option Bool×Unit) (fun i _=>do
  let __do_lift ← f i
  if (!__do_lift)=true then pure (ForInStep.done (some false,())) else
   pure (ForInStep.yield (none,())))).run P W= .ok (if l.all p then(none,()) else(some false,())) W
 | [],_=>by simp
 | i::r,h=>by
   have h1:=h i (by simp);have ad:=IE (P:=P) (W:=W) f p r (fun j aF=>h j (by simp [aF]));cases hp:p i with
   | false=>simp [List.forIn_cons,h1,hp]
   | true=>
     rw [List.forIn_cons]
     simp only [Sem.run_bind,h1,hp,Result.andThen_ok,Bool.not_true,Bool.false_eq_true,if_false,Sem.run_pure]
     rw [ad]
     simp [hp]
theorem PK {P t e n k}{α:Type}[ah α][Inhabited α][DecidableEq α](h:P.underlying t=some (.array n e))(eZ:bG P e α)(he:mS P e α k):mS P t (Vector α n) (k+1) where
 run d hd A W u v x y ao a7:=by
  obtain⟨d,rfl⟩:∃ e,d=e+1:=⟨d - 1,by omega⟩;obtain⟨h1,ad⟩:=ao;obtain⟨aD,aZ⟩:=a7;obtain⟨xs,rfl⟩:∃ cs,u= .agg cs:=by simpa [shaped,ah.agg] using h1
  obtain⟨ys,rfl⟩:∃ cs,v= .agg cs:=by simpa [shaped,ah.agg] using aD
  simp only [Value.cells] at ad aZ;have ts:xs.toList.length=n * ah.size α:=ah.len ad;have D2:ys.toList.length=n * ah.size α:=ah.len aZ;have sX:∀ i∈List.range' 0 n,((do
   let a ← part e xs (i * ah.size α)
   let b ← part e ys (i * ah.size α)
   Op.equalIn d e a b):Sem Bool).run P W= .ok (decide (bF x i=bF y i)) W:=by
   intro i ar
   have hx:i<n:=by simpa using ar
   have fc:i * ah.size α+ah.size α≤n * ah.size α:=(aI.idx (α:=α) n i hx).gK
   obtain⟨a,bo,tt⟩:=rz (A:=A) (P:=P) (W:=W) (cs:=xs) (off:=i * ah.size α) eZ (by simp at ts;omega) ((aI.idx (α:=α) n i hx).iV ad)
   obtain⟨b,hb,D3⟩:=rz (A:=A) (P:=P) (W:=W) (cs:=ys) (off:=i * ah.size α) eZ (by simp at D2;omega) ((aI.idx (α:=α) n i hx).iV aZ)
   simp only [Sem.run_bind,bo,hb,Result.andThen_ok]
   exact he.run d (by omega) A W a b _ _ tt D3
  have bb:=IE (P:=P) (W:=W) _ _ _ sX;have k2:(List.range' 0 n).all (fun i=>decide (bF x i=bF y i))=decide (x=y):=by
   rw [Bool.eq_iff_iff,List.all_eq_true,decide_eq_true_eq];constructor
   ·intro h;apply Vector.ext;intro i ar;have:=h i (by simpa using ar);simpa [bF,ar] using this
   rintro rfl i _;simp
  rw [k2] at bb;simp only [Op.equalIn,Sem.run_bind,run_underlying h,Result.andThen_ok,eZ.sizeOf,Std.Legacy.Range.forIn_eq_forIn_range'];simp only [Std.Legacy.Range.size,Nat.sub_zero,Nat.add_one_sub_one,Nat.div_one] at bb ⊢;simp only [bind_assoc] at bb;rw [bb];by_cases D4:x=y
  ·simp [D4]
  simp [D4]
section
variable {c:dt} {E:List (Nat×I)} {L:List aN} {ops:Array Oper} {Q:Exit→Act→World→Prop}
variable {d:Option Tmp} {ty:TypeId} {pos:String} {af:Array Edge} {g:Option (Nat×Bool)} {x y:Operand} {t t2:TypeId}
theorem uH {α:Type}[ah α][DecidableEq α]{k:Nat}{a b:α}(xW:mS c.P t α k)(hk:Nat.ble k 10000=true)(bH:c.P.eqGuardType c.P.depth t=false)(bo:ah.agg α=true)(ao:bg c E L x (.of a))(a7:bg c E L y (.of b)):
 cf c E L ⟨d,.binOp .eql t x y t2,ty,pos,af,g⟩ (.of (decide (a=b))):= .pure fun A W s=>by
 have h1:=ao A W s
 have ad:=a7 A W s
 obtain⟨xs,h8⟩:∃ cs,A.eval x= .agg cs:=by simpa [shaped,bo] using h1.1
 obtain⟨ys,vn⟩:∃ cs,A.eval y= .agg cs:=by simpa [shaped,bo] using ad.1
 have aD:=xW.run 10000 (Nat.le_of_ble_eq_true hk) _ W _ _ a b h1 ad
 rw [h8,vn] at aD
 refine⟨.bool (decide (a=b)),?_,of_bool.2 rfl⟩
 simp only [execOp,h8,vn,Sem.run_bind,run_eqGuard_agg W .eql t x y xs ys bH,Result.andThen_ok,run_eql_struct,aD,Sem.run_pure]
theorem Gt {α:Type}[ah α][DecidableEq α]{k:Nat}{a b:α}(xW:mS c.P t α k)(hk:Nat.ble k 10000=true)(bH:c.P.eqGuardType c.P.depth t=false)(bo:ah.agg α=true)(ao:bg c E L x (.of a))(a7:bg c E L y (.of b)):
 cf c E L ⟨d,.binOp .neq t x y t2,ty,pos,af,g⟩ (.of (!decide (a=b))):= .pure fun A W s=>by
 have h1:=ao A W s
 have ad:=a7 A W s
 obtain⟨xs,h8⟩:∃ cs,A.eval x= .agg cs:=by simpa [shaped,bo] using h1.1
 obtain⟨ys,vn⟩:∃ cs,A.eval y= .agg cs:=by simpa [shaped,bo] using ad.1
 have aD:=xW.run 10000 (Nat.le_of_ble_eq_true hk) _ W _ _ a b h1 ad
 rw [h8,vn] at aD
 refine⟨.bool (!decide (a=b)),?_,of_bool.2 rfl⟩
 simp only [execOp,h8,vn,Sem.run_bind,run_eqGuard_agg W .neq t x y xs ys bH,Result.andThen_ok,run_neq_struct,aD,Sem.run_pure]
end
theorem PL {P:Program}{W:World}{d:Nat}{xs ys:Array Value} :(Op.eqFields d xs ys []).run P W= .ok true W:=rfl
theorem wo {P:Program}{A:List Nat}{W:World}{d:Nat}{xs ys:Array Value}{β γ:Type}[ah β][ah γ][DecidableEq γ](l:aI β γ){MS MT:β}{fd:Field}{fs:List Field}{k:Nat}{r:Bool}(eZ:bG P fd.type γ)(bk:fd.offset=l.off)(aO:(fd.name== "_")=false)
 (xW:mS P fd.type γ k) (hd:k≤d) (ao:ah.rep A W xs.toList MS) (a7:ah.rep A W ys.toList MT) (aR:(Op.eqFields d xs ys fs).run P W= .ok r W):
 (Op.eqFields d xs ys (fd::fs)).run P W= .ok (decide (l.get MS=l.get MT)&&r) W:=by
 have ts:xs.toList.length=ah.size β:=ah.len ao
 have D2:ys.toList.length=ah.size β:=ah.len a7
 have fc:=l.gK
 obtain⟨a,bo,tt⟩:=rz (A:=A) (P:=P) (W:=W) (cs:=xs) (off:=l.off) eZ (by simp at ts;omega) (l.iV ao)
 obtain⟨b,hb,D3⟩:=rz (A:=A) (P:=P) (W:=W) (cs:=ys) (off:=l.off) eZ (by simp at D2;omega) (l.iV a7)
 have tu:fd.name≠ "_" :=fun e=>by rw [e] at aO;simp at aO
 simp only [Op.eqFields,if_pos tu,Sem.run_bind,bk,bo,hb,Result.andThen_ok,xW.run d hd A W a b _ _ tt D3]
 by_cases h:l.get MS=l.get MT
 ·simp [h,aR]
 simp [h]
theorem Og {P:Program}{t:TypeId}{β:Type}[ah β][DecidableEq β]{k:Nat}{fs:Array Field}(bo:ah.agg β=true)(hu:P.underlying t=some (.struct fs))(hp:P.stoodInHeld t=false)
 (h:∀ d,k≤d→ ∀ A W (xs ys:Array Value) (x y:β),ah.rep A W xs.toList x→ah.rep A W ys.toList y→ (Op.eqFields d xs ys fs.toList).run P W= .ok (decide (x=y)) W):mS P t β (k+1) where
 run d hd A W u v x y ao a7:=by
  obtain⟨d,rfl⟩:∃ e,d=e+1:=⟨d - 1,by omega⟩;obtain⟨xs,rfl⟩:∃ cs,u= .agg cs:=by simpa [shaped,bo] using ao.1
  obtain⟨ys,rfl⟩:∃ cs,v= .agg cs:=by simpa [shaped,bo] using a7.1
  have bb:P.fieldsOf t=fs:=by simp [Program.fieldsOf,hu]
  rw [run_equalIn_struct W d t xs ys (by rw [bb];exact hu) hp,bb];exact h d (by omega) A W xs ys x y (by simpa [Value.cells] using ao.2) (by simpa [Value.cells] using a7.2)
theorem NN {P:Program}{W:World}(fs:Array Field)(h:fs.all (fun f=>(P.info? f.type).isSome)=true):
 (fs.mapM (m:=Sem) fun f=>do pure (f.offset,← Go.sizeOf f.type)).run P W= .ok (fs.map fun f=>(f.offset,P.cellsOf f.type)) W:=by
 obtain⟨l⟩:=fs
 have key:∀ (l:List Field),l.all (fun f=>(P.info? f.type).isSome)=true→ (l.mapM (m:=Sem) fun f=>do pure (f.offset,← Go.sizeOf f.type)).run P W= .ok (l.map fun f=>(f.offset,P.cellsOf f.type)) W:=by
  intro l;induction l with
  | nil=>intro _;rfl
  | cons f r b7=>
    intro h
    simp only [List.all_cons,Bool.and_eq_true] at h
    obtain⟨i,ar⟩:=Option.isSome_iff_exists.1 h.1
    rw [List.mapM_cons]
    simp only [Sem.run_bind,Go.sizeOf,typeInfo,run_program,Result.andThen_ok,ar,Sem.run_pure]
    have:=b7 h.2
    simp only [Sem.run_bind,Go.sizeOf,typeInfo] at this
    rw [this]
    simp [Program.cellsOf,ar]
 have df:l.all (fun f=>(P.info? f.type).isSome)=true:=by simpa using h
 rw [List.mapM_toArray]
 simp only [Sem.run_map,key l df,Result.andThen_ok]
 simp
theorem W5 (ds:List Value)(off:Nat):∀ (j:Nat) (cs:Array Value),off+j+ds.length≤cs.size→
 (ds.zipIdx j).foldl (fun cs (c,j)=>cs.setIfInBounds (off+j) c) cs=(cs.toList.take (off+j)++ds++cs.toList.drop (off+j+ds.length)).toArray:=by
 induction ds with
 | nil=>intro j cs _;simp
 | cons v r b7=>
   intro j cs h
   simp only [List.length_cons] at h
   rw [List.zipIdx_cons,List.foldl_cons,b7 (j+1) _ (by simp;omega)]
   simp only [Array.toList_setIfInBounds]
   have:=list_seg_step cs.toList (off+j) v r (by simp;omega)
   rw [show off+(j+1)=off+j+1 by omega]
   simp only [List.length_cons]
   rw [this]
theorem FU {place:Nat→Option (Nat×Nat)}{cs:Array Value}{i off sz:Nat}{v:Value}{rest:List (Nat×Value)}(hp:place i=some (off,sz))(a6:v.cells.size=sz)(hle:off+sz≤cs.size):
 Instr.fill place cs ((i,v)::rest)=Instr.fill place (gD cs.toList off v.cells.toList).toArray rest:=by
 simp only [Instr.fill,hp]
 rw [if_neg (by simp [a6];omega)]
 have:=W5 v.cells.toList off 0 cs (by simp [a6];omega)
 simp only [Nat.add_zero] at this
 congr 1
 rw [← Array.foldl_toList]
 have dS:(v.cells.zipIdx).toList=v.cells.toList.zipIdx:=by simp
 rw [dS,this]
 simp [gD]
section
variable {c:dt} {E:List (Nat×I)} {L:List aN} {ops:Array Oper} {Q:Exit→Act→World→Prop}
variable {d:Option Tmp} {ty:TypeId} {pos:String} {af:Array Edge} {g:Option (Nat×Bool)} {x y:Operand} {t t2:TypeId}
inductive rP (c:dt)(E:List (Nat×I))(L:List aN)(place:Nat→Option (Nat×Nat)){β:Type}[ah β]:β→List (Nat×Operand)→β→Prop
 | nil {b} :rP c E L place b [] b
 | cons {b dM b':β} {γ:Type} [ah γ] {v:γ} {i:Nat} {x:Operand} {r:List (Nat×Operand)} (l:aI β γ):place i=some (l.off,ah.size γ)→bg c E L x (.of v)→l.set b v=dM→rP c E L place dM r b'→rP c E L place b ((i,x)::r) b'
theorem rP.run {place:Nat→Option (Nat×Nat)}{β:Type}[ah β]{b b':β}{bC:List (Nat×Operand)}(h:rP c E L place b bC b'):∀ a W,bM c E L a W→ ∀ cs:Array Value,ah.rep (aS L++c.b8) W cs.toList b→
 ∃ en,Instr.fill place cs (bC.map fun(i,x)=>(i,a.eval x))=some en∧ah.rep (aS L++c.b8) W en.toList b':=by
 induction h with
 | nil=>intro a W s cs aR;exact⟨cs,rfl,aR⟩
 | @cons b dM b' γ _ v i x r l h1 ad aD _ b7=>
   intro a W s cs aR
   subst aD
   have a6:=ad a W s
   have ev:(a.eval x).cells.size=ah.size γ:=by have:=ah.len a6.2;simpa using this
   have al:cs.toList.length=ah.size β:=ah.len aR
   have fc:=l.gK
   rw [List.map_cons,FU h1 ev (by simp at al;omega)]
   refine b7 a W s _ ?_
   have:=l.lK aR a6.2
   simpa [gD,ah.len a6.2] using this
structure ic (P:Program)(t:TypeId)(pl:Array (Nat×Nat)):Prop where
 at_:∃ fs,P.underlying t=some (.struct fs)∧fs.all (fun f=>(P.info? f.type).isSome)=true∧ (fs.map fun f=>(f.offset,P.cellsOf f.type))=pl
theorem dp {β:Type}[ah β]{z b:β}{bC:List (Nat×Operand)}{pl:Array (Nat×Nat)}(bo:ah.agg β=true)(Ev:ic c.P t pl)(hl:cR c.P t z)
 (bb:rP c E L (pl[·]?) z bC b):cf c E L ⟨d,.build t bC.toArray,ty,pos,af,g⟩ (.of b):= .pure fun a W s=>by
 obtain⟨fs,hu,hs,rfl⟩:=Ev.at_
 obtain⟨i,eG,h1,ad,aD⟩:=hl.zero
 obtain⟨en,aZ,bc⟩:=bb.run a W s eG.cells (aD _ _).2
 refine⟨.agg en,?_,by simp [shaped,bo],by simpa [Value.cells] using bc⟩
 have hm:(bC.toArray.map fun(x:Nat×Operand)=>(x.1,a.eval x.2)).toList=bC.map fun(i,x)=>(i,a.eval x):=by simp
 simp only [execOp,Instr.build,Sem.run_bind,zeroValue,typeInfo,run_program,Result.andThen_ok,h1,ad,Sem.run_pure,run_underlying hu,NN fs hs]
 rw [hm,aZ]
 rfl
theorem YH {β:Type}[ah β]{z b:β}{bC:List (Nat×Operand)}{n e sz:Nat}(bo:ah.agg β=true)(hu:c.P.underlying t=some (.array n e))(hs:(c.P.info? e).map (·.size)=some sz)(hl:cR c.P t z)
 (bb:rP c E L (fun i=>some (i * sz,sz)) z bC b):cf c E L ⟨d,.build t bC.toArray,ty,pos,af,g⟩ (.of b):= .pure fun a W s=>by
 obtain⟨i,eG,h1,ad,aD⟩:=hl.zero
 obtain⟨gG,eM,ev⟩:∃ gG,c.P.info? e=some gG∧gG.size=sz:=by
  cases ar:c.P.info? e with
  | none=>simp [ar] at hs
  | some gG=>exact⟨gG,rfl,by simpa [ar] using hs⟩
 obtain⟨en,aZ,bc⟩:=bb.run a W s eG.cells (aD _ _).2
 refine⟨.agg en,?_,by simp [shaped,bo],by simpa [Value.cells] using bc⟩
 have hm:(bC.toArray.map fun(x:Nat×Operand)=>(x.1,a.eval x.2)).toList=bC.map fun(i,x)=>(i,a.eval x):=by simp
 simp only [execOp,Instr.build,Sem.run_bind,zeroValue,typeInfo,run_program,Result.andThen_ok,h1,ad,Sem.run_pure,run_underlying hu,Go.sizeOf,eM,ev]
 rw [hm,aZ]
 rfl
end
def oX {α:Type}[ah α](A:List Nat)(W:World)(v:Value)(xs:List α):Prop:=
 (v= .slice none 0 0∧xs= [])∨
 ∃ b off cap cur T hC,v= .slice (some ⟨b,off,none⟩) xs.length cap∧b ∉ A∧W.heap[b]? =some (.cells cur T hC)∧xs.length≤cap∧xs.length≤maxLen∧off+xs.length * ah.size α≤cur.size∧
   hg A W ((cur.toList.drop off).take (xs.length * ah.size α)) xs
theorem oX.mono {α:Type}[ah α]{A W c8 W' v}{xs:List α}(e:Ext A W c8 W')(h:oX A W v xs):oX c8 W' v xs:=by
 rcases h with h | ⟨b,off,cap,cur,T,hC,h1,ad,aD,aZ,bc,bu,dh⟩
 ·exact .inl h
 have ct:b<W.heap.size:=(Array.getElem?_eq_some_iff.1 aD).1;exact .inr ⟨b,off,cap,cur,T,hC,h1,fun hm=>ad (e.new b hm ct),by rw [e.block b ct ad];exact aD,aZ,bc,bu,dh.mono e⟩
instance ahv {α:Type} [ah α]:ah (List α) where
 size:=1
 agg:=false
 rep A W cs xs:= ∃ v,cs= [v]∧oX A W v xs
 len h:=by obtain⟨v,rfl,_⟩:=h;rfl
 one h:=by
  obtain⟨v,rfl,h⟩:=h;intro u hu;rw [List.mem_singleton.1 hu];rcases h with⟨rfl,_⟩ | ⟨b,off,cap,cur,T,hC,rfl,_⟩ <;> rfl
 flat _:=rfl
 mono e h:=let⟨v,h1,ad⟩:=h; ⟨v,h1,ad.mono e⟩
theorem oX.one {α:Type}[ah α]{A W v}{xs:List α}(h:oX A W v xs):v.oneCell'=true:=by
 rcases h with⟨rfl,_⟩ | ⟨b,off,cap,cur,T,hC,rfl,_⟩ <;> rfl
theorem nM {α:Type}[ah α]{A W v}{xs:List α} :(I.of xs).holds A W v↔oX A W v xs:=by
 constructor
 ·rintro ⟨h1,u,ad,aD⟩;have:v=u:=o5 h1 ad;rw [this];exact aD
 intro h;exact⟨h.one,v,by rw [cells_one h.one],h⟩
def ay {α:Type}[Inhabited α](xs:List α)(k:Nat):α:=xs[k]?.getD default
theorem eU {α:Type}[Inhabited α](xs:List α){k:Nat}(h:k<xs.length):ay xs k=xs[k]:=by simp [ay,h]
def qz {α:Type}(xs:List α)(lo ar:Int):Option (List α):=if 0≤lo∧lo≤ar∧ar≤xs.length then some ((xs.drop lo.toNat).take (ar.toNat - lo.toNat)) else none
theorem W6 {α:Type}{xs r:List α}{lo ar:Int}(h:qz xs lo ar=some r):∃ a b:Nat,lo=a∧ar=b∧a≤b∧b≤xs.length∧r=(xs.drop a).take (b - a):=by
 unfold qz at h;split at h
 ·rename_i aj;simp only [Option.some.injEq] at h;exact⟨lo.toNat,ar.toNat,by omega,by omega,by omega,by omega,h.symm⟩
 cases h
def hf {α:Type}(bytes:Nat)(xs ys:List α):Option (List α):=if (xs.length+ys.length) * bytes≤140737488355328∧xs.length+ys.length≤maxLen then some (xs++ys) else none
theorem OC {α:Type}{bytes:Nat}{xs ys r:List α}(h:hf bytes xs ys=some r):(xs.length+ys.length) * bytes≤140737488355328∧xs.length+ys.length≤maxLen∧r=xs++ys:=by
 unfold hf at h;split at h
 ·rename_i aj;simp only [Option.some.injEq] at h;exact⟨aj.1,aj.2,h.symm⟩
 cases h
section
variable {c:dt} {E:List (Nat×I)} {L:List aN} {ops:Array Oper} {Q:Exit→Act→World→Prop}
variable {d:Option Tmp} {ty:TypeId} {pos:String} {af:Array Edge} {g:Option (Nat×Bool)} {x y:Operand} {t t2:TypeId}
theorem look_nil {α:Type}[ah α]:bg c E L (.const (.slice none 0 0)) (.of ([]:List α)):=fun _ _ _=>nM.2 (.inl ⟨rfl,rfl⟩)
theorem oX.len {α:Type}[ah α]{A W v}{xs:List α}(h:oX A W v xs):∃ a cap,v= .slice a xs.length cap:=by
 rcases h with⟨rfl,rfl⟩ | ⟨b,off,cap,cur,T,hC,rfl,_⟩
 ·exact⟨none,0,rfl⟩
 exact⟨_,_,rfl⟩
theorem ea {α:Type}[ah α]{xs:List α}{e:TypeId}(hu:c.P.underlying t=some (.slice e))(ao:bg c E L x (.of xs)):cf c E L ⟨d,.call ⟨.builtin .len,#[x],#[t]⟩,ty,pos,af,g⟩ (.of (xs.length:Int)):= .pure fun a W s=>by
 obtain⟨b,cap,h1⟩:=(nM.1 (ao a W s)).len;exact⟨.int .i64 xs.length,by simp [execOp,resolve,invoke,builtin,Builtin.len_,h1,run_underlying hu,goInt],of_int.2 rfl⟩
theorem qD {α:Type}[ah α][Inhabited α]{xs:List α}{e:TypeId}{i:Int}{k:Nat}(hu:c.P.underlying t=some (.slice e))(eZ:bG c.P e α)(ao:bg c E L x (.of xs))(a7:bg c E L y (.of i))(hk:k<xs.length∧i=k):
 cf c E L ⟨d,.indexAddr t x y,ty,pos,af,g⟩ (.ptr (ay xs k)):= .pure fun a W s=>by
 obtain⟨bu,rfl⟩:=hk
 have bc:=of_int.1 (a7 a W s)
 rcases nM.1 (ao a W s) with⟨_,rfl⟩ | ⟨b,off,cap,cur,T,hC,h1,ad,aD,aZ,dh,fk,gz⟩
 ·simp at bu
 obtain⟨gG,eM,ev⟩:=eZ.info
 have hle:(k+1) * ah.size α≤xs.length * ah.size α:=Nat.mul_le_mul_right _ bu
 rw [Nat.succ_mul] at hle
 refine⟨.pointer (some ⟨b,off+k * ah.size α,none⟩),?_,b,off+k * ah.size α,cur,T,hC,rfl,ad,aD,by omega,?_⟩
 ·simp [execOp,Instr.indexAt,asIntOf,run_underlying hu,h1,bc,bu,Go.sizeOf,typeInfo,eM,ev,jL]
 have:=gz.2 k bu
 rw [vX _ _ _ _ _ hle] at this
 rw [eU xs bu]
 exact this
theorem pN {P:Program}{W:World}{v:Value}{k:IntKind}{n m:Nat}{code:BoundsCode}(h:n≤m)(a6:v= .int k n):(Instr.sliceBound v m code).run P W= .ok n W:=by
 subst a6;have bR:(n:Int)≤ (m:Int):=by omega
 simp [Instr.sliceBound,asIntOf,h]
theorem ZJ {α:Type}[ah α]{A W}{xs:List α}{b off cap:Nat}{cur:Array Value}{T:TypeId}{hC:Nat×Nat}{lo ar:Nat}(ad:b ∉ A)(aD:W.heap[b]? =some (.cells cur T hC))(aZ:xs.length≤cap)(dh:xs.length≤maxLen)
 (fk:off+xs.length * ah.size α≤cur.size) (gz:hg A W ((cur.toList.drop off).take (xs.length * ah.size α)) xs) (h:lo≤ar) (df:ar≤xs.length):
 oX A W (.slice (some (if cap=lo then⟨b,off,none⟩ else⟨b,off+lo * ah.size α,none⟩)) (ar - lo) (cap - lo)) ((xs.drop lo).take (ar - lo)):=by
 have al:((xs.drop lo).take (ar - lo)).length=ar - lo:=by simp;omega
 have hm:ar * ah.size α≤xs.length * ah.size α:=Nat.mul_le_mul_right _ df
 have mR:lo * ah.size α≤ar * ah.size α:=Nat.mul_le_mul_right _ h
 have hd:(ar - lo) * ah.size α=ar * ah.size α - lo * ah.size α:=Nat.sub_mul _ _ _
 by_cases e:cap=lo
 ·subst e
  have bR:ar=cap:=by omega
  subst bR
  refine .inr ⟨b,off,ar - ar,cur,T,hC,by simp,ad,aD,by simp,by simp,by simp;omega,?_⟩
  simp only [Nat.sub_self,List.take_zero,List.length_nil,Nat.zero_mul]
  exact⟨by simp,fun i ar=>by simp at ar⟩
 rw [if_neg e]
 refine .inr ⟨b,off+lo * ah.size α,cap - lo,cur,T,hC,by rw [al],ad,aD,by omega,by omega,by rw [al];omega,?_⟩
 rw [al]
 refine⟨by simp only [al,List.length_take,List.length_drop];simp;omega,fun i hx=>?_⟩
 rw [al] at hx
 have kO:=gz.2 (lo+i) (by omega)
 have hle:(lo+i+1) * ah.size α≤xs.length * ah.size α:=Nat.mul_le_mul_right _ (by omega)
 have G0:(i+1) * ah.size α≤ (ar - lo) * ah.size α:=Nat.mul_le_mul_right _ (by omega)
 rw [Nat.succ_mul] at hle G0
 rw [vX _ _ _ _ _ hle] at kO
 rw [vX _ _ _ _ _ G0]
 have:((xs.drop lo).take (ar - lo))[i]'(by rw [al];exact hx)=xs[lo+i]:=by simp
 rw [this]
 rw [show off+lo * ah.size α+i * ah.size α=off+(lo+i) * ah.size α by rw [Nat.add_mul];omega]
 exact kO
inductive vC (c:dt)(E:List (Nat×I))(L:List aN):Option Operand→Int→Int→Prop
 | none {n} :vC c E L .none n n
 | some {x i n} :bg c E L x (.of (i:Int))→vC c E L (.some x) i n
theorem FY {α:Type}[ah α]{xs r:List α}{e:TypeId}{lo ar:Option Operand}{i j:Int}(hu:c.P.underlying t=some (.slice e))(eZ:bG c.P e α)(ao:bg c E L x (.of xs))(hy:vC c E L lo i 0)(eL:vC c E L ar j xs.length)
 (h:qz xs i j=some r):cf c E L ⟨d,.slice t x lo ar none,ty,pos,af,g⟩ (.of r):= .pure fun a W s=>by
 obtain⟨m,n,rfl,rfl,rY,aO,rfl⟩:=W6 h
 obtain⟨gG,eM,ev⟩:=eZ.info
 rcases nM.1 (ao a W s) with⟨h1,rfl⟩ | ⟨b,off,cap,cur,T,hC,h1,ad,aD,aZ,dh,fk,gz⟩
 ·have r4:n=0:=by simpa using aO
  have hi:m=0:=by omega
  subst r4
  subst hi
  refine⟨.slice none 0 0,?_,nM.2 (.inl ⟨rfl,by simp⟩)⟩
  have ak:(match lo.map a.eval with | some v=>Instr.sliceBound v 0 .sliceB | none=>pure 0:Sem Nat).run c.P W= .ok 0 W:=by
   cases hy with
   | none=>rfl
   | some al=>exact pN (Nat.le_refl _) (of_int.1 (al a W s))
  have hH:(match ar.map a.eval,(none:Option Value) with | some v,some _=>Instr.sliceBound v 0 .slice3B | some v,none=>Instr.sliceBound v 0 .sliceAcap | none,none=>pure 0 | none,some _=>stuck "Slice: max without high" :Sem Nat).run c.P W= .ok 0 W:=by
   cases eL with
   | none=>rfl
   | some al=>exact pN (Nat.le_refl _) (of_int.1 (al a W s))
  cases hy <;> cases eL
  all_goals
   simp only [execOp,Instr.sliceAt,Instr.slice,Instr.sliceBounds,h1,Sem.run_bind,run_underlying hu,Result.andThen_ok,Option.map_none,Option.map_some,Option.isSome_none,Bool.false_eq_true,if_false,if_true,Sem.run_pure] at ak hH ⊢
   try simp only [ak,hH,Result.andThen_ok,Go.sizeOf,typeInfo,Sem.run_bind,run_program,eM,Sem.run_pure]
   try simp [eM]
 refine⟨.slice (some (if cap=m then⟨b,off,none⟩ else⟨b,off+m * ah.size α,none⟩)) (n - m) (cap - m),?_,nM.2 (ZJ ad aD aZ dh fk gz rY aO)⟩
 have ak:∀ v,v=Value.int .i64 m→ (Instr.sliceBound v n .sliceB).run c.P W= .ok m W:=fun v a6=>pN rY a6
 have hH:∀ v,v=Value.int .i64 n→ (Instr.sliceBound v cap .sliceAcap).run c.P W= .ok n W:=fun v a6=>pN (by omega) a6
 have DC:(if cap=m then(some ⟨b,off,none⟩:Option Addr) else(some (Addr.add ⟨b,off,none⟩ (m * ah.size α))))=some (if cap=m then⟨b,off,none⟩ else⟨b,off+m * ah.size α,none⟩):=by
  split <;> simp [jL]
 generalize fc:(n:Int)=Uv at eL
 generalize D5:(m:Int)=Uw at hy
 generalize D6:(xs.length:Int)=Ux at eL
 generalize TR:(0:Int)=Uy at hy
 cases hy with
 | none=>
   have hi:m=0:=by omega
   cases eL with
   | none=>
     have ly:n=xs.length:=by omega
     subst ly
     subst hi
     simp [execOp,Instr.sliceAt,Instr.slice,Instr.sliceBounds,h1,run_underlying hu,Go.sizeOf,typeInfo,eM,ev,jL]
   | some al=>
     have bc:=of_int.1 (al a W s)
     rw [← fc] at bc
     have bu:=hH _ bc
     subst hi
     simp [execOp,Instr.sliceAt,Instr.slice,Instr.sliceBounds,h1,run_underlying hu,Go.sizeOf,typeInfo,eM,ev,jL,bu]
 | some al=>
   have bc:=of_int.1 (al a W s)
   rw [← D5] at bc
   have bu:=ak _ bc
   cases eL with
   | none=>
     have ly:n=xs.length:=by omega
     subst ly
     simp only [execOp,Instr.sliceAt,Instr.slice,Instr.sliceBounds,h1,Sem.run_bind,run_underlying hu,Result.andThen_ok,Option.map_none,Option.map_some,Option.isSome_none,Bool.false_eq_true,if_false,if_true,Sem.run_pure,bu,Go.sizeOf,typeInfo,run_program,eM,ev]
     rw [← DC]
   | some iB=>
     have TS:=of_int.1 (iB a W s)
     rw [← fc] at TS
     have afZ:=hH _ TS
     simp only [execOp,Instr.sliceAt,Instr.slice,Instr.sliceBounds,h1,Sem.run_bind,run_underlying hu,Result.andThen_ok,Option.map_none,Option.map_some,Option.isSome_none,Bool.false_eq_true,if_false,if_true,Sem.run_pure,bu,afZ,Go.sizeOf,typeInfo,run_program,eM,ev]
     rw [← DC]
end
def aW:Option Nat→Nat→Nat→Value
 | some p,n,cap=>.slice (some ⟨p,0,none⟩) n cap
 | none,_,_=>.slice none 0 0
theorem W7 {L:List aN}{i:Nat}{cp:dV} :∀ k∈aS (L.set i ⟨none,cp⟩),∃ j e,j≠i∧L[j]? =some e∧e.key=some k:=by
 intro k hk;obtain⟨e,he,vl⟩:=lM.1 hk;obtain⟨j,aF⟩:=List.mem_iff_getElem?.1 he;rw [List.getElem?_set] at aF;split at aF
 ·split at aF
  ·simp only [Option.some.injEq] at aF;subst aF;cases vl
  cases aF
 rename_i da;exact⟨j,e,fun h=>da h.symm,aF,vl⟩
theorem yy {L:List aN}{i:Nat}{cp:dV} :aS (L.set i ⟨none,cp⟩) |>.Sublist (aS L):=by
 induction L generalizing i with
 | nil=>simp [aS]
 | cons x r b7=>
   cases i with
   | zero=>
     cases hk:x.key with
     | none=>simp [aS,hk]
     | some p=>simp [aS,hk]
   | succ i=>
     cases hk:x.key with
     | none=>simpa [aS,hk] using b7
     | some p=>simpa [aS,hk] using b7
theorem bM.kill {c E L a W}(h:bM c E L a W)(i:Nat):bM c E (L.set i ⟨none,.dead⟩) a W:=by
 have lh:=yy (L:=L) (i:=i) (cp:= .dead);have hk:∀ k∈aS (L.set i ⟨none,.dead⟩),k∈aS L:=fun k hk=>lh.subset hk;have gR:Ext (aS L++c.b8) W (aS (L.set i ⟨none,.dead⟩)++c.b8) W:= .drop fun k hm=>by
  rcases List.mem_append.1 hm with hm | hm
  ·exact List.mem_append.2 (.inl (hk k hm))
  exact List.mem_append.2 (.inr hm)
 exact
 {defers:=h.defers
  size:=h.size
  env:=fun t τ al=>let⟨v,h1,ad⟩:=h.env t τ al; ⟨v,h1,τ.mono gR ad⟩
  dR:=h.dR
  own:=fun e he=>by
   obtain⟨j,aF⟩:=List.mem_iff_getElem?.1 he;rw [List.getElem?_set] at aF;split at aF
   ·split at aF
    ·simp only [Option.some.injEq] at aF;subst aF;trivial
    cases aF
   have h1:=h.own e (List.mem_of_getElem? aF);unfold aN.ok at *;split at h1
   ·obtain⟨o',bk,cu⟩:=h1;exact⟨o',bk,dV.mono _ gR cu⟩
   exact h1
  nodup:=h.nodup.sublist lh
  lt:=fun k hm=>h.lt k (hk k hm)
  gw:=fun k hm=>h.gw k (hk k hm)
  fb:=fun k hm=>⟨(h.fb k hm).1,fun ad=>(h.fb k hm).2 (hk k ad)⟩ }
theorem bM.BT {c E L a W}(h:bM c E L a W){i p:Nat}{cp:dV}(ar:L[i]? =some ⟨some p,cp⟩):p ∉ aS (L.set i ⟨none,.dead⟩)++c.b8:=by
 intro hm;rcases List.mem_append.1 hm with hm | hm
 ·obtain⟨j,e,da,aF,vl⟩:=W7 p hm;exact da (J1 h.nodup aF ar vl rfl)
 exact(h.fb p hm).2 (lM.2 ⟨_,List.mem_of_getElem? ar,rfl⟩)
theorem IL {α:Type}[ah α]{A W}{cs:Array Value}{xs:List α}{cap:Nat}(h:cs.size=cap * ah.size α)(aO:xs.length≤cap)(aR:hg A W (cs.toList.take (xs.length * ah.size α)) xs):
 0+xs.length * ah.size α≤cs.size∧hg A W ((cs.toList.drop 0).take (xs.length * ah.size α)) xs:=by
 refine⟨?_,by simpa using aR⟩
 rw [h,Nat.zero_add];exact Nat.mul_le_mul_right _ aO
section
variable {c:dt} {E:List (Nat×I)} {L:List aN} {ops:Array Oper} {Q:Exit→Act→World→Prop}
variable {d:Option Tmp} {ty:TypeId} {pos:String} {af:Array Edge} {g:Option (Nat×Bool)} {x y:Operand} {t t2:TypeId}
theorem bM.freeze {a:Act}{W:World}{α:Type}[ah α]{i s cap T:Nat}{key:Option Nat}{xs:List α}(h:bM c E L a W)(al:look E s=some (.eq (aW key xs.length cap)))(ak:L[i]? =some ⟨key,.row T xs cap⟩):
 bM c ((s,.of xs)::E) (L.set i ⟨none,.dead⟩) a W:=by
 have hk:=h.kill i
 refine { hk with env:=fun t τ ft=>?_ }
 simp only [look] at ft
 by_cases e:Nat.beq s t=true
 ·rw [e] at ft
  simp only [cond_true,Option.some.injEq] at ft
  subst ft
  have:=eH.1 e
  subst this
  obtain⟨v,h1,ad⟩:=h.env s _ al
  refine⟨v,h1,nM.2 ?_⟩
  have lz:v=aW key xs.length cap:=ad
  subst lz
  have bk:=h.own _ (List.mem_of_getElem? ak)
  cases key with
  | none=>exact .inl ⟨rfl,bk.1⟩
  | some p=>
    obtain⟨o,eY,cs,rfl,ev,aO,xm,aR⟩:=bk
    obtain⟨aD,aZ⟩:=IL ev aO aR
    refine .inr ⟨p,0,cap,cs,T,(0,0),rfl,h.BT ak,eY,aO,by omega,aD,?_⟩
    have lh:=yy (L:=L) (i:=i) (cp:= .dead)
    exact aZ.mono (.drop fun k hm=>by
     rcases List.mem_append.1 hm with hm | hm
     ·exact List.mem_append.2 (.inl (lh.subset hm))
     exact List.mem_append.2 (.inr hm))
 simp only [Bool.not_eq_true] at e
 rw [e] at ft
 exact hk.env t τ ft
theorem ag.freeze {code:Code}{α:Type}[ah α]{key:Option Nat}{xs:List α}{cap T:Nat}(i s:Nat)(al:look E s=some (.eq (aW key xs.length cap)))(ak:L[i]? =some ⟨key,.row T xs cap⟩)
 (k:ag c Q code ((s,.of xs)::E) (L.set i ⟨none,.dead⟩)):ag c Q code E L:=fun a W st=>k a W (st.freeze al ak)
theorem bM.aaz {a:Act}{W:World}{α:Type}[ah α](T:TypeId)(h:bM c E L a W):bM c E (⟨none,.row T ([]:List α) 0⟩::L) a W:=
 {h with
  own:=fun e he=>by
   rcases List.mem_cons.1 he with rfl | he
   ·exact⟨rfl,rfl⟩
   exact h.own e he }
theorem ae.own {l:List Oper}{α:Type}[ah α](T:TypeId)(k:ae c ops Q l E (⟨none,.row T ([]:List α) 0⟩::L)):ae c ops Q l E L:=fun a W st=>k a W (st.aaz T)
theorem uh:bg c E L (.const (.slice none 0 0)) (.eq (aW none 0 0)):=fun _ _ _=>rfl
theorem sK {key:Option Nat}{n cap:Nat}{e i T:Nat}{α:Type}[ah α]{xs:List α}(hu:c.P.underlying t=some (.slice e))(ao:bg c E L x (.eq (aW key n cap)))(aO:n=xs.length)(ak:L[i]? =some ⟨key,.row T xs cap⟩):cf c E L ⟨d,.call ⟨.builtin .len,#[x],#[t]⟩,ty,pos,af,g⟩ (.of (n:Int)):= .pure fun a W s=>by
 subst aO;have h1:a.eval x=_:=ao a W s;have bk:=s.own _ (List.mem_of_getElem? ak);cases key with
 | none=>
   have:xs= []:=bk.1
   subst this
   exact⟨.int .i64 0,by simp [execOp,resolve,invoke,builtin,Builtin.len_,h1,aW,run_underlying hu,goInt],of_int.2 rfl⟩
 | some p=>exact⟨.int .i64 xs.length,by simp [execOp,resolve,invoke,builtin,Builtin.len_,h1,aW,run_underlying hu,goInt],of_int.2 rfl⟩
theorem hg.one {α:Type}[ah α]{A W}{cs:List Value}{xs:List α}(h:hg A W cs xs):∀ u∈cs,u.oneCell'=true:=by
 intro u hu;obtain⟨j,aF⟩:=List.mem_iff_getElem?.1 hu;have ct:=(List.getElem?_eq_some_iff.1 aF).1;have h1:=h.1;by_cases hs:ah.size α=0
 ·rw [hs,Nat.mul_zero] at h1;omega
 have hp:0<ah.size α:=Nat.pos_of_ne_zero hs;have ar:j / ah.size α<_:=(Nat.div_lt_iff_lt_mul hp).2 (by rw [h1] at ct;exact ct);refine ah.one (h.2 _ ar) u (List.mem_iff_getElem?.2 ⟨j % ah.size α,?_⟩);rw [List.getElem?_take,if_pos (Nat.mod_lt _ hp),List.getElem?_drop,Nat.mul_comm,Nat.div_add_mod];exact aF
theorem ud {α:Type}[ah α]{A W}{cs ds:List Value}{xs ys:List α}(h:hg A W cs xs)(df:hg A W ds ys):hg A W (cs++ds) (xs++ys):=by
 refine⟨by rw [List.length_append,h.1,df.1,List.length_append,Nat.add_mul],fun i ar=>?_⟩;rw [List.length_append] at ar;by_cases ct:i<xs.length
 ·have h1:=h.2 i ct;have hle:(i+1) * ah.size α≤xs.length * ah.size α:=Nat.mul_le_mul_right _ ct;rw [Nat.succ_mul] at hle;have mT:=h.1;rw [List.drop_append_of_le_length (by omega),List.take_append_of_le_length (by simp;omega)];rw [List.getElem_append_left ct];exact h1
 have h1:=df.2 (i - xs.length) (by omega);have e:i * ah.size α=cs.length+(i - xs.length) * ah.size α:=by
  rw [h.1,← Nat.add_mul];congr 1;omega
 rw [e,List.drop_append,List.drop_of_length_le (by omega),List.nil_append,show cs.length+(i - xs.length) * ah.size α - cs.length=(i - xs.length) * ah.size α by omega];rw [List.getElem_append_right (by omega)];exact h1
theorem oX.cells {α:Type}[ah α]{A W v}{ys:List α}(h:oX A W v ys):
 (v= .slice none 0 0∧ys= [])∨ ∃ (b off cap:Nat) (news:List Value),v= .slice (some ⟨b,off,none⟩) ys.length cap∧news.length=ys.length * ah.size α∧ (∀ (j:Nat) (u:Value),news[j]? =some u→W.cell? ((⟨b,off,none⟩:Addr).add j)=some u)∧
  (∀ u∈news,u.oneCell'=true)∧hg A W news ys:=by
 rcases h with h | ⟨b,off,cap,cur,T,hC,h1,ad,aD,aZ,bc,bu,dh⟩
 ·exact .inl h
 refine .inr ⟨b,off,cap,_,h1,dh.1,fun j u hu=>?_,fun u hu=>?_,dh⟩
 ·rw [List.getElem?_take] at hu
  split at hu
  ·rw [jL,cell_of_row W b (off+j) cur T hC aD]
   rw [List.getElem?_drop] at hu
   simpa using hu
  cases hu
 exact dh.one u hu
theorem bM.grow {a:Act}{W:World}(h:bM c E L a W){i:Nat}{iS:aN}(ar:L[i]? =some iS){o:Obj}{cp:dV}(aj:cp.holds (aS L++c.b8) W o):
 bM c E (L.set i ⟨some W.heap.size,cp⟩) a (W.alloc o):=by
 have h1:=h.alloc aj
 refine h1.sub (fun e he=>?_) ?_
 ·obtain⟨j,aF⟩:=List.mem_iff_getElem?.1 he
  rw [List.getElem?_set] at aF
  split at aF
  ·split at aF
   ·simp only [Option.some.injEq] at aF;subst aF;simp
   cases aF
  exact List.mem_cons_of_mem _ (List.mem_of_getElem? aF)
 have xf:W.heap.size ∉ aS L:=fun hm=>Nat.lt_irrefl _ (h.lt _ hm)
 have key:∀ (L:List aN) (i:Nat) (q:Nat),q ∉ aS L→ (aS L).Nodup→ (aS (L.set i ⟨some q,cp⟩)).Nodup∧ ∀ k∈aS (L.set i ⟨some q,cp⟩),k=q∨k∈aS L:=by
  intro L;induction L with
  | nil=>intro i q _ aO;exact⟨by simpa using aO,by simp [aS]⟩
  | cons x r b7=>
    intro i q hq aO
    cases ao:x.key with
    | none=>
      have jn:q ∉ aS r:=by simpa [aS,ao] using hq
      have tu:(aS r).Nodup:=by simpa [aS,ao] using aO
      cases i with
      | zero=>exact⟨by simp only [List.set_cons_zero,aS];exact List.nodup_cons.2 ⟨jn,tu⟩,fun k hk=>by
       simp only [List.set_cons_zero,aS,List.mem_cons] at hk;rcases hk with rfl | hk
       ·exact .inl rfl
       exact .inr (by simpa [aS,ao] using hk)⟩
      | succ i=>
        obtain⟨h1,ad⟩:=b7 i q jn tu
        exact⟨by simpa [aS,ao] using h1,fun k hk=>by have:=ad k (by simpa [aS,ao] using hk);simpa [aS,ao] using this⟩
    | some p=>
      simp only [aS,ao,List.mem_cons,not_or] at hq
      simp only [aS,ao] at aO
      obtain⟨hp,tu⟩:=List.nodup_cons.1 aO
      cases i with
      | zero=>exact⟨by simp only [List.set_cons_zero,aS];exact List.nodup_cons.2 ⟨hq.2,tu⟩,fun k hk=>by
       simp only [List.set_cons_zero,aS,List.mem_cons] at hk;rcases hk with rfl | hk
       ·exact .inl rfl
       exact .inr (by simp [aS,ao,hk])⟩
      | succ i=>
        obtain⟨h1,ad⟩:=b7 i q hq.2 tu
        refine⟨?_,fun k hk=>?_⟩
        ·simp only [List.set_cons_succ,aS,ao]
         refine List.nodup_cons.2 ⟨fun hm=>?_,h1⟩
         rcases ad p hm with e | tv
         ·exact hq.1 e.symm
         exact hp tv
        simp only [List.set_cons_succ,aS,ao,List.mem_cons] at hk
        rcases hk with rfl | hk
        ·exact .inr (by simp [aS,ao])
        rcases ad k hk with e | tv
        ·exact .inl e
        exact .inr (by simp [aS,ao,tv])
 exact(key L i _ xf h.nodup).1
theorem Jw {α:Type}[ah α]{A W}{cs ds:List Value}{xs:List α}{T cap:Nat}(h:hg A W cs xs)(dS:ds.length=(cap - xs.length) * ah.size α)(aO:xs.length≤cap)(hm:cap≤maxLen){arr:Array Value}(bo:arr.toList=cs++ds):
 (dV.row T xs cap).holds A W (.cells arr T (0,0)):=by
 refine⟨arr,rfl,?_,aO,hm,?_⟩
 ·have:arr.size=(cs++ds).length:=by rw [← bo];simp
  rw [this,List.length_append,h.1,dS,← Nat.add_mul];congr 1;omega
 rw [bo,← h.1,List.take_left];exact h
theorem ae.app {α:Type}[ah α]{rest:List Oper}{bf i e bytes cap:Nat}{key:Option Nat}{xs ys r:List α}{z:α}(hu:c.P.underlying t=some (.slice e))(eZ:bG c.P e α)(hl:cR c.P e z)
 (xy:(c.P.info? e).map (·.bytes)=some bytes) (hs:bg c E L x (.eq (aW key xs.length cap))) (ak:L[i]? =some ⟨key,.row e xs cap⟩) (a7:bg c E L y (.of ys)) (h:hf bytes xs ys=some r) (aO:Nat.blt bf c.n=true)
 (k:∀ qK cap',ae c ops Q rest ((bf,.eq (aW qK r.length cap'))::E) (L.set i ⟨qK,.row e r cap'⟩)):
 ae c ops Q (⟨some bf,.call ⟨.builtin .append,#[x,y],#[t,t]⟩,ty,pos,af,none⟩::rest) E L:=fun a W s=>by
 obtain⟨qT,mQ,rfl⟩:=OC h
 obtain⟨gG,eG,eM,dS,r5⟩:=hl.zero
 have nX:gG.size=ah.size α:=by
  obtain⟨i2,h1,ad⟩:=eZ.info;rw [eM] at h1;cases h1;exact ad
 have J3:gG.bytes=bytes:=by simpa [eM] using xy
 have xz:eG.cells.size=ah.size α:=by have:=ah.len (r5 [] W).2;simpa using this
 subst J3
 have h1:a.eval x=_:=hs a W s
 have bk:=s.own _ (List.mem_of_getElem? ak)
 have k7:bf<c.n:=by simpa using aO
 have vB:=(nM.1 (a7 a W s)).cells
 have mR:maxLen=9223372036854775807:=rfl
 have main:∃ qK cap' W',(Builtin.append_ #[t,t] ty #[a.eval x,a.eval y]).run c.P W= .ok (aW qK (xs++ys).length cap') W'∧bM c E (L.set i ⟨qK,.row e (xs++ys) cap'⟩) a W':=by
  cases key with
  | none=>
    obtain⟨Hr,xA⟩:xs= []∧cap=0:=bk
    subst Hr
    subst xA
    have zt:L.set i ⟨none,.row e ([]:List α) 0⟩=L:=by
     obtain⟨ct,he⟩:=List.getElem?_eq_some_iff.1 ak;rw [← he];exact List.set_getElem_self ct
    rcases vB with⟨a6,rfl⟩ | ⟨b,off,cp,news,a6,r6,GL,zX,gx⟩
    ·refine⟨none,0,W,?_,by simpa [zt] using s⟩
     simp [h1,a6,aW,Builtin.append_,run_underlying hu,Go.sizeOf,typeInfo,eM,Builtin.lenOf,Builtin.firstCells]
    by_cases hm:ys.length=0
    ·have:ys= []:=List.eq_nil_of_length_eq_zero hm
     subst this
     refine⟨none,0,W,?_,by simpa [zt] using s⟩
     simp [h1,a6,aW,Builtin.append_,run_underlying hu,Go.sizeOf,typeInfo,eM,Builtin.lenOf,Builtin.firstCells,loadCells,loadCellsFrom]
    simp only [List.length_nil,Nat.zero_add] at qT mQ
    have aR:=run_append_nil (P:=c.P) W t ty e gG eG hu eM dS ⟨b,off,none⟩ ys.length cp news (by rw [nX];exact r6) GL (by omega) (by omega) (by omega)
    refine⟨some W.heap.size,grownCap W ys.length 0 e,_,by rw [h1,a6];simpa [aW] using aR,?_⟩
    have pw:=grownCap_ge W ys.length 0 e
    have hle:=grownCap_le_maxLen W ys.length 0 e mQ
    have:=(s.world (Fr.drew W)).grow ak (o:= .cells (news.toArray++Builtin.zeroCells eG.cells (grownCap W ys.length 0 e - ys.length)) e) (cp:= .row e ([]++ys) (grownCap W ys.length 0 e))
     (Jw (T:=e) (gx.mono (Ext.dR (Fr.drew W))) (ds:=(Builtin.zeroCells eG.cells (grownCap W ys.length 0 e - ys.length)).toList) (by rw [Array.length_toList,size_zeroCells,xz]) pw hle (by simp))
    simpa using this
  | some p=>
    obtain⟨ky,eY,cs,rfl,ev,af0,xm,Hs⟩:=bk
    have zY:a.eval x= .slice (some ⟨p,0,none⟩) xs.length cap:=h1
    rcases vB with⟨a6,rfl⟩ | ⟨b,off,cp,news,a6,r6,GL,zX,gx⟩
    ·refine⟨some p,cap,W,?_,?_⟩
     ·simp [zY,a6,aW,Builtin.append_,run_underlying hu,Go.sizeOf,typeInfo,eM,Builtin.lenOf,Builtin.firstCells,storeCells,af0]
     have:L.set i ⟨some p,.row e (xs++[]) cap⟩=L:=by
      obtain⟨ct,he⟩:=List.getElem?_eq_some_iff.1 ak;rw [List.append_nil,← he];exact List.set_getElem_self ct
     rw [this];exact s
    by_cases zn:xs.length+ys.length≤cap
    ·have G1:xs.length * gG.size+news.length≤cs.size:=by rw [nX,r6,ev,← Nat.add_mul];exact Nat.mul_le_mul_right _ zn
     have aR:=run_append_room (P:=c.P) W t ty e gG hu eM p xs.length cap cs eY ⟨b,off,none⟩ ys.length cp news (by rw [nX];exact r6) GL zX zn G1
     refine⟨some p,cap,_,by rw [zY,a6];simpa [aW] using aR,?_⟩
     refine s.store ak eY ⟨_,rfl,?_,by simpa using zn,xm,?_⟩
     ·simp only [List.size_toArray,List.length_append,List.length_take,List.length_drop,Array.length_toList];omega
     have al:(cs.toList.take (xs.length * gG.size)).length=xs.length * ah.size α:=by rw [nX];exact Hs.1
     have zJ:=ud Hs gx
     rw [nX]
     have hlen:(xs++ys).length * ah.size α=(cs.toList.take (xs.length * ah.size α)++news).length:=by rw [zJ.1]
     have Uz:((cs.toList.take (xs.length * ah.size α)++news++cs.toList.drop (xs.length * ah.size α+news.length)).toArray).toList.take ((xs++ys).length * ah.size α)=cs.toList.take (xs.length * ah.size α)++news:=by
      rw [hlen];exact List.take_left
     rw [List.append_assoc] at Uz
     rw [Uz]
     exact zJ
    have holds:∀ (j:Nat) u,(cs.toList.take (xs.length * ah.size α))[j]? =some u→W.cell? ((⟨p,0,none⟩:Addr).add j)=some u:=by
     intro j u mU;rw [List.getElem?_take] at mU;split at mU
     ·rw [jL,Nat.zero_add,cell_of_row W p j cs e (0,0) eY];simpa using mU
     cases mU
    have aR:=run_append_grow (P:=c.P) W t ty e gG eG hu eM dS ⟨p,0,none⟩ xs.length cap _ (by rw [nX];exact Hs.1) holds ⟨b,off,none⟩ ys.length cp news (by rw [nX];exact r6) GL (by omega) (by omega) (growslice_fits (by omega) qT)
    have pw:=grownCap_ge W (xs.length+ys.length) cap e
    have hle:=grownCap_le_maxLen W (xs.length+ys.length) cap e mQ
    refine⟨some W.heap.size,grownCap W (xs.length+ys.length) cap e,_,by rw [zY,a6];simpa [aW] using aR,?_⟩
    have zJ:=(ud Hs gx).mono (Ext.dR (Fr.drew W))
    have:=(s.world (Fr.drew W)).grow ak (o:= .cells ((cs.toList.take (xs.length * ah.size α)).toArray++news.toArray++Builtin.zeroCells eG.cells (grownCap W (xs.length+ys.length) cap e - (xs.length+ys.length))) e)
     (cp:= .row e (xs++ys) (grownCap W (xs.length+ys.length) cap e))
     (Jw (T:=e) zJ (ds:=(Builtin.zeroCells eG.cells (grownCap W (xs.length+ys.length) cap e - (xs.length+ys.length))).toList) (by rw [Array.length_toList,size_zeroCells,xz,List.length_append]) (by rw [List.length_append];exact pw) hle (by simp))
    simpa using this
 obtain⟨qK,cap',W',iP,kN⟩:=main
 refine h3 rfl (R:=fun v hU=>v=aW qK (xs++ys).length cap'∧hU=W') (.kX ?_ ⟨rfl,rfl⟩) fun v hU ⟨a6,hw⟩=>?_
 ·simp only [execOp,resolve,invoke,builtin,Sem.run_bind,Sem.run_pure,Result.andThen_ok]
  have aw:(#[x,y]:Array Operand).map a.eval= #[a.eval x,a.eval y]:=by simp
  rw [aw,iP]
  rfl
 subst a6
 subst hw
 exact k qK cap' _ _ (kN.put k7 rfl)
inductive oA (c:dt)(E:List (Nat×I))(L:List aN){α:Type}[ah α]:List α→List (Nat×Operand)→List α→Prop
 | nil {b} :oA c E L b [] b
 | cons {b b':List α} {v:α} {i:Nat} {x:Operand} {r:List (Nat×Operand)} :i<b.length→bg c E L x (.of v)→oA c E L (b.set i v) r b'→oA c E L b ((i,x)::r) b'
theorem oA.run {α:Type}[ah α]{b b':List α}{bC:List (Nat×Operand)}(h:oA c E L b bC b'):∀ a W,bM c E L a W→ ∀ cs:Array Value,hg (aS L++c.b8) W cs.toList b→
 ∃ en,Instr.fill (fun i=>some (i * ah.size α,ah.size α)) cs (bC.map fun(i,x)=>(i,a.eval x))=some en∧hg (aS L++c.b8) W en.toList b'∧b'.length=b.length:=by
 induction h with
 | nil=>intro a W s cs aR;exact⟨cs,rfl,aR,rfl⟩
 | @cons b b' v i x r ar ad _ b7=>
   intro a W s cs aR
   have a6:=ad a W s
   have ev:(a.eval x).cells.size=ah.size α:=by have:=ah.len a6.2;simpa using this
   have al:=aR.1
   have hle:(i+1) * ah.size α≤b.length * ah.size α:=Nat.mul_le_mul_right _ ar
   rw [Nat.succ_mul] at hle
   rw [List.map_cons,FU rfl ev (by simp at al;omega)]
   obtain⟨en,aD,aZ,bc⟩:=b7 a W s (gD cs.toList (i * ah.size α) (a.eval x).cells.toList).toArray (by
    have:=Jb aR ar a6.2;simpa [gD,ah.len a6.2] using this)
   exact⟨en,aD,aZ,by rw [bc,List.length_set]⟩
theorem BM {α:Type}[ah α]{A W}{z:α}{eG:Value}(h:(I.of z).holds A W eG)(n:Nat)(hs:ah.size α≠0):hg A W ((Array.range (n * ah.size α)).map (eG.cells[· % eG.cells.size]!)).toList (List.replicate n z):=by
 have al:eG.cells.size=ah.size α:=by have:=ah.len h.2;simpa using this
 have hp:0<ah.size α:=Nat.pos_of_ne_zero hs;refine⟨by simp,fun i ar=>?_⟩;have hx:i<n:=by simpa using ar
 have hle:(i+1) * ah.size α≤n * ah.size α:=Nat.mul_le_mul_right _ hx;rw [Nat.succ_mul] at hle;have:((((Array.range (n * ah.size α)).map (eG.cells[· % eG.cells.size]!)).toList.drop (i * ah.size α)).take (ah.size α))=eG.cells.toList:=by
  apply List.ext_getElem?;intro j;rw [List.getElem?_take];split
  ·rename_i aF;rw [List.getElem?_drop];have ct:i * ah.size α+j<n * ah.size α:=by omega
   have xh:(i * ah.size α+j) % ah.size α=j:=by rw [Nat.mul_comm,Nat.mul_add_mod];exact Nat.mod_eq_of_lt aF
   simp only [Array.getElem?_toList,Array.getElem?_map,Array.getElem?_range,ct,if_true,Option.map_some,al,xh];rw [getElem!_pos eG.cells j (by omega)];simp [al,aF]
  rename_i aF;symm;simp only [Array.getElem?_toList];exact Array.getElem?_eq_none (by omega)
 rw [this];simpa using h.2
theorem jf {α:Type}[ah α]{e n:Nat}{z:α}{r:List α}{bC:List (Nat×Operand)}(hu:c.P.underlying t=some (.slice e))(eZ:bG c.P e α)(hl:cR c.P e z)(hs:Nat.beq (ah.size α) 0=false)(aO:Nat.ble (n * ah.size α) 16777216=true)
 (bb:oA c E L (List.replicate n z) bC r):cf c E L ⟨d,.buildSlice t n bC.toArray,ty,pos,af,g⟩ (.of r):=fun a W s=>by
 obtain⟨gG,eG,eM,dS,r5⟩:=hl.zero
 have nX:gG.size=ah.size α:=by
  obtain⟨i2,h1,ad⟩:=eZ.info;rw [eM] at h1;cases h1;exact ad
 have eS:ah.size α≠0:=fun h=>by rw [h] at hs;cases hs
 have q0:=BM (r5 (aS L++c.b8) W) n eS
 obtain⟨en,aD,aZ,bc⟩:=bb.run a W s _ q0
 have hlen:r.length=n:=by rw [bc];simp
 have hm:(bC.toArray.map fun(x:Nat×Operand)=>(x.1,a.eval x.2)).toList=bC.map fun(i,x)=>(i,a.eval x):=by simp
 have ae1:=Nat.le_of_ble_eq_true aO
 refine .kX (v:= .slice (some ⟨W.heap.size,0,none⟩) n n) (W':=W.alloc (.cells en e)) ?_ ⟨Fr.alloc W _,nM.2 ?_⟩
 ·simp only [execOp,Instr.buildSlice,Sem.run_bind,run_underlying hu,Result.andThen_ok,Go.sizeOf,typeInfo,run_program,eM,Sem.run_pure,nX]
  rw [if_neg (by omega)]
  try simp only [Sem.run_pure,Result.andThen_ok,Sem.run_bind]
  by_cases bR:n * ah.size α=0
  ·have r4:n=0:=by
    rcases Nat.mul_eq_zero.1 bR with h | h
    ·exact h
    exact absurd h eS
   subst r4
   simp only [Nat.zero_mul,if_true,Sem.run_pure,Result.andThen_ok]
   try simp only [Nat.zero_mul] at aD
   have iS:((Array.range 0).map (fun x=>(#[]:Array Value)[x % (#[]:Array Value).size]!))=((Array.range 0).map (eG.cells[· % eG.cells.size]!)):=by simp
   simp only [pure_bind]
   rw [iS,hm,aD]
   simp [newRow]
  simp only [bR,if_false,Sem.run_bind,zeroValue,typeInfo,run_program,Result.andThen_ok,eM,dS,Sem.run_pure]
  rw [hm,aD]
  simp [newRow]
 have gR:Ext (aS L++c.b8) W (aS L++c.b8) (W.alloc (.cells en e)):=Ext.dR (Fr.alloc W _)
 refine .inr ⟨W.heap.size,0,n,en,e,(0,0),by rw [hlen],fun u4=>Nat.lt_irrefl _ (s.Gj _ u4),J0 W _,by omega,?_,?_,?_⟩
 ·have:r.length * 1≤n * ah.size α:=by rw [hlen];exact Nat.mul_le_mul_left _ (by omega)
  have:maxLen=9223372036854775807:=rfl
  omega
 ·have:=aZ.1;simp at this;omega
 have bu:=aZ.1
 rw [List.drop_zero,← bu,List.take_length]
 exact aZ.mono gR
end
theorem F7 {cs:List Value}{o s:Nat}{u:Value}(h:u∈cs.drop o):u∈ (cs.drop o).take s∨u∈cs.drop (o+s):=by
 rw [← List.take_append_drop s (cs.drop o)] at h;rcases List.mem_append.1 h with h | h
 ·exact .inl h
 rw [List.drop_drop] at h;exact .inr h
theorem PM {cs:List Value}{n o:Nat}{u:Value}{p:Prop}(al:cs.length=n)(bk:o=n)(h:u∈cs.drop o):p:=by
 rw [List.drop_of_length_le (by omega)] at h;cases h
theorem aaA {cs ds:List Value}{o s n:Nat}(al:cs.length=n)(hd:ds.length=s)(h:o+s≤n):(cs.take o++ds++cs.drop (o+s)).length=n:=by
 simp only [List.length_append,List.length_take,List.length_drop];omega
theorem PN {cs ds:List Value}{o s n:Nat}(al:cs.length=n)(hd:ds.length=s)(h:o+s≤n):((cs.take o++ds++cs.drop (o+s)).drop o).take s=ds:=by
 have h1:(cs.take o).length=o:=by simp;omega
 rw [List.append_assoc,List.drop_append,h1,List.drop_of_length_le (by omega),List.nil_append,Nat.sub_self,List.drop_zero,List.take_append_of_le_length (by omega),List.take_of_length_le (by omega)]
theorem Jc {cs ds:List Value}{o s n cV s2:Nat}(al:cs.length=n)(hd:ds.length=s)(h:o+s≤n)(da:cV+s2≤o∨o+s≤cV):((cs.take o++ds++cs.drop (o+s)).drop cV).take s2=(cs.drop cV).take s2:=by
 apply List.ext_getElem?;intro i;simp only [List.getElem?_take,List.getElem?_drop];split
 ·rename_i ar;simp only [List.getElem?_append,List.length_append,List.length_take,List.getElem?_take,List.getElem?_drop];have h1:min o cs.length=o:=by omega
  rw [h1,hd];rcases da with ad | ad
  ·rw [if_pos (by omega),if_pos (by omega),if_pos (by omega)]
  rw [if_neg (by omega)];congr 1;omega
 rfl
structure vo (P:Type) where
 size:Nat
 rep:List Nat→World→List Value→Nat→P→Prop
 one:∀ {A W cs o x n},rep A W cs o x→cs.length=n→o+size=n→ ∀ u∈cs.drop o,u.oneCell'=true
 mono:∀ {A W c8 W' cs o x},Ext A W c8 W'→rep A W cs o x→rep c8 W' cs o x
 s6:∀ {A W cs o x n ds p s},rep A W cs o x→cs.length=n→ds.length=s→p+s≤n→p+s≤o→rep A W (cs.take p++ds++cs.drop (p+s)) o x
@[reducible] def iC (B:Type) [ah B]:vo B where
  size:=ah.size B
  rep A W cs o x:=ah.rep A W ((cs.drop o).take (ah.size B)) x
  one h al bk u hu:=by
   rcases F7 (s:=ah.size B) hu with h1 | bR
   ·exact ah.one h u h1
   exact PM al bk bR
  mono e h:=ah.mono e h
  s6 h al hd aO hp:=by rw [Jc al hd aO (.inr hp)];exact h
@[reducible] def dT (B:Type) [ah B] {P:Type} (S:vo P):vo (B×P) where
  size:=ah.size B+S.size
  rep A W cs o x:=ah.rep A W ((cs.drop o).take (ah.size B)) x.1∧S.rep A W cs (o+ah.size B) x.2
  one h al bk u hu:=by
   rcases F7 (s:=ah.size B) hu with h1 | bR
   ·exact ah.one h.1 u h1
   exact S.one h.2 al (by omega) u bR
  mono e h:=⟨ah.mono e h.1,S.mono e h.2⟩
  s6 h al hd aO hp:=⟨by rw [Jc al hd aO (.inr hp)];exact h.1,S.s6 h.2 al hd aO (by omega)⟩
@[reducible] def ah.str {T P:Type} (S:vo P) (to:T→P) (N:Nat) (k7:S.size=N:=by rfl):ah T where
  size:=N
  agg:=true
  rep A W cs x:=cs.length=N∧S.rep A W cs 0 (to x)
  len h:=h.1
  one h:=fun u hu=>S.one h.2 h.1 (by omega) u (by simpa using hu)
  flat h:=by cases h
  mono e h:=⟨h.1,S.mono e h.2⟩
structure D7 {P:Type}(S:vo P)(G:Type)[ah G] where
 off:Nat
 get:P→G
 set:P→G→P
 gK:off+ah.size G≤S.size
 iV:∀ {A W cs o b},S.rep A W cs o b→ah.rep A W ((cs.drop (o+off)).take (ah.size G)) (get b)
 lK:∀ {A W cs n o b ds g},cs.length=n→o+S.size≤n→S.rep A W cs o b→ah.rep A W ds g→S.rep A W (cs.take (o+off)++ds++cs.drop (o+off+ah.size G)) o (set b g)
def ja {B:Type}[ah B]:D7 (iC B) B where
 off:=0
 get b:=b
 set _ g:=g
 gK:=by show 0+ah.size B≤ah.size B;omega
 iV h:=h
 lK al bk _ bH:=by
  have h:=PN al (ah.len bH) bk;show ah.rep _ _ ((List.drop _ _).take _) _;rw [Nat.add_zero,h];exact bH
def eb {B:Type}[ah B]{P:Type}{S:vo P} :D7 (dT B S) B where
 off:=0
 get b:=b.1
 set b g:=(g,b.2)
 gK:=by show 0+ah.size B≤ah.size B+S.size;omega
 iV h:=h.1
 lK {A W cs n o b ds g} al bk h bH:=by
  have bk:o+(ah.size B+S.size)≤n:=bk;refine⟨?_,S.s6 h.2 al (ah.len bH) (by omega) (by omega)⟩;rw [Nat.add_zero,PN al (ah.len bH) (by omega)];exact bH
def bN {B:Type}[ah B]{P:Type}{S:vo P}{G:Type}[ah G](l:D7 S G):D7 (dT B S) G where
 off:=ah.size B+l.off
 get b:=l.get b.2
 set b g:=(b.1,l.set b.2 g)
 gK:=by have:=l.gK;show ah.size B+l.off+ah.size G≤ah.size B+S.size;omega
 iV h:=by rw [← Nat.add_assoc];exact l.iV h.2
 lK {A W cs n o b ds g} al bk h bH:=by
  have bk:o+(ah.size B+S.size)≤n:=bk;have ar:=l.gK;have ad:=l.lK al (by omega) h.2 bH;rw [Nat.add_assoc o] at ad;exact⟨by rw [Jc al (ah.len bH) (by omega) (.inl (by omega))];exact h.1,ad⟩
def aI.str {T P G:Type}[ah G]{S:vo P}{to:T→P}{N:Nat}(l:D7 S G)(off:Nat)(get:T→G)(set:T→G→T)(k7:S.size=N:=by rfl)(bk:l.off=off:=by rfl)(h1:∀ b,l.get (to b)=get b:=by intro b;rfl)(ad:∀ b g,l.set (to b) g=to (set b g):=by intro b g;rfl): @aI T G (ah.str S to N k7) _:=
 @aI.mk T G (ah.str S to N k7) _ off get set (by have:=l.gK;show off+ah.size G≤N;omega)
  (fun {A W cs b} h=>by have:=l.iV h.2;rw [Nat.zero_add,bk,h1] at this;exact this)
  (fun {A W cs b ds g} h bH=>by
   have aD:=l.lK h.1 (by omega) h.2 bH;rw [Nat.zero_add,bk,ad] at aD;have aZ:=l.gK;exact⟨aaA h.1 (ah.len bH) (by omega),aD⟩)
class bm (α:Type) [ah α] [Inhabited α] where
 cells:List Value
 ok:∀ A W,ah.rep A W cells (default:α)
instance:bm Bool:=⟨[.bool false],fun _ _=>rfl⟩
instance:bm Int:=⟨[.int .i64 0],fun _ _=>rfl⟩
instance:bm (BitVec 64):=⟨[.int .u64 0],fun _ _=>rfl⟩
instance:bm (BitVec 32):=⟨[.int .u32 0],fun _ _=>rfl⟩
instance:bm (BitVec 16):=⟨[.int .u16 0],fun _ _=>rfl⟩
instance:bm (BitVec 8):=⟨[.int .u8 0],fun _ _=>rfl⟩
instance:bm ByteArray:=⟨[.string ByteArray.empty],fun _ _=>rfl⟩
instance {α:Type} [ah α]:bm (List α):=⟨[.slice none 0 0],fun _ _=>⟨_,rfl,.inl ⟨rfl,rfl⟩⟩⟩
theorem OY {α:Type}[ah α]{A W}{tJ:List Value}{z:α}(h:ah.rep A W tJ z):∀ n,hg A W (List.replicate n tJ).flatten (List.replicate n z)
 | 0=>⟨by simp,fun i ar=>by simp at ar⟩
 | n+1=>by
   have h1:=OY h n;have ad:hg A W tJ [z]:=⟨by simp [ah.len h],fun i ar=>by
    have:i=0:=by simpa using ar
    subst this;rw [Nat.zero_mul,List.drop_zero,← ah.len h,List.take_length];exact h⟩
   have:=ud ad h1;simpa [List.replicate_succ] using this
instance {α:Type} [ah α] [Inhabited α] [bm α] {n:Nat} :bm (Vector α n):=⟨(List.replicate n (bm.cells α)).flatten,fun A W=>by
 have:=OY (bm.ok (α:=α) A W) n;show hg A W _ (Vector.replicate n default).toList;simpa using this⟩
def La (α:Type)[ah α][Inhabited α][bm α]:Value:=if ah.agg α=true then .agg (bm.cells α).toArray else(bm.cells α).headD undef
theorem cR.of {P:Program}{t:TypeId}{α:Type}[ah α][Inhabited α][bm α](h:(P.info? t).bind (·.zero)=some (La α)):cR P t (default:α) where
 zero:=by
  cases ar:P.info? t with
  | none=>simp [ar] at h
  | some i=>
    refine⟨i,La α,rfl,by simpa [ar] using h,fun A W=>?_⟩
    have ok:=bm.ok (α:=α) A W
    unfold La
    cases bo:ah.agg α with
    | true=>simp only [if_true];exact⟨by simp [shaped,bo],by simpa [Value.cells] using ok⟩
    | false=>
      have h1:=ah.len ok
      rw [ah.flat bo] at h1
      obtain⟨v,a6⟩:=List.length_eq_one_iff.1 h1
      have aD:v.oneCell'=true:=ah.one ok v (by rw [a6];simp)
      simp only [Bool.false_eq_true,if_false,a6,List.headD_cons]
      exact⟨by simp [shaped,bo,aD],by rw [cells_one aD];rw [a6] at ok;exact ok⟩
theorem bG.of {P:Program}{t:TypeId}{α:Type}[ah α]{d:TypeDesc}(bo:(match d with | .struct _ | .array _ _=>true | _=>false)=ah.agg α)(hu:P.underlying t=some d)(hs:(P.info? t).map (·.size)=some (ah.size α)):bG P t α:=⟨hs,d,hu,bo⟩
theorem cE.of {P:Program}{s f o:Nat}{fs:Array Field}{fd:Field}{γ:Type}[ah γ](hu:P.underlying s=some (.struct fs))(bb:fs[f]? =some fd)(bk:fd.offset=o)(eD:bG P fd.type γ)(hs:Nat.beq (ah.size γ) 0=false):cE P s f o:=by
 obtain⟨i,h1,ad⟩:=eD.info;exact⟨fs,fd,i,hu,bb,bk,h1,fun h=>by rw [← ad,h] at hs;cases hs⟩
theorem qi.of {P:Program}{t n e s:Nat}{γ:Type}[ah γ](hu:P.underlying t=some (.array n e))(eD:bG P e γ)(hs:ah.size γ=s):qi P t n s:=by
 obtain⟨i,h1,ad⟩:=eD.info;exact⟨e,i,hu,h1,by rw [ad,hs]⟩
theorem bind_some {α β:Type}{m:Option α}{f:α→Option β}{r:β}(h:m.bind f=some r):∃ y,m=some y∧f y=some r:=Option.bind_eq_some_iff.1 h
theorem fY {α:Type}{b:Bool}{p q:Option α}{r:α}(hb:b=true)(h:cond b p q=some r):p=some r:=by rw [hb] at h;exact h
theorem fZ {α:Type}{b:Bool}{p q:Option α}{r:α}(hb:b=false)(h:cond b p q=some r):q=some r:=by rw [hb] at h;exact h
theorem dA {α:Type}{a b:α}(h:some a=some b):a=b:=Option.some.inj h
def cH {α:Type}[Inhabited α](b want:Bool)(m:Option α):Option α:=if b=want then m else some default
theorem fo {α:Type}[Inhabited α]{b want:Bool}{m:Option α}{y:α}(h:cH b want m=some y)(hb:b=want):m=some y:=by unfold cH at h;rw [if_pos hb] at h;exact h
def et:Nat:=2 ^ 80
theorem bM.pg {c E L a W}(h:bM c E L a W)(n:Nat):bM c E (L.drop n) a W:=
 h.sub (fun e he=>List.mem_of_mem_drop he) (by
   have:(aS (L.drop n)).Sublist (aS L):=by
    induction L generalizing n with
    | nil=>simp
    | cons x r b7=>
      cases n with
      | zero=>simp
      | succ n=>
        have aR:∀ n,(aS (r.drop n)).Sublist (aS r):=by
         intro n;have key:∀ (r:List aN) n,(aS (r.drop n)).Sublist (aS r):=by
          intro r;induction r with
          | nil=>intro n;simp
          | cons y r TT=>
            intro n
            cases n with
            | zero=>simp
            | succ n=>
              simp only [List.drop_succ_cons]
              cases hk:y.key with
              | none=>simpa [aS,hk] using TT n
              | some p=>simp only [aS,hk];exact(TT n).cons _
         exact key r n
        simp only [List.drop_succ_cons]
        cases hk:x.key with
        | none=>simpa [aS,hk] using aR n
        | some p=>simp only [aS,hk];exact(aR n).cons _
   exact h.nodup.sublist this)
section
variable {c:dt} {E:List (Nat×I)} {L:List aN} {ops:Array Oper} {Q:Exit→Act→World→Prop}
theorem ag.cH {γ:Type}{x:Operand}{b:Bool}{y z:Code}(E':γ→List (Nat×I))(L':γ→List aN)(al:bg c E L x (.of b))(vD:∀ g,aa c Q .normal (E' g) (L' g))
 (bP:(∀ g,aa c Q .normal (E' g) (L' g))→b=true→ag c Q y E L) (bb:(∀ g,aa c Q .normal (E' g) (L' g))→b=false→ag c Q z E L):ag c Q (.cond x y z) E L:=
 ag.cond al (bP vD) (bb vD)
theorem aa.meet {x:Exit}{E':List (Nat×I)}{L':List aN}(n:Nat)(ak:L.drop n=L')(h:gM E E')(k:aa c Q x E' L'):aa c Q x E L:=fun a W s=>k a W (by rw [← ak];exact(s.pg n).less h.look)
def zZ {σ ε γ δ:Type}(c:dt)(E:σ→γ→List (Nat×I))(L:σ→γ→List aN)(xs:ε→Exit)(gY:ε→δ→List (Nat×I))(Lx:ε→δ→List aN):σ ⊕ ε→Exit→Act→World→Prop
 | .inl s,x,a,W=>x= .normal∧ ∃ g,bM c (E s g) (L s g) a W
 | .inr e,x,a,W=>x≠ .normal∧x=xs e∧ ∃ g,bM c (gY e g) (Lx e g) a W
theorem aa.aaB {σ ε γ δ:Type}{E':σ→γ→List (Nat×I)}{L':σ→γ→List aN}{xs:ε→Exit}{gY:ε→δ→List (Nat×I)}{Lx:ε→δ→List aN}{s:σ}(g:γ)(n:Nat)
 (ak:L.drop n=L' s g) (h:gM E (E' s g)):aa c (zZ c E' L' xs gY Lx (.inl s)) .normal E L:=fun a W st=>⟨rfl,g,by rw [← ak];exact(st.pg n).less h.look⟩
theorem aa.aaC {σ ε γ δ:Type}{E':σ→γ→List (Nat×I)}{L':σ→γ→List aN}{xs:ε→Exit}{gY:ε→δ→List (Nat×I)}{Lx:ε→δ→List aN}{e:ε}{x:Exit}(g:δ)(n:Nat)
 (ao:x=xs e) (aO:x≠ .normal) (ak:L.drop n=Lx e g) (h:gM E (gY e g)):aa c (zZ c E' L' xs gY Lx (.inr e)) x E L:=fun a W st=>⟨aO,ao,g,by rw [← ak];exact(st.pg n).less h.look⟩
theorem ag.zj {σ ε γ δ:Type}{body:Code}{N:Nat}{b:σ→Option (σ ⊕ ε)}{cF:σ}{e:ε}(al:ey N b cF=some e)
 (E':σ→γ→List (Nat×I)) (L':σ→γ→List aN) (xs:ε→Exit) (gY:ε→δ→List (Nat×I)) (Lx:ε→δ→List aN) (g0:γ) (ak:L=L' cF g0) (aB:gM E (E' cF g0))
 (w0:∀ s r,b s=some r→ ∀ g,ag c (zZ c E' L' xs gY Lx r) body (E' s g) (L' s g))
 (qA:∀ g,aa c Q (xs e) (gY e g) (Lx e g)):ag c Q (.loop body) E L:=fun a W st=>by
 subst ak
 exact X6 b (fun s a W=> ∃ g,bM c (E' s g) (L' s g) a W) (fun e x a W=>x=xs e∧ ∃ g,bM c (gY e g) (Lx e g) a W)
  (fun s r hs a W ⟨g,mw⟩=>wpIn_mono (w0 s r hs g a W mw) (fun x a W h=>by
   cases r with
   | inl cw=>exact h
   | inr e'=>exact⟨h.1,h.2⟩)) Q e (fun x a W ⟨ao,g,hs⟩=>by subst ao;exact qA g a W hs) al ⟨g0,st.less aB.look⟩
end
theorem cf.hG {c E L o}{α:Type}[ah α]{a b:α}(h:cf c E L o (.of a))(e:a=b):cf c E L o (.of b):=by subst e;exact h
def I.xj {α β:Type}[ah α][ah β](P:Program)(F:α→Option β):I where
 holds A W v:= ∃ f fst cap,v= .func (.func f) fst cap∧bL P f∧ ∀ c8 W',Ext A W c8 W'→ (∀ k∈c8,k<W'.heap.size)→ ∀ x r mx,F x=some r→ (I.of x).holds c8 W' mx→
  Calls P f (fst++ #[mx]++cap) W' fun e vp=> ∃ v,e= .returned v∧Fr [] W' vp∧ (I.of r).holds c8 vp v
 mono e h:=let⟨f,fst,cap,h1,ad,aD⟩:=h; ⟨f,fst,cap,h1,ad,fun c8 W' e'=>aD c8 W' (e.trans e')⟩
def I.xl {α β γ:Type}[ah α][ah β][ah γ](P:Program)(F:α→β→Option γ):I where
 holds A W v:= ∃ f fst cap,v= .func (.func f) fst cap∧bL P f∧ ∀ c8 W',Ext A W c8 W'→ (∀ k∈c8,k<W'.heap.size)→ ∀ x y r mx ri,F x y=some r→ (I.of x).holds c8 W' mx→ (I.of y).holds c8 W' ri→
  Calls P f (fst++ #[mx,ri]++cap) W' fun e vp=> ∃ v,e= .returned v∧Fr [] W' vp∧ (I.of r).holds c8 vp v
 mono e h:=let⟨f,fst,cap,h1,ad,aD⟩:=h; ⟨f,fst,cap,h1,ad,fun c8 W' e'=>aD c8 W' (e.trans e')⟩
section
variable {c:dt} {E:List (Nat×I)} {L:List aN} {d:Option Tmp} {ty:TypeId} {pos:String} {af:Array Edge} {g:Option (Nat×Bool)}
theorem YL {α β:Type}[ah α][ah β]{F:α→Option β}{f:FuncId}(ew:bL c.P f)(h:∀ x r,F x=some r→bK c.P f [.of x] (.of r)):bg c E L (.func f) (.xj c.P F):=fun a W s=>
 ⟨f,#[],#[],rfl,ew,fun c8 W' _ gk x r mx jy ao=>by simpa using h x r jy c8 W' [mx] gk (.cons ao .nil)⟩
theorem OX {α β γ:Type}[ah α][ah β][ah γ]{F:α→β→Option γ}{f:FuncId}(ew:bL c.P f)(h:∀ x y r,F x y=some r→bK c.P f [.of x,.of y] (.of r)):bg c E L (.func f) (.xl c.P F):=fun a W s=>
 ⟨f,#[],#[],rfl,ew,fun c8 W' _ gk x y r mx ri jy ao a7=>by simpa using h x y r jy c8 W' [mx,ri] gk (.cons ao (.cons a7 .nil))⟩
theorem FQ {α β:Type}[ah α][ah β]{F:α→Option β}{oY x:Operand}{ats:Array TypeId}{Ew:α}{r:β}(bb:bg c E L oY (.xj c.P F))(ao:bg c E L x (.of Ew))(h:F Ew=some r):
 cf c E L ⟨d,.call ⟨.value oY,#[x],ats⟩,ty,pos,af,g⟩ (.of r):=fun a W s=>by
 obtain⟨f,fst,cap,h1,ew,ad⟩:=bb a W s
 refine .wm (f:=f) (args:=fst++ #[a.eval x]++cap) (W':=W) ?_ (ad _ W (Ext.refl _ _) s.Gj _ _ _ h (ao a W s))
 simp [execOp,resolve,Deferred.ofValue,h1,invoke,ew.run]
theorem FR {α β γ:Type}[ah α][ah β][ah γ]{F:α→β→Option γ}{oY x y:Operand}{ats:Array TypeId}{Ew:α}{UA:β}{r:γ}(bb:bg c E L oY (.xl c.P F))(ao:bg c E L x (.of Ew))(a7:bg c E L y (.of UA))(h:F Ew UA=some r):
 cf c E L ⟨d,.call ⟨.value oY,#[x,y],ats⟩,ty,pos,af,g⟩ (.of r):=fun a W s=>by
 obtain⟨f,fst,cap,h1,ew,ad⟩:=bb a W s
 refine .wm (f:=f) (args:=fst++ #[a.eval x,a.eval y]++cap) (W':=W) ?_ (ad _ W (Ext.refl _ _) s.Gj _ _ _ _ _ h (ao a W s) (a7 a W s))
 simp [execOp,resolve,Deferred.ofValue,h1,invoke,ew.run]
end
end Gv
namespace Gv
open Go Go.ChangeShapes Go.WideShapes Go.RowKit
structure Arg (P:Program)(t:TypeId)(α:Type)[ah α]:Prop where
 cells:P.cellsOf t=ah.size α
 read:∀ {H:Type} {enc:TypeId×Value→H} {W:World} {n:Nat} {cs:List Value} {x:DataW H×List MemPlace},DataW.trod enc P W 0 (fun _=>true) true n t cs=some x→ ∃ a:α,ah.rep [] W cs a
 form:∀ {W:World} {b:Nat} {v:Value},Value.okWide P W .any b t v→shaped (ah.agg α) v
variable {P:Program} {t e:TypeId}
theorem X9 (hu:P.underlying t=some .bool){H:Type}{enc:TypeId×Value→H}{W:World}{n:Nat}{cs:List Value}{x:DataW H×List MemPlace}(h:DataW.trod enc P W 0 (fun _=>true) true n t cs=some x):
 ∃ b:Bool,cs= [.bool b]:=by
 cases n with
 | zero=>simp [DataW.trod] at h
 | succ n=>
   unfold DataW.trod at h
   rw [hu] at h
   split at h <;> first | exact⟨_,rfl⟩ | (simp at h)
   all_goals simp_all
theorem Arg.bool (hu:P.underlying t=some .bool)(aj:P.cellsOf t=1):Arg P t Bool where
 cells:=aj
 read {H enc W n cs x} h:=by
  obtain⟨b,rfl⟩:=X9 hu h;exact⟨b,rfl⟩
 form {W b v} h:=by
  unfold Value.okWide Cell.okWide at h;simp only [hu] at h;unfold Cell.ok at h;rw [hu] at h;cases v <;> first | rfl | simp at h
theorem BU {k:IntKind}(hu:P.underlying t=some (.int k)){H:Type}{enc:TypeId×Value→H}{W:World}{n:Nat}{cs:List Value}{x:DataW H×List MemPlace}(h:DataW.trod enc P W 0 (fun _=>true) true n t cs=some x):
 ∃ z:Int,cs= [.int k z]∧k.min≤z∧z≤k.max:=by
 cases n with
 | zero=>simp [DataW.trod] at h
 | succ n=>
   unfold DataW.trod at h
   rw [hu] at h
   split at h <;> simp_all [Lit.wf]
theorem BV {k:IntKind}(hu:P.underlying t=some (.int k)){W:World}{b:Nat}{v:Value}(h:Value.okWide P W .any b t v):v.oneCell'=true:=by
 unfold Value.okWide Cell.okWide at h;simp only [hu] at h;unfold Cell.ok at h;rw [hu] at h;cases v <;> first | rfl | simp at h
theorem Arg.int (hu:P.underlying t=some (.int .i64))(aj:P.cellsOf t=1):Arg P t Int where
 cells:=aj
 read h:=by obtain⟨z,rfl,_⟩:=BU hu h;exact⟨z,rfl⟩
 form h:=BV hu h
theorem Arg.u64 (hu:P.underlying t=some (.int .u64))(aj:P.cellsOf t=1):Arg P t (BitVec 64) where
 cells:=aj
 read h:=by
  obtain⟨z,rfl,h1,ad⟩:=BU hu h;simp [IntKind.min,IntKind.max,IntKind.signed,IntKind.bits] at h1 ad;exact⟨BitVec.ofInt 64 z,by show [_]= [_];simp;omega⟩
 form h:=BV hu h
theorem Arg.u32 (hu:P.underlying t=some (.int .u32))(aj:P.cellsOf t=1):Arg P t (BitVec 32) where
 cells:=aj
 read h:=by
  obtain⟨z,rfl,h1,ad⟩:=BU hu h;simp [IntKind.min,IntKind.max,IntKind.signed,IntKind.bits] at h1 ad;exact⟨BitVec.ofInt 32 z,by show [_]= [_];simp;omega⟩
 form h:=BV hu h
theorem Arg.u16 (hu:P.underlying t=some (.int .u16))(aj:P.cellsOf t=1):Arg P t (BitVec 16) where
 cells:=aj
 read h:=by
  obtain⟨z,rfl,h1,ad⟩:=BU hu h;simp [IntKind.min,IntKind.max,IntKind.signed,IntKind.bits] at h1 ad;exact⟨BitVec.ofInt 16 z,by show [_]= [_];simp;omega⟩
 form h:=BV hu h
theorem Arg.u8 (hu:P.underlying t=some (.int .u8))(aj:P.cellsOf t=1):Arg P t (BitVec 8) where
 cells:=aj
 read h:=by
  obtain⟨z,rfl,h1,ad⟩:=BU hu h;simp [IntKind.min,IntKind.max,IntKind.signed,IntKind.bits] at h1 ad;exact⟨BitVec.ofInt 8 z,by show [_]= [_];simp;omega⟩
 form h:=BV hu h
theorem YU (hs:(∃ fs,P.underlying t=some (.struct fs))∨ (∃ n e,P.underlying t=some (.array n e))){W:World}{b:Nat}{v:Value}(h:Value.okWide P W .any b t v):shaped true v:=by
 unfold Value.okWide at h;rcases hs with⟨fs,hu⟩ | ⟨n,e,hu⟩ <;> rw [hu] at h <;> exact⟨h.choose,h.choose_spec.1⟩
theorem Arg.arr {α:Type}[ah α][Inhabited α]{n:Nat}(hu:P.underlying t=some (.array n e))(he:Arg P e α)(aj:P.cellsOf t=n * ah.size α):Arg P t (Vector α n) where
 cells:=aj
 read {H enc W m cs x} h:=by
  obtain⟨xs,q,_,_,al,hlen,bb⟩:=DataW.trod_array hu h;have aR:∀ i,i<n→ ∃ a:α,ah.rep [] W ((cs.drop (i * ah.size α)).take (ah.size α)) a:=by
   intro i ar;have h1:=bb i ar;rw [List.getElem?_eq_getElem (by omega)] at h1;rw [← he.cells];exact he.read h1
  refine⟨Vector.ofFn fun i=>(aR i.1 i.2).choose,by rw [al,aj];simp,fun i ar=>?_⟩;have hx:i<n:=by simpa using ar
  have:=(aR i hx).choose_spec;simpa using this
 form h:=YU (.inr ⟨_,_,hu⟩) h
theorem OD {H:Type}{enc:TypeId×Value→H}{W W':World}(al:laidOutB P=true){sp:Nat→Bool} :∀ {h0:List TypeId} {vs:List Value} {ds:List (DataW H)} {bC:List MemPlace},
 (∀ t∈h0,P.readableRec t=true∧t<P.types.size)→DataW.TrodAll enc P W 0 (fun _=>true) true h0 vs ds bC→ (∀ p∈bC,W.sameAt W' p)→ (∀ p∈bC,sp p.block=true)→DataW.TrodAll enc P W' 0 sp true h0 vs ds bC
 | [],_,_,_,_,h,_,_=>by
   obtain⟨rfl,rfl,rfl⟩:=trodAll_nil h;exact rfl
 | _::_,_,_,_,bP,h,hs,hp=>by
   obtain⟨v,LL,d,LM,p,q,rfl,rfl,rfl,h1,ad⟩:=trodAll_cons h;have bR:=bP _ (List.mem_cons_self ..);exact⟨p,q,WideElems.Trod_stays al bR.1 bR.2 h1 (fun x ao=>hs x (by simp [ao])) (fun x ao=>hp x (by simp [ao])),
    OD al (fun t qY=>bP t (List.mem_cons_of_mem _ qY)) ad (fun x ao=>hs x (by simp [ao])) (fun x ao=>hp x (by simp [ao])),rfl⟩
theorem Fr.below {W W':World}(h:Fr [] W W'):Below W.heap.size W W':=⟨h.os,h.tape,h.output,h.size,fun k hk=>h.block k hk (by simp)⟩
theorem YV {H:Type}{enc:TypeId×Value→H}{f:Func}{s:ChangeSpec}{W W':World}{args:Array Value}{ds gs:List (DataW H)}{before:List MemPlace}{eJ:TypeId}
 (al:laidOutB P=true) (hp:∀ t∈f.params.toList,P.readableRec t=true∧t<P.types.size) (aR:f.resultTypes= #[eJ]) (hb:P.underlying eJ=some .bool) (a6:s.vars= [])
 (hs:s.fn H ds= { results:= [.lit (.bool true)],args:=ds })
 (Aj:DataW.Whole enc P f.params.toList s.vars false W args.toList ds gs before) (jy:Fr [] W W'):
 s.post enc P f false true false false W args (.bool true) W':=by
 have af1:=Aj
 obtain⟨p,q,gk,MU,rfl,dS,aO⟩:=af1
 rw [a6] at MU
 obtain⟨rfl,rfl⟩:=trodVars_none MU
 have ct:∀ x∈p,x.block<W.heap.size:=fun x ao=>Aj.lt x (by simpa using ao)
 have vq:=jy.below
 have acM:∀ x∈p,W.sameAt W' x:=fun x ao=>vq.same (ct x ao)
 have ae2:∀ (b:Nat) (sp:Nat→Bool) (hd:Bool),DataW.TrodAll enc P W' b sp hd f.resultTypes.toList ((Value.bool true).resultList f.resultTypes.size) [.lit (.bool true)] []:=by
  intro b sp hd;rw [aR];exact⟨[],[],shut_bool hb true,rfl,rfl⟩
 refine⟨ds,[],p++[],[],p,[],Aj,?_,?_,?_,World.keptBut_mono (fun x ao=>?_) (vq.frame fun _=>False),fun h=>by cases h⟩
 ·rw [List.append_nil,hs];exact ae2 _ _ _
 ·rw [List.append_nil,hs];exact OD al hp gk acM (fun x ao=>by simpa using ct x ao)
 ·rw [List.append_nil,hs,a6];rfl
 exact ao.elim
end Gv
namespace Gv
open Go Go.ChangeShapes Go.WideShapes Go.RowKit
theorem YW {P:Program}{fits:TypeId→Bool}{d:Nat}{e:TypeId}{count off n:Nat}(h:rowAt P fits d e count off n=true):off≤count * P.cellsOf e:=by
 cases d with
 | zero=>cases h
 | succ d=>
   unfold rowAt at h
   simp only at h
   split at h
   ·cases h
   rename_i hs
   have hp:0<P.cellsOf e:=Nat.pos_of_ne_zero hs
   have ahS:=Nat.div_add_mod off (P.cellsOf e)
   rw [Bool.or_eq_true] at h
   rcases h with h | h
   ·simp only [Bool.and_eq_true,beq_iff_eq,decide_eq_true_eq] at h
    have:P.cellsOf e * (off / P.cellsOf e)≤P.cellsOf e * count:=Nat.mul_le_mul_left _ (by omega)
    rw [Nat.mul_comm count];omega
   simp only [Bool.and_eq_true,decide_eq_true_eq] at h
   have hm:=Nat.mod_lt off hp
   have:P.cellsOf e * (off / P.cellsOf e+1)≤P.cellsOf e * count:=Nat.mul_le_mul_left _ (by omega)
   rw [Nat.mul_add] at this
   rw [Nat.mul_comm count];omega
theorem OE {P:Program} :∀ {d:Nat} {e:TypeId} {count off:Nat} {u:TypeId} {n:Nat},liesAt P d e count off u n=true→off≤count * P.cellsOf e
 | 0,_,_,_,_,_,h=>by cases h
 | d+1,e,count,off,u,n,h=>by
   unfold liesAt at h;rw [Bool.or_eq_true] at h;rcases h with h | h
   ·exact YW h
   split at h
   ·exact OE h
   cases h
structure u5 (P:Program)(t:TypeId)(α:Type)[ah α]:Prop where
 top:∀ {H:Type} {enc:TypeId×Value→H} {W:World} {n b:Nat} {v:Value} {x:DataW H×List MemPlace},DataW.trod enc P W 0 (fun _=>true) true n t v.cells.toList=some x→Value.okWide P W .any b t v→ ∃ a:α,(I.of a).holds [] W v
variable {P:Program} {t e:TypeId}
theorem u5.of {α:Type}[ah α](h:Arg P t α):u5 P t α where
 top h1 ad:=let⟨a,aD⟩:=h.read h1; ⟨a,h.form ad,aD⟩
theorem YX {α:Type}[ah α](hu:P.underlying t=some (.slice e))(he:Arg P e α)(dS:Nat.beq (ah.size α) 0=false){H:Type}{enc:TypeId×Value→H}{W:World}{n b:Nat}{v:Value}{x:DataW H×List MemPlace}
 (h:DataW.trod enc P W 0 (fun _=>true) true n t [v]=some x) (iD:Cell.okWide P W .any b t v):∃ a:List α,(I.of a).holds [] W v:=by
 have k4:ah.size α≠0:=fun h=>by rw [h] at dS;cases dS
 rcases DataW.trod_slice hu h with⟨h1,_⟩ | ⟨a,len,cap,elems,rest,m,_,h1,_,_,ahT,xm,D8,ae3,ahB,_⟩
 ·have:=List.singleton_inj.1 h1
  subst this
  exact⟨[],nM.2 (.inl ⟨rfl,rfl⟩)⟩
 have:=List.singleton_inj.1 h1
 subst this
 unfold Cell.okWide at iD
 simp only [hu] at iD
 unfold Cell.ok at iD
 rw [hu] at iD
 obtain⟨_,_,_,Sz,row,cells,z1,ae4⟩:=iD
 obtain⟨UB,tK,ahU⟩:=a
 simp only at Sz
 subst Sz
 unfold World.shape? at z1
 cases eY:W.heap[UB]? with
 | none=>rw [eY] at z1;cases z1
 | some ky=>
   rw [eY] at z1
   cases ky <;> simp at z1
   rename_i r7 T hC
   obtain⟨HU,ev⟩:=z1
   have ahG:tK≤r7.size:=by
    have bc:tK≤_:=OE ae4;have bu:=Nat.div_mul_le_self cells (P.cellsOf row);omega
   have acN:=he.cells
   have gx:∀ i,i<len→ ∃ a:α,ah.rep [] W ((r7.toList.drop (tK+i * ah.size α)).take (ah.size α)) a∧tK+(i+1) * ah.size α≤r7.size:=fun i ar=>by
    have bc:=ae3 i ar;rw [List.getElem?_eq_getElem (by omega)] at bc;obtain⟨en,bu,dh⟩:=Option.bind_eq_some_iff.1 bc;obtain⟨_,al,aj⟩:=World.cells?_some bu;rw [acN] at al aj bu;have sW:∀ j,j<ah.size α→r7[tK+i * ah.size α+j]? =en[j]? :=fun j aF=>by
     rw [← aj j aF,jL,jL];unfold World.cell?;simp [eY]
    have heq:(r7.toList.drop (tK+i * ah.size α)).take (ah.size α)=en:=by
     apply List.ext_getElem?;intro j;rw [List.getElem?_take];by_cases aF:j<ah.size α
     ·rw [if_pos aF,List.getElem?_drop,Array.getElem?_toList];exact sW j aF
     rw [if_neg aF];symm;exact List.getElem?_eq_none (by omega)
    obtain⟨a,bo⟩:=he.read dh;refine⟨a,by rw [heq];exact bo,?_⟩;have fk:=sW (ah.size α - 1) (by omega);rw [List.getElem?_eq_getElem (show ah.size α - 1<en.length by omega)] at fk;have:=(Array.getElem?_eq_some_iff.1 fk).1;rw [Nat.add_mul];omega
   have hex:∃ xs:List α,xs.length=len∧ ∀ i (h:i<xs.length),ah.rep [] W ((r7.toList.drop (tK+i * ah.size α)).take (ah.size α)) xs[i]:=by
    refine⟨List.ofFn fun i:Fin len=>(gx i.1 i.2).choose,by simp,fun i ar=>?_⟩;have hx:i<len:=by simpa using ar
    rw [List.getElem_ofFn];exact(gx i hx).choose_spec.1
   obtain⟨xs,D6,af2⟩:=hex
   have hbound:tK+xs.length * ah.size α≤r7.size:=by
    rw [D6];rcases Nat.eq_zero_or_pos len with bR | bR
    ·rw [bR];omega
    have:=(gx (len - 1) (by omega)).choose_spec.2;rw [show len - 1+1=len by omega] at this;exact this
   refine⟨xs,nM.2 (.inr ⟨UB,tK,cap,r7,T,hC,by rw [D6],by simp,eY,by omega,by omega,hbound,?_,fun i ar=>?_⟩)⟩
   ·rw [List.length_take,List.length_drop];simp;omega
   have hle:(i+1) * ah.size α≤xs.length * ah.size α:=Nat.mul_le_mul_right _ ar
   rw [Nat.succ_mul] at hle
   rw [vX _ _ _ _ _ hle]
   exact af2 i ar
theorem u5.af3 {α:Type}[ah α](hu:P.underlying t=some (.slice e))(he:Arg P e α)(dS:Nat.beq (ah.size α) 0=false):u5 P t (List α) where
 top {H enc W n b v x} h iD:=by
  have zK:Cell.okWide P W .any b t v:=by
   unfold Value.okWide at iD;simp only [hu] at iD;exact iD
  have ae5:v.oneCell'=true:=by
   unfold Cell.okWide at zK;simp only [hu] at zK;unfold Cell.ok at zK;rw [hu] at zK;cases v <;> first | rfl | simp at zK
  rw [cells_one ae5] at h;exact YX hu he dS h zK
theorem IT {H:Type}{enc:TypeId×Value→H}{W:World}{h0:List TypeId}{vs:List Value}{ds:List (DataW H)}{bC:List MemPlace}{α:Type}[ah α]{b:Nat}(bo:u5 P t α)
 (h:DataW.TrodAll enc P W 0 (fun _=>true) true (t::h0) vs ds bC) (iD:∀ (j:Nat) u v,(t::h0)[j]? =some u→vs[j]? =some v→Value.okWide P W .any b u v):
 ∃ (a:α) (v:Value) (LN:List Value) (TU:List (DataW H)) (n4:List MemPlace) (d:DataW H),vs=v::LN∧ds=d::TU∧ (I.of a).holds [] W v∧DataW.TrodAll enc P W 0 (fun _=>true) true h0 LN TU n4∧
   (∀ (j:Nat) u w,h0[j]? =some u→LN[j]? =some w→Value.okWide P W .any b u w):=by
 obtain⟨v,LL,d,LM,p,q,rfl,rfl,rfl,⟨n,h1⟩,ad⟩:=trodAll_cons h
 obtain⟨a,aD⟩:=bo.top h1 (iD 0 t v rfl rfl)
 exact⟨a,v,LL,LM,q,d,rfl,rfl,aD,ad,fun j u w aF hw=>iD (j+1) u w (by simpa using aF) (by simpa using hw)⟩
end Gv
namespace Gv
open Go
theorem Xo {L' L:List aN}(h:L'.Sublist L):(aS L').Sublist (aS L):=by
 induction h with
 | slnil=>simp [aS]
 | cons e _ b7=>cases hk:e.key <;> simp only [aS,hk] <;> first | exact b7 | exact b7.cons _
 | cons_cons e _ b7=>cases hk:e.key <;> simp only [aS,hk] <;> first | exact b7 | exact b7.cons_cons _
theorem aN.uo {e:aN}{A c8 W W'}(h:e.ok A W)(x:Ext A W c8 W')(hb:∀ p,e.key=some p→W'.heap[p]? =W.heap[p]?):e.ok c8 W':=by
 unfold aN.ok at *;cases hk:e.key with
 | none=>rw [hk] at h;exact h
 | some p=>
   rw [hk] at h
   obtain⟨o,h1,ad⟩:=h
   exact⟨o,by rw [hb p hk];exact h1,dV.mono _ x ad⟩
def kG (X b8:List Nat)(jx:World){δ:Type}(ρ:δ→I)(Lo:δ→List aN):Ending→World→Prop:=fun e W'=>
 ∃ v d,e= .returned v∧Fr X jx W'∧ (aS (Lo d)).Nodup∧ (∀ k∈aS (Lo d),k<W'.heap.size∧ (k<jx.heap.size→k∈X)∧k ∉ b8)∧ (∀ e∈Lo d,e.ok (aS (Lo d)++b8) W')∧ (ρ d).holds (aS (Lo d)++b8) W' v
def bZ (P:Program)(f:FuncId)(τs:List I)(Lin:List aN){δ:Type}(ρ:δ→I)(Lo:δ→List aN):Prop:=
 ∀ (A:List Nat) (W:World) (vs:List Value),(∀ k∈A,k<W.heap.size∧k ∉ aS Lin)→ (aS Lin).Nodup→ (∀ k∈aS Lin,k<W.heap.size)→ (∀ e∈Lin,e.ok (aS Lin++A) W)→hc (aS Lin++A) W τs vs→
   Calls P f vs.toArray W (kG (aS Lin) A W ρ Lo)
theorem bZ.of {P:Program}{f:FuncId}{fn:Func}{code:Code}{n:Nat}{τs:List I}{Lin:List aN}{δ:Type}{ρ:δ→I}{Lo:δ→List aN}(bb:P.funcs[f]? =some fn)(hb:fn.body=some code)(aO:fn.ntmps=n)(hlen:Nat.ble τs.length n=true)
 (h:∀ W A,ag ⟨P,n,W,aS Lin,A,none,[]⟩ (bodyPost P fn (kG (aS Lin) A W ρ Lo)) code (params 0 τs) Lin):bZ P f τs Lin ρ Lo:=by
 intro A W vs gk h7 ct iD a6
 refine calls_of_wp bb hb (wpIn_wide.1 (h W A _ _ ?_))
 have al:=a6.length
 have hle:τs.length≤n:=Nat.le_of_ble_eq_true hlen
 exact
 {defers:=rfl
  size:=by simp [aO,al];omega
  env:=fun t τ iB=>by
   obtain⟨_,v,ad,aD⟩:=wa a6 0 t τ iB;refine⟨v,?_,aD⟩;have ct:t<vs.length:=(List.getElem?_eq_some_iff.1 ad).1;rw [Array.getElem?_append_left (by simpa using ct)];simpa using ad
  dR:= .refl _ _
  own:=iD
  nodup:=h7
  lt:=ct
  gw:=fun k hk _=>hk
  fb:=gk }
section
variable {c:dt} {E:List (Nat×I)} {L:List aN} {ops:Array Oper} {Q:Exit→Act→World→Prop}
variable {d:Option Tmp} {ty:TypeId} {pos:String} {af:Array Edge} {g:Option (Nat×Bool)} {x y:Operand} {t t2:TypeId}
def vr (c:dt)(E:List (Nat×I))(L:List aN)(r:ResultVar)(τ:I):Prop:=
 ∀ a W,bM c E L a W→ ∃ v,(wH a.tmps r).run c.P W= .ok v W∧τ.holds (aS L++c.b8) W v
theorem dL {t:Nat}{τ:I}(h:look E t=some τ):vr c E L (.tmp t) τ:=fun a W s=>by
 obtain⟨v,h1,ad⟩:=s.env t τ h;exact⟨v,by simp [wH,h1],ad⟩
theorem jh {t:Nat}{ty:TypeId}{i p:Nat}{α:Type}[ah α]{x:α}(eD:bG c.P ty α)(h:look E t=some (.eq (.pointer (some ⟨p,0,none⟩))))(ak:L[i]? =some ⟨some p,.var x⟩):vr c E L (.cell t ty) (.of x):=fun a W s=>by
 obtain⟨v,h1,ad⟩:=s.env t _ h;subst ad;obtain⟨ky,eY,cs,T,rfl,gx⟩:=s.own _ (List.mem_of_getElem? ak);have al:cs.toList.length=ah.size α:=ah.len gx;have ev:cs.size=ah.size α:=by simpa using al
 obtain⟨v,aD,aZ⟩:=vT (A:=aS L++c.b8) (off:=0) eD eY (by omega) (by rw [List.drop_zero,← al,List.take_length];exact gx);exact⟨v,by simp [wH,h1,asAddr,aD],aZ⟩
theorem bM.ends {a:Act}{W:World}(s:bM c E L a W){δ:Type}{ρ:δ→I}{Lo:δ→List aN}(bf:δ)(hs:(Lo bf).Sublist L){v:Value}(a6:(ρ bf).holds (aS L++c.b8) W v):kG c.X c.b8 c.jx ρ Lo (.returned v) W:=by
 have lh:=Xo hs;have hk:∀ k∈aS (Lo bf),k∈aS L:=fun k hk=>lh.subset hk;have gR:Ext (aS L++c.b8) W (aS (Lo bf)++c.b8) W:= .drop fun k hm=>by
  rcases List.mem_append.1 hm with hm | hm
  ·exact List.mem_append.2 (.inl (hk k hm))
  exact List.mem_append.2 (.inr hm)
 exact⟨v,bf,rfl,s.dR,s.nodup.sublist lh,fun k hm=>⟨s.lt k (hk k hm),s.gw k (hk k hm),fun bo=>(s.fb k bo).2 (hk k hm)⟩,
  fun e he=>aN.uo (s.own e (hs.subset he)) gR fun _ _=>rfl,I.mono _ gR a6⟩
theorem fB {L L':List aN}(n:Nat)(h:L.drop n=L':=by rfl):L'.Sublist L:=h ▸ List.drop_sublist n L
theorem aa.fI {fn:Func}{r:ResultVar}{τ:I}{δ:Type}{ρ:δ→I}{Lo:δ→List aN}(bf:δ)(hs:(Lo bf).Sublist L)(aR:fn.results= #[r])(tw:ρ bf=τ)(h:vr c E L r τ)(gT:c.ds= []:=by rfl):aa c (bodyPost c.P fn (kG c.X c.b8 c.jx ρ Lo)) .ret E L:=fun a W s=>by
 subst tw;obtain⟨v,h1,ad⟩:=h a W s;exact⟨s.wk gT,v,by simp [wc,aR,h1],s.ends bf hs ad⟩
theorem aa.j7 {fn:Func}{r hA:ResultVar}{τ oR:I}{δ:Type}{ρ:δ→I}{Lo:δ→List aN}(bf:δ)(hs:(Lo bf).Sublist L)(aR:fn.results= #[r,hA])(tw:ρ bf= .eu [τ,oR])(h:vr c E L r τ)(ad:vr c E L hA oR)(gT:c.ds= []:=by rfl):aa c (bodyPost c.P fn (kG c.X c.b8 c.jx ρ Lo)) .ret E L:=fun a W s=>by
 obtain⟨v,aD,aZ⟩:=h a W s;obtain⟨v2,bc,bu⟩:=ad a W s;exact⟨s.wk gT,.tuple #[v,v2],by simp [wc,aR,aD,bc],s.ends bf hs (by rw [tw];exact⟨_,rfl,.cons aZ (.cons bu .nil)⟩)⟩
theorem aa.Ku {fn:Func}{r hA oW:ResultVar}{τ oR D1:I}{δ:Type}{ρ:δ→I}{Lo:δ→List aN}(bf:δ)(hs:(Lo bf).Sublist L)(aR:fn.results= #[r,hA,oW])(tw:ρ bf= .eu [τ,oR,D1])(h:vr c E L r τ)(ad:vr c E L hA oR)(aD:vr c E L oW D1)(gT:c.ds= []:=by rfl):aa c (bodyPost c.P fn (kG c.X c.b8 c.jx ρ Lo)) .ret E L:=fun a W s=>by
 obtain⟨v,aw,f1⟩:=h a W s;obtain⟨v2,aX,f2⟩:=ad a W s;obtain⟨v3,dc,f3⟩:=aD a W s;exact⟨s.wk gT,.tuple #[v,v2,v3],by simp [wc,aR,aw,aX,dc],s.ends bf hs (by rw [tw];exact⟨_,rfl,.cons f1 (.cons f2 (.cons f3 .nil))⟩)⟩
theorem uf:∀ {L:List aN} {i:Nat} {e:aN},L[i]? =some e→L.Perm (e::L.eraseIdx i)
 | [],i,e,h=>by simp at h
 | x::r,0,e,h=>by simp only [List.getElem?_cons_zero,Option.some.injEq] at h;subst h;exact .refl _
 | x::r,i+1,e,h=>by
   simp only [List.getElem?_cons_succ] at h;exact((uf h).cons x).trans (.swap e x _)
theorem bM.bD {a:Act}{W:World}(s:bM c E L a W){i:Nat}{e:aN}(h:L[i]? =some e):bM c E (e::L.eraseIdx i) a W:=s.perm (uf h)
theorem ae.bD {l:List Oper}(i:Nat){e:aN}(h:L[i]? =some e)(k:ae c ops Q l E (e::L.eraseIdx i)):ae c ops Q l E L:=fun a W s=>k a W (s.bD h)
theorem aa.bD {z:Exit}(i:Nat){e:aN}(h:L[i]? =some e)(k:aa c Q z E (e::L.eraseIdx i)):aa c Q z E L:=fun a W s=>k a W (s.bD h)
theorem bM.after {a:Act}{W W':World}{Lin Lr:List aN}(s:bM c E (Lin++Lr) a W){Lo:List aN}(bb:Fr (aS Lin) W W')(h7:(aS Lo).Nodup)
 (hk:∀ k∈aS Lo,k<W'.heap.size∧ (k<W.heap.size→k∈aS Lin)∧k ∉ aS Lr++c.b8) (iD:∀ e∈Lo,e.ok (aS Lo++(aS Lr++c.b8)) W'):bM c E (Lo++Lr) a W':=by
 have gR:Ext (aS (Lin++Lr)++c.b8) W (aS (Lo++Lr)++c.b8) W':=
  ⟨bb.size,fun k ct bo=>bb.block k ct fun hm=>bo (by rw [e5];simp [hm]),fun k hm ct=>by
   rw [e5] at hm ⊢;simp only [List.mem_append] at hm ⊢;rcases hm with(hm | hm) | hm
   ·exact .inl (.inl ((hk k hm).2.1 ct))
   ·exact .inl (.inr hm)
   exact .inr hm⟩
 have mN:=s.nodup
 rw [e5] at mN
 obtain⟨n9,px,q1⟩:=List.nodup_append.1 mN
 have zQ:∀ k∈aS Lr,k<W.heap.size∧k ∉ aS Lin:=fun k hm=>⟨s.lt k (by rw [e5];exact List.mem_append.2 (.inr hm)),fun h=>q1 k h k hm rfl⟩
 exact
 {defers:=s.defers
  size:=s.size
  env:=fun t τ al=>let⟨v,h1,ad⟩:=s.env t τ al; ⟨v,h1,τ.mono gR ad⟩
  dR:=⟨bb.os.trans s.dR.os,bb.tape.trans s.dR.tape,bb.output.trans s.dR.output,Nat.le_trans s.dR.drawn bb.drawn,Nat.le_trans s.dR.size bb.size,fun k ct ao=>
   (bb.block k (Nat.lt_of_lt_of_le ct s.dR.size) fun hm=>ao (s.gw k (by rw [e5];exact List.mem_append.2 (.inl hm)) ct)).trans (s.dR.block k ct ao)⟩
  own:=fun e he=>by
   rcases List.mem_append.1 he with he | he
   ·have:=iD e he;refine aN.uo this (.drop fun k hm=>?_) fun _ _=>rfl;rw [e5] at hm;simp only [List.mem_append] at hm ⊢;rcases hm with(hm | hm) | hm
    ·exact .inl hm
    ·exact .inr (.inl hm)
    exact .inr (.inr hm)
   exact aN.uo (s.own e (List.mem_append.2 (.inr he))) gR fun p hp=>by
    have:=zQ p (lM.2 ⟨e,he,hp⟩);exact bb.block p this.1 this.2
  nodup:=by
   rw [e5];exact List.nodup_append.2 ⟨h7,px,fun k h1 j ad e=>by subst e;exact(hk k h1).2.2 (List.mem_append.2 (.inl ad))⟩
  lt:=fun k hm=>by
   rw [e5] at hm;rcases List.mem_append.1 hm with hm | hm
   ·exact(hk k hm).1
   exact Nat.lt_of_lt_of_le (zQ k hm).1 bb.size
  gw:=fun k hm bR=>by
   rw [e5] at hm;have ct:k<W.heap.size:=Nat.lt_of_lt_of_le bR s.dR.size;rcases List.mem_append.1 hm with hm | hm
   ·exact s.gw k (by rw [e5];exact List.mem_append.2 (.inl ((hk k hm).2.1 ct))) bR
   exact s.gw k (by rw [e5];exact List.mem_append.2 (.inr hm)) bR
  fb:=fun k hm=>by
   obtain⟨h1,ad⟩:=s.fb k hm;refine⟨Nat.lt_of_lt_of_le h1 bb.size,fun h=>?_⟩;rw [e5] at h ad;rcases List.mem_append.1 h with h | h
   ·exact(hk k h).2.2 (List.mem_append.2 (.inr hm))
   exact ad (List.mem_append.2 (.inr h)) }
theorem ik.QY {xs:List Operand}{τs:List I}(h:ik c E L xs τs){a:Act}{W:World}(s:bM c E L a W):hc (aS L++c.b8) W τs (xs.map a.eval):=h.holds a W s
theorem BH {a:Act}{W:World}{f:FuncId}{xs:List Operand}{ats:Array TypeId}{τs:List I}{Lin Lr:List aN}{δ:Type}{ρ:δ→I}{Lo:δ→List aN}(ew:bL c.P f)(h:bZ c.P f τs Lin ρ Lo)
 (s:bM c E (Lin++Lr) a W) (ao:hc (aS (Lin++Lr)++c.b8) W τs (xs.map a.eval)):
 hv c.P ⟨d,.call ⟨.value (.func f),xs.toArray,ats⟩,ty,pos,af,g⟩ a W fun v W'=> ∃ bf,bM c E (Lo bf++Lr) a W'∧ (ρ bf).holds (aS (Lo bf++Lr)++c.b8) W' v:=by
 have mN:=s.nodup
 rw [e5] at mN
 obtain⟨n9,px,q1⟩:=List.nodup_append.1 mN
 have kK:Ext (aS (Lin++Lr)++c.b8) W (aS Lin++(aS Lr++c.b8)) W:= .drop fun k hm=>by
  rw [e5];simp only [List.mem_append] at hm ⊢;rcases hm with hm | hm | hm
  ·exact .inl (.inl hm)
  ·exact .inl (.inr hm)
  exact .inr hm
 have gk:∀ k∈aS Lr++c.b8,k<W.heap.size∧k ∉ aS Lin:=fun k hm=>by
  rcases List.mem_append.1 hm with hm | hm
  ·exact⟨s.lt k (by rw [e5];exact List.mem_append.2 (.inr hm)),fun h=>q1 k h k hm rfl⟩
  obtain⟨h1,ad⟩:=s.fb k hm;exact⟨h1,fun h=>ad (by rw [e5];exact List.mem_append.2 (.inl h))⟩
 have ct:∀ k∈aS Lin,k<W.heap.size:=fun k hm=>s.lt k (by rw [e5];exact List.mem_append.2 (.inl hm))
 refine .wm (f:=f) (args:=(xs.map a.eval).toArray) (W':=W) (by simp [execOp,resolve,Deferred.ofValue,Act.eval,invoke,ew.run]) ?_
 refine(h (aS Lr++c.b8) W (xs.map a.eval) gk n9 ct (fun e he=>aN.uo (s.own e (List.mem_append.2 (.inl he))) kK fun _ _=>rfl) (ao.mono kK)).mono fun e W' ⟨v,bf,he,bb,h1,ad,aD,aZ⟩=>?_
 refine⟨v,he,bf,s.after bb h1 ad aD,(ρ bf).mono (.drop fun k hm=>?_) aZ⟩
 rw [e5] at hm
 simp only [List.mem_append] at hm ⊢
 rcases hm with(hm | hm) | hm
 ·exact .inl hm
 ·exact .inr (.inl hm)
 exact .inr (.inr hm)
theorem ae.kE {rest:List Oper}{bf:Nat}{f:FuncId}{xs:List Operand}{ats:Array TypeId}{τs:List I}{Lin Lr:List aN}{δ:Type}{ρ:δ→I}{Lo:δ→List aN}(ew:bL c.P f)(h:bZ c.P f τs Lin ρ Lo)
 (ao:ik c E (Lin++Lr) xs τs) (aO:Nat.blt bf c.n=true) (k:∀ q,ae c ops Q rest ((bf,ρ q)::E) (Lo q++Lr)):
 ae c ops Q (⟨some bf,.call ⟨.value (.func f),xs.toArray,ats⟩,ty,pos,af,none⟩::rest) E (Lin++Lr):=fun a W s=>
 h3 rfl (BH ew h s (ao.holds a W s)) fun v W' ⟨q,cw,a6⟩=>k q _ _ (cw.put (by simpa using aO) a6)
end
def ka {α:Type}(xs:List α)(k:Nat)(v:α):List α:=xs.set k v
section
variable {c:dt} {E:List (Nat×I)} {L:List aN} {ops:Array Oper} {Q:Exit→Act→World→Prop}
variable {d:Option Tmp} {ty:TypeId} {pos:String} {af:Array Edge} {g:Option (Nat×Bool)} {x y:Operand} {t t2:TypeId}
theorem bM.rowAt {a:Act}{W:World}(s:bM c E L a W){i:Nat}{key:Option Nat}{T cap:Nat}{α:Type}[ah α]{xs:List α}(ak:L[i]? =some ⟨key,.row T xs cap⟩)(ao:0<xs.length):
 ∃ p cs,key=some p∧W.heap[p]? =some (.cells cs T (0,0))∧cs.size=cap * ah.size α∧xs.length≤cap∧cap≤maxLen∧hg (aS L++c.b8) W (cs.toList.take (xs.length * ah.size α)) xs:=by
 have bk:=s.own _ (List.mem_of_getElem? ak)
 cases key with
 | none=>have:xs= []:=bk.1;subst this;simp at ao
 | some p=>
   obtain⟨o,eY,cs,rfl,h1,ad,aD,aZ⟩:=bk
   exact⟨p,cs,rfl,eY,h1,ad,aD,aZ⟩
theorem p0 {e i k T cap:Nat}{key:Option Nat}{α:Type}[ah α]{xs:List α}{z:Int}(hu:c.P.underlying t=some (.slice e))(eZ:bG c.P e α)(ao:bg c E L x (.eq (aW key xs.length cap)))(a7:bg c E L y (.of z))
 (ak:L[i]? =some ⟨key,.row T xs cap⟩) (hk:k<xs.length∧z=k):cf c E L ⟨d,.indexAddr t x y,ty,pos,af,g⟩ (.eq (.pointer (some ⟨key.getD 0,k * ah.size α,none⟩))):= .pure fun a W s=>by
 obtain⟨bu,rfl⟩:=hk
 obtain⟨p,cs,rfl,_⟩:=s.rowAt ak (by omega)
 have h1:a.eval x=_:=ao a W s
 have bc:=of_int.1 (a7 a W s)
 obtain⟨gG,eM,ev⟩:=eZ.info
 exact⟨_,by simp [execOp,Instr.indexAt,asIntOf,run_underlying hu,h1,bc,bu,Go.sizeOf,typeInfo,eM,ev,jL,aW];rfl,by simp [I.eq]⟩
theorem y9 {k n s:Nat}(h:k<n):k * s+s≤n * s:=by rw [← Nat.succ_mul];exact Nat.mul_le_mul_right _ h
theorem wy {i k T cap o:Nat}{key:Option Nat}{α γ:Type}[ah α][Inhabited α][ah γ]{xs:List α}(l:aI α γ){r:γ}(eD:bG c.P t γ)(ao:bg c E L x (.eq (.pointer (some ⟨key.getD 0,o,none⟩))))
 (ak:L[i]? =some ⟨key,.row T xs cap⟩) (hk:k<xs.length) (bk:o=k * ah.size α+l.off) (aR:l.get (ay xs k)=r):cf c E L ⟨d,.load t x,ty,pos,af,g⟩ (.of r):= .pure fun a W s=>by
 subst bk;subst aR
 obtain⟨p,cs,rfl,eY,h1,ad,aD,aZ⟩:=s.rowAt ak (by omega)
 have fc:=y9 (s:=ah.size α) hk
 have al:=l.gK
 have hle:xs.length * ah.size α≤cap * ah.size α:=Nat.mul_le_mul_right _ ad
 have gx:=l.iV (aZ.2 k hk)
 rw [vX _ _ _ _ _ l.gK,List.drop_take,List.take_take,Nat.min_eq_left (by omega)] at gx
 rw [eU xs hk]
 obtain⟨v,bc,bu⟩:=vT (A:=aS L++c.b8) eD eY (off:=k * ah.size α+l.off) (by omega) gx
 have dh:a.eval x=_:=ao a W s
 simp only [Option.getD_some] at dh
 exact⟨v,by simp [execOp,Instr.loadAt,Instr.sureAddr,dh,bc],bu⟩
theorem ae.B8 {rest:List Oper}{i k T cap o:Nat}{key:Option Nat}{α γ:Type}[ah α][Inhabited α][ah γ]{xs r:List α}{v:γ}(l:aI α γ)(eD:bG c.P t γ)(ao:bg c E L x (.eq (.pointer (some ⟨key.getD 0,o,none⟩))))(a7:bg c E L y (.of v))
 (ak:L[i]? =some ⟨key,.row T xs cap⟩) (hk:k<xs.length) (bk:o=k * ah.size α+l.off) (aR:ka xs k (l.set (ay xs k) v)=r)
 (k':ae c ops Q rest E (L.set i ⟨key,.row T r cap⟩)):ae c ops Q (⟨none,.store t x y,ty,pos,af,none⟩::rest) E L:=fun a W s=>by
 subst bk;subst aR
 obtain⟨p,cs,rfl,eY,h1,ad,aD,aZ⟩:=s.rowAt ak (by omega)
 have fc:=y9 (s:=ah.size α) hk
 have al:=l.gK
 have hle:xs.length * ah.size α≤cap * ah.size α:=Nat.mul_le_mul_right _ ad
 have a6:=a7 a W s
 have q2:(a.eval y).cells.toList.length=ah.size γ:=ah.len a6.2
 have bc:=Bo (A:=aS L++c.b8) eD eY (off:=k * ah.size α+l.off) (by omega) a6
 have dh:a.eval x=_:=ao a W s
 simp only [Option.getD_some] at dh
 refine h3 rfl (R:=fun v W'=>W'=W.setRow p (gD cs.toList (k * ah.size α+l.off) (a.eval y).cells.toList).toArray) (.yV ?_ rfl) fun u W' hw=>?_
 ·simp [execOp,Instr.storeAt,Instr.sureAddr,dh,bc]
 subst hw
 refine k' _ _ (s.store ak eY ?_)
 have mT:cs.toList.length=cap * ah.size α:=by simpa using h1
 have ps:(gD cs.toList (k * ah.size α+l.off) (a.eval y).cells.toList).length=cs.toList.length:=by
  simp only [gD,List.length_append,List.length_take,List.length_drop,q2];omega
 refine⟨_,rfl,by simpa [mT] using ps,by simpa [ka] using ad,aD,?_⟩
 have g1:=aZ.2 k hk
 have g2:=l.lK g1 a6.2
 have g3:=Jb aZ hk g2
 have r6:(cs.toList.take (xs.length * ah.size α)).length=xs.length * ah.size α:=by rw [List.length_take];omega
 rw [OB _ _ _ _ _ _ l.gK (by omega)] at g3
 have hlen:(ka xs k (l.set (ay xs k) v)).length=xs.length:=by simp [ka]
 rw [hlen,List.toList_toArray]
 have e:(gD cs.toList (k * ah.size α+l.off) (a.eval y).cells.toList).take (xs.length * ah.size α)=
  (cs.toList.take (xs.length * ah.size α)).take (k * ah.size α+l.off)++(a.eval y).cells.toList++(cs.toList.take (xs.length * ah.size α)).drop (k * ah.size α+l.off+ah.size γ):=by
  have aw:(cs.toList.take (k * ah.size α+l.off)).length=k * ah.size α+l.off:=by rw [List.length_take];omega
  have aX:(cs.toList.take (k * ah.size α+l.off)++(a.eval y).cells.toList).length=k * ah.size α+l.off+ah.size γ:=by rw [List.length_append,aw,q2]
  rw [gD,q2,List.take_append,aX,List.take_of_length_le (by omega),List.take_take,Nat.min_eq_left (by omega),List.drop_take]
 rw [e,show ka xs k (l.set (ay xs k) v)=xs.set k (l.set xs[k] v) by rw [ka,eU xs hk]]
 exact g3
def ix (key:Option Nat)(lo n cap size:Nat):Value:=match key with
 | some p=>.slice (some (if cap=lo then⟨p,0,none⟩ else⟨p,lo * size,none⟩)) n (cap - lo)
 | none=>.slice none 0 0
theorem BK {key:Option Nat}{n cap size:Nat} :ix key 0 n cap size=aW key n cap:=by
 cases key <;> simp [ix,aW]
theorem FT {i T cap:Nat}{key:Option Nat}{α:Type}[ah α]{xs:List α}{e:TypeId}{lo ar:Option Operand}{m n:Nat}{Ex Ey:Int}(hu:c.P.underlying t=some (.slice e))(eZ:bG c.P e α)(ao:bg c E L x (.eq (aW key xs.length cap)))
 (ak:L[i]? =some ⟨key,.row T xs cap⟩) (hy:vC c E L lo Ex 0) (eL:vC c E L ar Ey xs.length) (hm:Ex=m) (aO:Ey=n) (h:m≤n∧n≤xs.length):
 cf c E L ⟨d,.slice t x lo ar none,ty,pos,af,g⟩ (.eq (ix key m (n - m) cap (ah.size α))):= .pure fun a W s=>by
 subst hm;subst aO
 obtain⟨rY,ly⟩:=h
 obtain⟨gG,eM,ev⟩:=eZ.info
 have h1:a.eval x=_:=ao a W s
 have bk:=s.own _ (List.mem_of_getElem? ak)
 cases key with
 | none=>
   have h8:xs= []:=bk.1
   subst h8
   have r4:n=0:=by simpa using ly
   have hi:m=0:=by omega
   subst r4
   subst hi
   refine⟨.slice none 0 0,?_,rfl⟩
   have ak:(match lo.map a.eval with | some v=>Instr.sliceBound v 0 .sliceB | none=>pure 0:Sem Nat).run c.P W= .ok 0 W:=by
    cases hy with
    | none=>rfl
    | some al=>exact pN (Nat.le_refl _) (of_int.1 (al a W s))
   have hH:(match ar.map a.eval,(none:Option Value) with | some v,some _=>Instr.sliceBound v 0 .slice3B | some v,none=>Instr.sliceBound v 0 .sliceAcap | none,none=>pure 0 | none,some _=>stuck "Slice: max without high" :Sem Nat).run c.P W= .ok 0 W:=by
    cases eL with
    | none=>rfl
    | some al=>exact pN (Nat.le_refl _) (of_int.1 (al a W s))
   cases hy <;> cases eL
   all_goals
    simp only [aW,execOp,Instr.sliceAt,Instr.slice,Instr.sliceBounds,h1,Sem.run_bind,run_underlying hu,Result.andThen_ok,Option.map_none,Option.map_some,Option.isSome_none,Bool.false_eq_true,if_false,if_true,Sem.run_pure] at ak hH ⊢
    try simp only [ak,hH,Result.andThen_ok,Go.sizeOf,typeInfo,Sem.run_bind,run_program,eM,Sem.run_pure]
    try simp [eM]
 | some p=>
   obtain⟨o,eY,cs,rfl,g1,g2,g3,g4⟩:=bk
   refine⟨_,?_,rfl⟩
   simp only [ix]
   have ak:∀ v,v=Value.int .i64 m→ (Instr.sliceBound v n .sliceB).run c.P W= .ok m W:=fun v a6=>pN rY a6
   have hH:∀ v,v=Value.int .i64 n→ (Instr.sliceBound v cap .sliceAcap).run c.P W= .ok n W:=fun v a6=>pN (by omega) a6
   generalize fc:(n:Int)=Uv at eL
   generalize D5:(m:Int)=Uw at hy
   generalize D6:(xs.length:Int)=Ux at eL
   generalize TR:(0:Int)=Uy at hy
   cases hy with
   | none=>
     have hi:m=0:=by omega
     cases eL with
     | none=>
       have ly:n=xs.length:=by omega
       subst ly
       subst hi
       simp [execOp,Instr.sliceAt,Instr.slice,Instr.sliceBounds,h1,aW,run_underlying hu,Go.sizeOf,typeInfo,eM,ev,jL]
     | some cu=>
       subst fc
       subst hi
       simp [execOp,Instr.sliceAt,Instr.slice,Instr.sliceBounds,h1,aW,run_underlying hu,Go.sizeOf,typeInfo,eM,ev,jL,hH _ (of_int.1 (cu a W s))]
   | some al=>
     subst D5
     cases eL with
     | none=>
       have ly:n=xs.length:=by omega
       subst ly
       simp [execOp,Instr.sliceAt,Instr.slice,Instr.sliceBounds,h1,aW,run_underlying hu,Go.sizeOf,typeInfo,eM,ev,jL,ak _ (of_int.1 (al a W s))]
       split <;> rfl
     | some cu=>
       subst fc
       simp [execOp,Instr.sliceAt,Instr.slice,Instr.sliceBounds,h1,aW,run_underlying hu,Go.sizeOf,typeInfo,eM,ev,jL,ak _ (of_int.1 (al a W s)),hH _ (of_int.1 (cu a W s))]
       split <;> rfl
theorem bM.again {a:Act}{W:World}(s:bM c E L a W){i:Nat}{key:Option Nat}{cp cp':dV}(ak:L[i]? =some ⟨key,cp⟩)(h:∀ A W o,cp.holds A W o→cp'.holds A W o)(aO:cp.ni→cp'.ni):bM c E (L.set i ⟨key,cp'⟩) a W:=by
 have gy:aS (L.set i ⟨key,cp'⟩)=aS L:=y7 (e:=⟨key,cp⟩) (cp:=cp') ak;exact
 {defers:=s.defers
  size:=s.size
  env:=fun t τ al=>by rw [gy];exact s.env t τ al
  dR:=s.dR
  own:=fun e he=>by
   rw [gy];obtain⟨j,aF⟩:=List.mem_iff_getElem?.1 he;rw [List.getElem?_set] at aF;split at aF
   ·split at aF
    ·simp only [Option.some.injEq] at aF;subst aF;have bk:=s.own _ (List.mem_of_getElem? ak);cases key with
     | none=>exact aO bk
     | some p=>obtain⟨o,h1,ad⟩:=bk;exact⟨o,h1,h _ _ _ ad⟩
    cases aF
   exact s.own e (List.mem_of_getElem? aF)
  nodup:=by rw [gy];exact s.nodup
  lt:=by rw [gy];exact s.lt
  gw:=by rw [gy];exact s.gw
  fb:=by rw [gy];exact s.fb }
theorem I6 {T cap n:Nat}{α:Type}[ah α]{xs:List α}(aO:n≤xs.length){A W o}(h:(dV.row T xs cap).holds A W o):(dV.row T (xs.take n) cap).holds A W o:=by
 obtain⟨cs,rfl,h1,ad,aD,aZ⟩:=h;have al:(xs.take n).length=n:=by rw [List.length_take];omega
 have hle:n * ah.size α≤xs.length * ah.size α:=Nat.mul_le_mul_right _ aO;have G0:xs.length * ah.size α≤cap * ah.size α:=Nat.mul_le_mul_right _ ad;refine⟨cs,rfl,h1,by omega,aD,?_⟩;rw [al];have mT:cs.toList.length=cap * ah.size α:=by simpa using h1
 refine⟨by rw [List.length_take,al];omega,fun i ar=>?_⟩;have hx:i<n:=by omega
 have fc:=y9 (s:=ah.size α) hx;have:=aZ.2 i (by omega);rw [List.drop_take,List.take_take,Nat.min_eq_left (by omega)] at this ⊢;rw [List.getElem_take];exact this
end
def rG {α:Type}[Inhabited α](xs:List α)(lo n:Nat):List α:=xs.take lo++List.replicate n default++xs.drop (lo+n)
theorem OF {α:Type}[ah α]{A W}{cs ds:List Value}{xs ys:List α}{lo:Nat}(h:hg A W cs xs)(df:hg A W ds ys)(hk:lo+ys.length≤xs.length):
 hg A W (cs.take (lo * ah.size α)++ds++cs.drop (lo * ah.size α+ds.length)) (xs.take lo++ys++xs.drop (lo+ys.length)):=by
 have al:=h.1
 have hle:lo * ah.size α≤xs.length * ah.size α:=Nat.mul_le_mul_right _ (by omega)
 have t1:hg A W (cs.take (lo * ah.size α)) (xs.take lo):=by
  have e:(xs.take lo).length=lo:=by rw [List.length_take];omega
  refine⟨by rw [List.length_take,e];omega,fun i ar=>?_⟩;have hx:i<lo:=by omega
  have:=h.2 i (by omega);have fc:=y9 (s:=ah.size α) hx;rw [List.drop_take,List.take_take,Nat.min_eq_left (by omega),List.getElem_take];exact this
 have t3:hg A W (cs.drop (lo * ah.size α+ds.length)) (xs.drop (lo+ys.length)):=by
  have e:lo * ah.size α+ds.length=(lo+ys.length) * ah.size α:=by rw [df.1,Nat.add_mul]
  rw [e];refine⟨by rw [List.length_drop,List.length_drop,al,← Nat.sub_mul],fun i ar=>?_⟩;rw [List.length_drop] at ar;have:=h.2 (lo+ys.length+i) (by omega);rw [List.drop_drop,← Nat.add_mul,List.getElem_drop];exact this
 exact ud (ud t1 df) t3
section
variable {c:dt} {E:List (Nat×I)} {L:List aN} {ops:Array Oper} {Q:Exit→Act→World→Prop}
variable {d:Option Tmp} {ty:TypeId} {pos:String} {af:Array Edge} {g:Option (Nat×Bool)} {x y:Operand} {t t2:TypeId}
theorem ae.clear {rest:List Oper}{i e T cap lo n:Nat}{key:Option Nat}{α:Type}[ah α][Inhabited α]{xs r:List α}(hu:c.P.underlying t=some (.slice e))(eZ:bG c.P e α)(hl:cR c.P e (default:α))(ev:Nat.beq (ah.size α) 0=false)
 (ao:bg c E L x (.eq (ix key lo n cap (ah.size α)))) (ak:L[i]? =some ⟨key,.row T xs cap⟩) (aO:lo+n≤xs.length) (aR:rG xs lo n=r)
 (k:ae c ops Q rest E (L.set i ⟨key,.row T r cap⟩)):ae c ops Q (⟨none,.call ⟨.builtin .clear,#[x],#[t]⟩,ty,pos,af,none⟩::rest) E L:=fun a W s=>by
 subst aR
 have h1:a.eval x=_:=ao a W s
 have bk:=s.own _ (List.mem_of_getElem? ak)
 have kK:∀ cp,L.set i ⟨key,cp⟩=L.set i ⟨key,cp⟩:=fun _=>rfl
 by_cases bR:n=0∨key=none
 ·have h8:rG xs lo n=xs:=by
   rcases bR with bR | bR
   ·subst bR;simp [rG]
   subst bR;have:xs= []:=bk.1;subst this;have:n=0:=by simp at aO;omega
   subst this;simp [rG]
  have iP:(execOp a.eval ⟨none,.call ⟨.builtin .clear,#[x],#[t]⟩,ty,pos,af,none⟩).run c.P W= .ok (.value (.tuple #[])) W:=by
   rcases bR with bR | bR
   ·subst bR;cases key <;> simp [execOp,resolve,invoke,builtin,Builtin.clear_,h1,ix,run_underlying hu]
   subst bR;simp [execOp,resolve,invoke,builtin,Builtin.clear_,h1,ix,run_underlying hu]
  refine h3 rfl (R:=fun v W'=>W'=W) (.kX iP rfl) fun v W' hw=>?_
  subst hw
  rw [h8] at k
  have:L.set i ⟨key,.row T xs cap⟩=L:=by
   apply List.ext_getElem?;intro j;rw [List.getElem?_set];split
   ·rename_i gd;subst gd;have:=(List.getElem?_eq_some_iff.1 ak).1;rw [if_pos this,ak]
   rfl
  rw [this] at k
  exact k _ _ s
 have r4:0<n:=by
  rcases Nat.eq_zero_or_pos n with h | h
  ·exact absurd (.inl h) bR
  exact h
 obtain⟨p,cs,rfl,eY,g1,g2,g3,g4⟩:=s.rowAt ak (by omega)
 obtain⟨gG,eG,eM,dS,LO⟩:=hl.zero
 have Ht:=LO (aS L++c.b8) W
 have af4:eG.cells.toList.length=ah.size α:=ah.len Ht.2
 have k4:ah.size α≠0:=fun h=>by rw [h] at ev;cases ev
 have D9:=BM Ht n k4
 have xz:eG.cells.size=ah.size α:=by simpa using af4
 have LP:Builtin.zeroCells eG.cells n=(Array.range (n * ah.size α)).map (eG.cells[· % eG.cells.size]!):=by rw [Builtin.zeroCells,xz]
 rw [← LP] at D9
 generalize lD:(Builtin.zeroCells eG.cells n).toList=D at D9
 have ahV:D.length=n * ah.size α:=by rw [D9.1];simp
 have hy:cap≠lo:=by omega
 have hle:(lo+n) * ah.size α≤cap * ah.size α:=Nat.mul_le_mul_right _ (by omega)
 rw [Nat.add_mul] at hle
 have kN:=run_storeCells_at (P:=c.P) p (lo * ah.size α) _ D 0 cs W eY (by omega) D9.one
 have iP:(execOp a.eval ⟨none,.call ⟨.builtin .clear,#[x],#[t]⟩,ty,pos,af,none⟩).run c.P W= .ok (.value (.tuple #[])) (W.setRow p (gD cs.toList (lo * ah.size α) D).toArray):=by
  obtain⟨m,rfl⟩:∃ m,n=m+1:=⟨n - 1,by omega⟩;simp only [Nat.add_zero] at kN;simp [execOp,resolve,invoke,builtin,Builtin.clear_,h1,ix,run_underlying hu,hy,zeroValue,typeInfo,run_program,eM,dS,lD,kN,gD]
 refine h3 rfl (R:=fun v W'=>W'=W.setRow p (gD cs.toList (lo * ah.size α) D).toArray) (.kX iP rfl) fun v W' hw=>?_
 subst hw
 refine k _ _ (s.store ak eY ?_)
 have mT:cs.toList.length=cap * ah.size α:=by simpa using g1
 have hlen:(rG xs lo n).length=xs.length:=by simp [rG];omega
 have r6:(cs.toList.take (xs.length * ah.size α)).length=xs.length * ah.size α:=by
  rw [List.length_take];have:xs.length * ah.size α≤cap * ah.size α:=Nat.mul_le_mul_right _ g2;omega
 have ae6:(lo+n) * ah.size α≤xs.length * ah.size α:=Nat.mul_le_mul_right _ aO
 rw [Nat.add_mul] at ae6
 have ahH:xs.length * ah.size α≤cap * ah.size α:=Nat.mul_le_mul_right _ g2
 refine⟨_,rfl,?_,by rw [hlen];exact g2,g3,?_⟩
 ·simp only [List.size_toArray,gD,List.length_append,List.length_take,List.length_drop];omega
 rw [hlen,List.toList_toArray]
 have g5:=OF (lo:=lo) g4 D9 (by simpa using aO)
 have e:(gD cs.toList (lo * ah.size α) D).take (xs.length * ah.size α)=(cs.toList.take (xs.length * ah.size α)).take (lo * ah.size α)++D++(cs.toList.take (xs.length * ah.size α)).drop (lo * ah.size α+D.length):=by
  have aw:(cs.toList.take (lo * ah.size α)).length=lo * ah.size α:=by rw [List.length_take];omega
  have aX:(cs.toList.take (lo * ah.size α)++D).length=lo * ah.size α+D.length:=by rw [List.length_append,aw]
  rw [gD,List.take_append,aX,List.take_of_length_le (by omega),List.take_take,Nat.min_eq_left (by omega),List.drop_take]
 rw [e]
 simpa [rG] using g5
theorem bM.share {a:Act}{W:World}(s:bM c E L a W){i gN p:Nat}{α:Type}[ah α]{z:α}(al:look E gN=some (.eq (.pointer (some ⟨p,0,none⟩))))(ak:L[i]? =some ⟨some p,.var z⟩):bM c ((gN,.ptr z)::E) (L.set i ⟨none,.dead⟩) a W:=by
 have hk:=s.kill i;refine { hk with env:=fun t τ ft=>?_ };simp only [look] at ft;by_cases e:Nat.beq gN t=true
 ·rw [e] at ft;simp only [cond_true,Option.some.injEq] at ft;subst ft;have:=eH.1 e;subst this;obtain⟨v,h1,ad⟩:=s.env gN _ al;have lz:v=_:=ad;subst lz;obtain⟨o,eY,cs,T,rfl,aR⟩:=s.own _ (List.mem_of_getElem? ak);have hlen:cs.toList.length=ah.size α:=ah.len aR;refine⟨_,h1,p,0,cs,T,(0,0),rfl,s.BT ak,eY,by simp at hlen;omega,?_⟩;rw [List.drop_zero,← hlen,List.take_length];have lh:=yy (L:=L) (i:=i) (cp:= .dead);exact ah.mono (.drop fun k hm=>by
   rcases List.mem_append.1 hm with hm | hm
   ·exact List.mem_append.2 (.inl (lh.subset hm))
   exact List.mem_append.2 (.inr hm)) aR
 simp only [Bool.not_eq_true] at e;rw [e] at ft;exact hk.env t τ ft
theorem ae.share {l:List Oper}{p:Nat}{α:Type}[ah α]{z:α}(i gN:Nat)(al:look E gN=some (.eq (.pointer (some ⟨p,0,none⟩))))(ak:L[i]? =some ⟨some p,.var z⟩)(k:ae c ops Q l ((gN,.ptr z)::E) (L.set i ⟨none,.dead⟩)):ae c ops Q l E L:=
 fun a W s=>k a W (s.share al ak)
theorem Gg {α β:Type}[ah α][ah β]{F:α→Option β}{f:FuncId}{xs:List Operand}{τs:List I}(ew:bL c.P f)(ao:ik c E L xs τs)(h:∀ x r,F x=some r→bK c.P f (.of x::τs) (.of r)):
 cf c E L ⟨d,.makeFunc (.func f) #[] xs.toArray,ty,pos,af,g⟩ (.xj c.P F):= .pure fun a W s=>by
 have cu:=ao.holds a W s
 refine⟨.func (.func f) #[] (xs.map a.eval).toArray,by simp [execOp,Instr.makeFunc],f,_,_,rfl,ew,fun c8 W' e gk x r mx jy a6=>?_⟩
 simpa using h x r jy c8 W' (mx::xs.map a.eval) gk (.cons a6 (cu.mono e))
def I.Flat (τ:I):Prop:= ∀ A W c8 W' v,τ.holds A W v→τ.holds c8 W' v
theorem FJ {b:Bool} :(I.of b).Flat:=fun _ _ _ _ _ h=>h
theorem wj {b:Int} :(I.of b).Flat:=fun _ _ _ _ _ h=>h
theorem cf.adV {o:Oper}{τ:I}{T cap:Nat}{key:Option Nat}{α:Type}[ah α]{xs:List α}(i s:Nat)(al:look E s=some (.eq (aW key xs.length cap)))(ak:L[i]? =some ⟨key,.row T xs cap⟩)(bb:τ.Flat)
 (h:cf c ((s,.of xs)::E) (L.set i ⟨none,.dead⟩) o τ):cf c E L o τ:=fun a W st=>by
 have:=h a W (st.freeze al ak)
 unfold hv at this ⊢
 exact Oper.wp_mono (fun gX W' ⟨v,h1,ad,aD⟩=>⟨v,h1,ad,bb _ _ _ _ _ aD⟩) this
def I.Tr {α:Type}(xs:List α):I where
 holds _ _ v:= ∃ b:Bool,v= .bool b∧ (b=true→xs= [])
 mono _ h:=h
theorem Oh {P:Program}{e:TypeId}(W:World)(d:Nat){t:TypeId}(a:Option Addr)(l cp:Nat)(h:P.underlying t=some (.slice e)):(Op.equalIn (d+1) t (.slice a l cp) (.slice none 0 0)).run P W= .ok a.isNone W:=by
 cases a <;> simp [Op.equalIn,run_underlying h]
theorem Rv {α:Type}[ah α]{xs:List α}{e:TypeId}(hu:c.P.underlying t=some (.slice e))(ao:bg c E L x (.of xs)):cf c E L ⟨d,.binOp .eql t x (.const (.slice none 0 0)) t2,ty,pos,af,g⟩ (.Tr xs):= .pure fun a W s=>by
 have aO:a.eval (.const (.slice none 0 0))= .slice none 0 0:=rfl;rcases nM.1 (ao a W s) with⟨h1,rfl⟩ | ⟨b,off,cap,cur,T,hC,h1,ad⟩
 ·exact⟨.bool true,by
   simp only [execOp,eqGuard,binOp,h1,aO,Op.equal,Op.maxDepth];simp [Oh W 9999 none 0 0 hu],true,rfl,fun _=>rfl⟩
 exact⟨.bool false,by
  simp only [execOp,eqGuard,binOp,h1,aO,Op.equal,Op.maxDepth];simp [Oh W 9999 (some ⟨b,off,none⟩) xs.length cap hu],false,rfl,fun h=>by cases h⟩
theorem ag.Rw {α:Type}{y z:Code}{xs:List α}(al:bg c E L x (.Tr xs))(bP:xs= []→ag c Q y E L)(bb:ag c Q z E L):ag c Q (.cond x y z) E L:=fun a W s=>by
 obtain⟨b,h1,ad⟩:=al a W s;exact wpIn_cond_split h1 (fun h=>bP (ad h) a W s) (fun _=>bb a W s)
end
def bB (c:dt)(ops:Array Oper)(Q:Exit→Act→World→Prop)(f:Nat)(bp:Array Bool)(E:List (Nat×I))(L:List aN):Prop:=
 ∀ a W,bM c E L a W→wpAnyIn c.F 9 c.P .any ops Q f bp a W
def sg (K:Act→World→Prop)(Q:Exit→Act→World→Prop):Exit→Act→World→Prop
 | .normal,a,W=>K a W
 | x,a,W=>Q x a W
def Ts:Nat→Nat→List Bool
 | 0,_=>[]
 | n+1,k=>Nat.beq (k % 2) 1::Ts n (k / 2)
def c9 (n k:Nat):Array Bool:=Array.mk (Ts n k)
section
variable {c:dt} {E:List (Nat×I)} {L:List aN} {ops:Array Oper} {Q:Exit→Act→World→Prop}
theorem Oper.Ya {F:Fence}{n:Nat}{P:Program}{o:Oper}{a:Act}{K:Act→World→Prop}{r:Result Next}(h:o.uponIn F n P a K (sg K Q) r):o.uponIn F n P a K Q r:=by
 cases r with
 | ok m nD=>
   cases m <;> simp only [Oper.uponIn] at h ⊢ <;>
    first
     | exact h
     | exact⟨h.1,CallsIn.mono h.2 (fun e vk he=>by cases e <;> exact he)⟩
     | exact⟨h.1,RoundIn.mono h.2 (fun e vk he=>by cases e <;> exact he)⟩
 | halt x nD=>cases x <;> simp only [Oper.uponIn] at h ⊢ <;> exact h
theorem Ft {i:Nat}{o:Oper}{K:Act→World→Prop}{a:Act}{W:World}(ar:ops[i]? =some o)(h:c.qb ops (sg K Q) [o] a W):wpOpIn c.F 9 c.P ops Q i K a W:=by
 unfold wpOpIn;simp only [ar];simp only [dt.qb,wpListIn] at h;split
 ·rename_i hw;rw [if_pos hw] at h;exact⟨h.1,Oper.Ya h.2⟩
 rename_i hw;rw [if_neg hw] at h;exact h
def zu (c:dt)(ops:Array Oper)(Q:Exit→Act→World→Prop)(f:Nat)(bp:Array Bool)(E:List (Nat×I))(L:List aN):List Nat→Prop
 | []=>True
 | i::r=>(∃ o,ops[i]? =some o∧ae c ops (sg (wpAnyIn c.F 9 c.P .any ops Q f (bp.setIfInBounds i true)) Q) [o] E L)∧zu c ops Q f bp E L r
theorem zu.get {f:Nat}{bp:Array Bool} :∀ {rj:List Nat},zu c ops Q f bp E L rj→ ∀ i∈rj,∃ o,ops[i]? =some o∧ae c ops (sg (wpAnyIn c.F 9 c.P .any ops Q f (bp.setIfInBounds i true)) Q) [o] E L
 | _::_,h,i,ar=>by
   rcases List.mem_cons.1 ar with rfl | ar
   ·exact h.1
   exact zu.get h.2 i ar
theorem bB.step {f:Nat}{bp:Array Bool}(rj:List Nat)(aR:Region.ready .any ops bp=rj)(da:rj.isEmpty=false)(h:zu c ops Q f bp E L rj):bB c ops Q (f+1) bp E L:=fun a W s=>
 ⟨fun bR=>(by rw [← aR,bR] at da;exact absurd da (by simp)),fun i ar=>(by
  rw [aR] at ar;obtain⟨o,h1,ad⟩:=h.get i ar;exact Ft h1 (ad a W s))⟩
theorem bB.le {f:Nat}{bp:Array Bool}{E':List (Nat×I)}(h:gM E E')(k:bB c ops Q f bp E' L):bB c ops Q f bp E L:=fun a W s=>k a W (s.less h.look)
theorem aa.any {f:Nat}{bp uq:Array Bool}(al:bp=uq)(k:bB c ops Q f uq E L):aa c (sg (wpAnyIn c.F 9 c.P .any ops Q f bp) Q) .normal E L:=fun a W s=>by
 subst al;exact k a W s
theorem aa.b2 {f:Nat}{bp uq:Array Bool}{E':List (Nat×I)}(k:bB c ops Q f uq E' L)(h:gM E E':=by repeat (first | exact gM.nil | refine gM.same rfl ?_))(al:bp=uq:=by kernel_rfl):aa c (sg (wpAnyIn c.F 9 c.P .any ops Q f bp) Q) .normal E L:= .any al (.le h k)
theorem bB.de {f:Nat}{bp:Array Bool}(rj:List Nat)(h:zu c ops Q f bp E L rj)(aR:Region.ready .any ops bp=rj:=by kernel_rfl)(da:rj.isEmpty=false:=by rfl):bB c ops Q (f+1) bp E L:= .step rj aR da h
theorem bB.cut {γ:Type}(Ak:Nat)(uq:Array Bool)(E':γ→List (Nat×I))(L':γ→List aN){f:Nat}{bp:Array Bool}(h1:∀ g,bB c ops Q Ak uq (E' g) (L' g))
 (ad:(∀ g,bB c ops Q Ak uq (E' g) (L' g))→bB c ops Q f bp E L):bB c ops Q f bp E L:=ad h1
theorem ag.Kx {n5:Nat}{l:List Oper}(hm:c.P.follows .mixedOrders=true)(n:Nat)(ls:Array Bool)(aO:l.length=n)(LQ:Array.replicate n false=ls)(h:bB c l.toArray Q n ls E L):ag c Q (.region n5 l.toArray true) E L:=fun a W s=>by
 subst aO LQ;refine wpIn_region_any hm ?_;have:=h a W.drew (s.world (Fr.drew W));simpa using this
end
section
variable {c:dt} {E:List (Nat×I)} {L:List aN} {ops:Array Oper} {Q:Exit→Act→World→Prop}
variable {d:Option Tmp} {ty:TypeId} {pos:String} {af:Array Edge} {g:Option (Nat×Bool)} {x y:Operand} {t t2:TypeId}
theorem ae.qI {α:Type}[ah α]{rest:List Oper}{bf e n:Nat}{z:α}{r:List α}{bC:List (Nat×Operand)}(hu:c.P.underlying t=some (.slice e))(eZ:bG c.P e α)(hl:cR c.P e z)(hs:Nat.beq (ah.size α) 0=false)(aO:Nat.ble (n * ah.size α) 16777216=true)
 (bb:oA c E L (List.replicate n z) bC r) (k7:Nat.blt bf c.n=true) (k:∀ p,ae c ops Q rest ((bf,.eq (aW p r.length n))::E) (⟨p,.row e r n⟩::L)):
 ae c ops Q (⟨some bf,.buildSlice t n bC.toArray,ty,pos,af,none⟩::rest) E L:=fun a W s=>by
 obtain⟨gG,eG,eM,dS,r5⟩:=hl.zero
 have nX:gG.size=ah.size α:=by
  obtain⟨i2,h1,ad⟩:=eZ.info;rw [eM] at h1;cases h1;exact ad
 have eS:ah.size α≠0:=fun h=>by rw [h] at hs;cases hs
 have q0:=BM (r5 (aS L++c.b8) W) n eS
 obtain⟨en,aD,aZ,bc⟩:=bb.run a W s _ q0
 have hlen:r.length=n:=by rw [bc];simp
 have hm:(bC.toArray.map fun(x:Nat×Operand)=>(x.1,a.eval x.2)).toList=bC.map fun(i,x)=>(i,a.eval x):=by simp
 have ae1:=Nat.le_of_ble_eq_true aO
 refine h3 rfl (R:=fun v W'=>v= .slice (some ⟨W.heap.size,0,none⟩) n n∧W'=W.alloc (.cells en e)) (.kX (v:= .slice (some ⟨W.heap.size,0,none⟩) n n) (W':=W.alloc (.cells en e)) ?_ ⟨rfl,rfl⟩) fun v W' ⟨h1,ad⟩=>?_
 ·simp only [execOp,Instr.buildSlice,Sem.run_bind,run_underlying hu,Result.andThen_ok,Go.sizeOf,typeInfo,run_program,eM,Sem.run_pure,nX]
  rw [if_neg (by omega)]
  try simp only [Sem.run_pure,Result.andThen_ok,Sem.run_bind]
  by_cases bR:n * ah.size α=0
  ·have r4:n=0:=by
    rcases Nat.mul_eq_zero.1 bR with h | h
    ·exact h
    exact absurd h eS
   subst r4
   simp only [Nat.zero_mul,if_true,Sem.run_pure,Result.andThen_ok]
   try simp only [Nat.zero_mul] at aD
   have iS:((Array.range 0).map (fun x=>(#[]:Array Value)[x % (#[]:Array Value).size]!))=((Array.range 0).map (eG.cells[· % eG.cells.size]!)):=by simp
   simp only [pure_bind]
   rw [iS,hm,aD]
   simp [newRow]
  simp only [bR,if_false,Sem.run_bind,zeroValue,typeInfo,run_program,Result.andThen_ok,eM,dS,Sem.run_pure]
  rw [hm,aD]
  simp [newRow]
 subst h1 ad
 have uU:n≤maxLen:=by
  have:n * 1≤n * ah.size α:=Nat.mul_le_mul_left _ (by omega);have:maxLen=9223372036854775807:=rfl;omega
 have ev:en.size=n * ah.size α:=by have:=aZ.1;rw [hlen] at this;simpa using this
 have cw:=s.alloc (o:= .cells en e) (cp:= .row e r n) ⟨en,rfl,ev,by omega,uU,by
  have bu:=aZ.1;rw [← bu,List.take_length];exact aZ⟩
 refine k (some W.heap.size) _ _ (cw.put (τ:= .eq (aW (some W.heap.size) r.length n)) (by simpa using k7) ?_)
 show _=_
 rw [hlen];rfl
theorem ae.oH {l:List Oper}{key:Option Nat}{n m cap:Nat}(gN:Nat)(al:look E gN=some (.eq (aW key n cap)))(aO:n=m)(k:ae c ops Q l ((gN,.eq (aW key m cap))::E) L):ae c ops Q l E L:=fun a W s=>by
 subst aO;refine k a W (s.less fun t τ h=>?_);simp only [look] at h;by_cases e:Nat.beq gN t=true
 ·rw [e] at h;simp only [cond_true] at h;have:=eH.1 e;subst this;exact⟨τ,by rw [al,h],fun _ _ _ h=>h⟩
 simp only [Bool.not_eq_true] at e;rw [e] at h;exact⟨τ,h,fun _ _ _ h=>h⟩
end
theorem qs {α:Type}{xs r:List α}{k:Nat}{v:α}(h:ka xs k v=r):xs.length=r.length:=by rw [← h];simp [ka]
theorem Oz {α:Type}{b:Nat}{r:List α}(h:((hf b [] ([]:List α)).bind fun y=>some y)=some r):r= []:=by
 obtain⟨y,h1,ad⟩:=bind_some h;obtain⟨_,_,aD⟩:=OC h1;rw [aD] at ad;exact(dA ad).symm
end Gv
