/-
  The library of the decompiler, as far as it is needed here. Conditions: none.
-/
import Derived.WalkKit
import Derived.StillTail
import Derived.OwnWalkIn
import Derived.RangeFuncNested
import Derived.RangeFuncLeaves
import Derived.RangeFuncCalls
import Derived.ChangeSame
import Derived.OpenShut
import Derived.Carry
import Derived.DataReads
namespace Gv
open Go
theorem Bc (w:World) (o:Obj) (i:Nat) (h:i < w.heap.size):(w.alloc o).heap[i]? =w.heap[i]? :=by
 show(w.heap.push o)[i]? =w.heap[i]?
 rw [Array.getElem?_push,if_neg (Nat.ne_of_lt h)]
theorem Kj (w:World) (o:Obj):(w.alloc o).heap[w.heap.size]? =some o:=by
 show(w.heap.push o)[w.heap.size]? =some o
 simp
structure Fr (X:List Nat) (W W':World):Prop where
 os:W'.os=W.os
 tape:W'.tape=W.tape
 output:W'.output=W.output
 size:W.heap.size≤W'.heap.size
 block:∀ k,k < W.heap.size→k ∉ X→W'.heap[k]? =W.heap[k]?
theorem Fr.refl (X:List Nat) (W:World):Fr X W W:=⟨rfl,rfl,rfl,Nat.le_refl _,fun _ _ _=>rfl⟩
theorem Fr.trans {X:List Nat} {A B C:World} (h:Fr X A B) (k:Fr X B C):Fr X A C:=
 ⟨k.os.trans h.os,k.tape.trans h.tape,k.output.trans h.output,Nat.le_trans h.size k.size,
   fun i al an=>(k.block i (Nat.lt_of_lt_of_le al h.size) an).trans (h.block i al an)⟩
theorem Fr.weaken {X Y:List Nat} {A B:World} (h:Fr X A B) (s:∀ k∈X,k∈Y):Fr Y A B:=
 ⟨h.os,h.tape,h.output,h.size,fun i al an=>h.block i al fun hm=>an (s _ hm)⟩
theorem Fr.nil {X:List Nat} {A B:World} (h:Fr [] A B):Fr X A B:=h.weaken (by simp)
theorem Fr.only {X Y:List Nat} {A B:World} (h:Fr X A B) (s:∀ k∈X,k < A.heap.size→k∈Y):Fr Y A B:=
 ⟨h.os,h.tape,h.output,h.size,fun i al an=>h.block i al fun hm=>an (s _ hm al)⟩
theorem Fr.alloc {X:List Nat} (W:World) (o:Obj):Fr X W (W.alloc o):=
 ⟨rfl,rfl,rfl,by simp,fun k av _=>Bc W o k av⟩
theorem Fr.drew {X:List Nat} (W:World):Fr X W W.drew:=⟨rfl,rfl,rfl,Nat.le_refl _,fun _ _ _=>rfl⟩
theorem Fr.setRow {X:List Nat} (W:World) (g:Nat) (cs:Array Value) (h:g∈X):Fr X W (W.setRow g cs):=
 ⟨rfl,rfl,rfl,by simp,fun k _ an=>setRow_other W g k cs (fun e=>an (e ▸ h))⟩
structure Ext (A:List Nat) (W:World) (cH:List Nat) (W':World):Prop where
 size:W.heap.size≤W'.heap.size
 block:∀ k,k < W.heap.size→k ∉ A→W'.heap[k]? =W.heap[k]?
 new:∀ k∈cH,k < W.heap.size→k∈A
theorem Ext.refl (A:List Nat) (W:World):Ext A W A W:=⟨Nat.le_refl _,fun _ _ _=>rfl,fun _ h _=>h⟩
theorem Ext.trans {A B C:List Nat} {U V W:World} (h:Ext A U B V) (k:Ext B V C W):Ext A U C W:=
 ⟨Nat.le_trans h.size k.size,
  fun i al bh=>(k.block i (Nat.lt_of_lt_of_le al h.size) (fun hb=>bh (h.new i hb al))).trans (h.block i al bh),
  fun i ar al=>h.new i (k.new i ar (Nat.lt_of_lt_of_le al h.size)) al⟩
theorem Ext.Tz {A X:List Nat} {W W':World} (h:Fr X W W') (s:∀ k∈X,k∈A):Ext A W A W':=
 ⟨h.size,fun k av bh=>h.block k av fun an=>bh (s k an),fun _ h _=>h⟩
theorem Ext.dd {A:List Nat} {W W':World} (h:Fr [] W W'):Ext A W A W':= .Tz h (by simp)
theorem Ext.drop {A cH:List Nat} {W:World} (s:∀ k∈cH,k∈A):Ext A W cH W:=⟨Nat.le_refl _,fun _ _ _=>rfl,fun k h _=>s k h⟩
structure I where
 holds:List Nat→World→Value→Prop
 mono:∀ {A W cH W' v},Ext A W cH W'→holds A W v→holds cH W' v
class ad (α:Type) where
 size:Nat
 agg:Bool
 rep:List Nat→World→List Value→α→Prop
 len:∀ {A W cs x},rep A W cs x→cs.length=size
 one:∀ {A W cs x},rep A W cs x→ ∀ v∈cs,v.oneCell'=true
 flat:agg=false→size=1
 mono:∀ {A W cH W' cs x},Ext A W cH W'→rep A W cs x→rep cH W' cs x
def shaped (b:Bool) (v:Value):Prop:=if b=true then ∃ cs,v= .agg cs else v.oneCell'=true
theorem nb {v:Value} (h:v.oneCell'=true):v.cells= #[v]:=by cases v <;> first | rfl | simp [Value.oneCell'] at h
def I.of {α:Type} [ad α] (x:α):I where
 holds A W v:=shaped (ad.agg α) v∧ad.rep A W v.cells.toList x
 mono e h:=⟨h.1,ad.mono e h.2⟩
def I.eq (u:Value):I where
 holds _ _ v:=v=u
 mono _ h:=h
def I.cond (c:Prop) (τ:I):I where
 holds A W v:=(c→τ.holds A W v)∧ (¬ c→v=undef)
 mono e h:=⟨fun ar=>τ.mono e (h.1 ar),h.2⟩
def I.any:I where
 holds _ _ _:=True
 mono _ h:=h
inductive gl (A:List Nat) (W:World):List I→List Value→Prop
 | nil:gl A W [] []
 | cons {τ v τs vs} :τ.holds A W v→gl A W τs vs→gl A W (τ :: τs) (v :: vs)
theorem gl.mono {A W cH W'} (e:Ext A W cH W'):∀ {τs vs},gl A W τs vs→gl cH W' τs vs
 | _,_,.nil=> .nil
 | _,_,.cons h r=> .cons (I.mono _ e h) (r.mono e)
theorem gl.length {A W} :∀ {τs vs},gl A W τs vs→vs.length=τs.length
 | _,_,.nil=>rfl
 | _,_,.cons _ r=>by simp [r.length]
def I.cF (τs:List I):I where
 holds A W v:= ∃ vs:Array Value,v= .tuple vs∧gl A W τs vs.toList
 mono e h:=let⟨vs,aY,ct⟩:=h; ⟨vs,aY,ct.mono e⟩
def I.ptr {α:Type} [ad α] (x:α):I where
 holds A W v:= ∃ b off cur T g9,v= .pointer (some ⟨b,off,none⟩)∧b ∉ A∧W.heap[b]? =some (.cells cur T g9)∧off + ad.size α≤cur.size∧ad.rep A W ((cur.toList.drop off).take (ad.size α)) x
 mono e h:=by
  obtain⟨b,off,cur,T,g9,rfl,hb,ct,hs,aS⟩:=h
  have cq:b < _:=(Array.getElem?_eq_some_iff.1 ct).1
  exact⟨b,off,cur,T,g9,rfl,fun hm=>hb (e.new b hm cq),by rw [e.block b cq hb]; exact ct,hs,ad.mono e aS⟩
structure dn where
 holds:List Nat→World→Obj→Prop
 l7:Prop
 mono:∀ {A W cH W' o},Ext A W cH W'→holds A W o→holds cH W' o
def dn.var {α:Type} [ad α] (x:α):dn where
 holds A W o:= ∃ cs T,o= .cells cs T (0,0)∧ad.rep A W cs.toList x
 l7:=False
 mono e h:=let⟨cs,T,bm,aS⟩:=h; ⟨cs,T,bm,ad.mono e aS⟩
def fJ {α:Type} [ad α] (A:List Nat) (W:World) (cs:List Value) (xs:List α):Prop:=
 cs.length=xs.length * ad.size α∧ ∀ i (h:i < xs.length),ad.rep A W ((cs.drop (i * ad.size α)).take (ad.size α)) xs[i]
theorem fJ.mono {α:Type} [ad α] {A W cH W'} {cs:List Value} {xs:List α} (e:Ext A W cH W') (h:fJ A W cs xs):fJ cH W' cs xs:=
 ⟨h.1,fun i al=>ad.mono e (h.2 i al)⟩
def dn.row {α:Type} [ad α] (T:TypeId) (xs:List α) (cap:Nat):dn where
 holds A W o:= ∃ cs,o= .cells cs T (0,0)∧cs.size=cap * ad.size α∧xs.length≤cap∧cap≤maxLen∧fJ A W (cs.toList.take (xs.length * ad.size α)) xs
 l7:=xs= []∧cap=0
 mono e h:=let⟨cs,J,ab,aC,aU,aZ⟩:=h; ⟨cs,J,ab,aC,aU,aZ.mono e⟩
def dn.dead:dn where
 holds _ _ _:=True
 l7:=True
 mono _ h:=h
structure aH where
 key:Option Nat
 cp:dn
def aH.ok (A:List Nat) (W:World) (e:aH):Prop:=
 match e.key with
 | some p=> ∃ o,W.heap[p]? =some o∧e.cp.holds A W o
 | none=>e.cp.l7
def aJ:List aH→List Nat
 | []=> []
 | e :: r=>match e.key with
   | some p=>p :: aJ r
   | none=>aJ r
theorem jR {L:List aH} {k:Nat} :k∈aJ L↔ ∃ e∈L,e.key=some k:=by
 induction L with
 | nil=>simp [aJ]
 | cons e r bI=>
   cases av:e.key with
   | none=>simp [aJ,av,bI]
   | some p=>simp [aJ,av,bI,eq_comm]
structure cU where
 P:Program
 n:Nat
 hY:World
 X:List Nat
 bP:List Nat
 rd:Option Nat
 ds:List Nat
def BP (D:Nat):Deferred:= { target:= .collected D,args:= #[] }
abbrev cU.F (c:cU):Fence:= { fn:=fun _=>True,depth:=none,alive:=false,round:=c.rd }
abbrev cU.wp (c:cU) (y:Code) (Q:Exit→Act→World→Prop):Act→World→Prop:=y.wpIn c.F 9 c.P Q
abbrev cU.qf (c:cU) (ops:Array Oper) (Q:Exit→Act→World→Prop):List Oper→Act→World→Prop:=wpListIn c.F 9 c.P ops Q
def look:List (Nat × I)→Nat→Option I
 | [],_=>none
 | (s,τ) :: r,t=>bif Nat.beq s t then some τ else look r t
structure bC (c:cU) (E:List (Nat × I)) (L:List aH) (a:Act) (W:World):Prop where
 defers:a.defers=c.ds.map BP
 size:a.tmps.size=c.n
 env:∀ t τ,look E t=some τ→ ∃ v,a.tmps[t]? =some v∧τ.holds (aJ L ++ c.bP) W v
 dd:Fr c.X c.hY W
 own:∀ e∈L,e.ok (aJ L ++ c.bP) W
 nodup:(aJ L).Nodup
 lt:∀ k∈aJ L,k < W.heap.size
 fs:∀ k∈aJ L,k < c.hY.heap.size→k∈c.X
 er:∀ k∈c.bP,k < W.heap.size∧k ∉ aJ L
theorem eF {s t:Nat} :Nat.beq s t=true↔s=t:=by
 constructor
 ·exact Nat.eq_of_beq_eq_true
 ·rintro rfl; exact Nat.beq_refl s
theorem bC.Bd {c E L a W} (h:bC c E L a W):∀ k∈aJ L ++ c.bP,k < W.heap.size:=by
 intro k av
 rcases List.mem_append.1 av with av | av
 ·exact h.lt k av
 ·exact(h.er k av).1
theorem bC.world {c E L a W W'} (h:bC c E L a W) (f:Fr [] W W'):bC c E L a W' where
 defers:=h.defers
 size:=h.size
 env t τ aq:=let⟨v,J,ab⟩:=h.env t τ aq; ⟨v,J,τ.mono (.dd f) ab⟩
 dd:=h.dd.trans f.nil
 own e he:=by
  have J:=h.own e he
  unfold aH.ok at *
  split at J
  ·rename_i p hp
   obtain⟨o,bm,ct⟩:=J
   have cq:=h.lt p (jR.2 ⟨e,he,hp⟩)
   exact⟨o,by rw [f.block p cq (by simp)]; exact bm,dn.mono _ (.dd f) ct⟩
  ·exact J
 nodup:=h.nodup
 lt k av:=Nat.lt_of_lt_of_le (h.lt k av) f.size
 fs:=h.fs
 er k av:=⟨Nat.lt_of_lt_of_le (h.er k av).1 f.size,(h.er k av).2⟩
theorem bC.put {c E L a W} (h:bC c E L a W) {d:Nat} (hd:d < c.n) {v:Value} {τ:I} (aY:τ.holds (aJ L ++ c.bP) W v):
 bC c ((d,τ) :: E) L (a.put (some d) v) W where
 defers:=h.defers
 size:=by simp [Act.put,h.size]
 env t la aq:=by
  simp only [look] at aq
  simp only [Act.put]
  by_cases e:Nat.beq d t=true
  ·rw [e] at aq
   simp only [cond_true,Option.some.injEq] at aq
   subst aq
   have:=eF.1 e
   subst this
   exact⟨v,by simp [h.size,hd],aY⟩
  ·simp only [Bool.not_eq_true] at e
   rw [e] at aq
   simp only [cond_false] at aq
   obtain⟨u,J,ab⟩:=h.env t la aq
   have dv:d≠t:=fun h=>by rw [eF.2 h] at e; cases e
   exact⟨u,by rw [Array.getElem?_setIfInBounds_ne dv]; exact J,ab⟩
 dd:=h.dd
 own:=h.own
 nodup:=h.nodup
 lt:=h.lt
 fs:=h.fs
 er:=h.er
theorem bC.uz {c E L a W} (s:bC c E L a W) (h:c.ds= []):a.defers= []:=by rw [s.defers,h]; rfl
theorem bC.less {c E E' L a W} (h:bC c E L a W) (aK:∀ t τ,look E' t=some τ→ ∃ σ,look E t=some σ∧ ∀ A W v,σ.holds A W v→τ.holds A W v):bC c E' L a W:=
 {h with env:=fun t τ aq=>let⟨_,J,ab⟩:=aK t τ aq; let⟨v,aC,aU⟩:=h.env t _ J; ⟨v,aC,ab _ _ _ aU⟩ }
theorem bC.alloc {c E L a W} (h:bC c E L a W) {o:Obj} {cp:dn} (ar:cp.holds (aJ L ++ c.bP) W o):
 bC c E (⟨some W.heap.size,cp⟩ :: L) a (W.alloc o):=by
 have yI:W.heap.size ∉ aJ L:=fun hm=>Nat.lt_irrefl _ (h.lt _ hm)
 have gn:Ext (aJ L ++ c.bP) W (aJ (⟨some W.heap.size,cp⟩ :: L) ++ c.bP) (W.alloc o):=
  ⟨by simp,fun k av _=>Bc W o k av,fun k av cq=>by
   simp only [aJ,List.cons_append,List.mem_cons] at av
   rcases av with rfl | av
   ·exact absurd cq (Nat.lt_irrefl _)
   ·exact av⟩
 exact
 {defers:=h.defers
  size:=h.size
  env:=fun t τ aq=>let⟨v,J,ab⟩:=h.env t τ aq; ⟨v,J,τ.mono gn ab⟩
  dd:=h.dd.trans (Fr.alloc W o)
  own:=fun e he=>by
   rcases List.mem_cons.1 he with rfl | he
   ·exact⟨o,Kj W o,cp.mono gn ar⟩
   ·have J:=h.own e he
    unfold aH.ok at *
    split at J
    ·rename_i p hp
     obtain⟨o',bm,ct⟩:=J
     exact⟨o',by rw [Bc W o p (h.lt p (jR.2 ⟨e,he,hp⟩))]; exact bm,dn.mono _ gn ct⟩
    ·exact J
  nodup:=by simp only [aJ]; exact List.nodup_cons.2 ⟨yI,h.nodup⟩
  lt:=fun k av=>by
   simp only [aJ,List.mem_cons] at av
   rw [World.size_alloc]
   rcases av with rfl | av
   ·omega
   ·have:=h.lt k av; omega
  fs:=fun k av cq=>by
   simp only [aJ,List.mem_cons] at av
   rcases av with rfl | av
   ·have:=h.dd.size; omega
   ·exact h.fs k av cq
  er:=fun k av=>by
   obtain⟨J,ab⟩:=h.er k av
   refine⟨by rw [World.size_alloc]; omega,fun hm=> ?_⟩
   simp only [aJ,List.mem_cons] at hm
   rcases hm with rfl | hm
   ·omega
   ·exact ab hm }
theorem bC.sub {c E L ay a W} (h:bC c E L a W) (au:∀ e∈ay,e∈L) (aO:(aJ ay).Nodup):bC c E ay a W:=by
 have av:∀ k∈aJ ay,k∈aJ L:=fun k av=>by
  obtain⟨e,he,ab⟩:=jR.1 av
  exact jR.2 ⟨e,au e he,ab⟩
 have gn:Ext (aJ L ++ c.bP) W (aJ ay ++ c.bP) W:= .drop fun k hm=>by
  rcases List.mem_append.1 hm with hm | hm
  ·exact List.mem_append.2 (.inl (av k hm))
  ·exact List.mem_append.2 (.inr hm)
 exact
 {defers:=h.defers
  size:=h.size
  env:=fun t τ aq=>let⟨v,J,ab⟩:=h.env t τ aq; ⟨v,J,τ.mono gn ab⟩
  dd:=h.dd
  own:=fun e he=>by
   have J:=h.own e (au e he)
   unfold aH.ok at *
   split at J
   ·obtain⟨o',bm,ct⟩:=J
    exact⟨o',bm,dn.mono _ gn ct⟩
   ·exact J
  nodup:=aO
  lt:=fun k hm=>h.lt k (av k hm)
  fs:=fun k hm=>h.fs k (av k hm)
  er:=fun k hm=>⟨(h.er k hm).1,fun ab=>(h.er k hm).2 (av k ab)⟩ }
theorem eA (L R:List aH):aJ (L ++ R)=aJ L ++ aJ R:=by
 induction L with
 | nil=>rfl
 | cons e r bI=>cases av:e.key <;> simp [aJ,av,bI]
theorem uO {L:List aH} {i:Nat} {e:aH} {cp:dn} (al:L[i]? =some e):aJ (L.set i ⟨e.key,cp⟩)=aJ L:=by
 induction L generalizing i with
 | nil=>simp at al
 | cons x r bI=>
   cases i with
   | zero=>simp only [List.getElem?_cons_zero,Option.some.injEq] at al; subst al; simp [aJ]
   | succ i=>simp only [List.getElem?_cons_succ] at al; simp [aJ,bI al]
theorem Ei {L:List aH} (aO:(aJ L).Nodup) {i j:Nat} {e f:aH} {p:Nat} (al:L[i]? =some e) (aF:L[j]? =some f) (he:e.key=some p) (a8:f.key=some p):i=j:=by
 induction L generalizing i j with
 | nil=>simp at al
 | cons x r bI=>
   have aS:(aJ r).Nodup:=by
    cases an:x.key with
    | none=>simpa [aJ,an] using aO
    | some q=>simp only [aJ,an] at aO; exact(List.nodup_cons.1 aO).2
   have rl:∀ q,x.key=some q→q ∉ aJ r:=fun q an=>by simp only [aJ,an] at aO; exact(List.nodup_cons.1 aO).1
   cases i with
   | zero=>
     simp only [List.getElem?_cons_zero,Option.some.injEq] at al
     subst al
     cases j with
     | zero=>rfl
     | succ j=>
       simp only [List.getElem?_cons_succ] at aF
       exact absurd (jR.2 ⟨f,List.mem_of_getElem? aF,a8⟩) (rl p he)
   | succ i=>
     simp only [List.getElem?_cons_succ] at al
     cases j with
     | zero=>
       simp only [List.getElem?_cons_zero,Option.some.injEq] at aF
       subst aF
       exact absurd (jR.2 ⟨e,List.mem_of_getElem? al,he⟩) (rl p a8)
     | succ j=>
       simp only [List.getElem?_cons_succ] at aF
       rw [bI aS al aF]
theorem bC.store {c E L a W} (h:bC c E L a W) {i p:Nat} {cp cp':dn} (al:L[i]? =some ⟨some p,cp⟩) {cs dk:Array Value} {T:TypeId}
 (bm:W.heap[p]? =some (.cells cs T (0,0))) (ar:cp'.holds (aJ L ++ c.bP) W (.cells dk T (0,0))):
 bC c E (L.set i ⟨some p,cp'⟩) a (W.setRow p dk):=by
 have gq:aJ (L.set i ⟨some p,cp'⟩)=aJ L:=uO (cp:=cp') al
 have hp:p∈aJ L:=jR.2 ⟨_,List.mem_of_getElem? al,rfl⟩
 have gn:Ext (aJ L ++ c.bP) W (aJ L ++ c.bP) (W.setRow p dk):=
  ⟨by simp,fun k _ bh=>setRow_other W p k dk (fun e=>bh (e ▸ List.mem_append.2 (.inl hp))),fun _ h _=>h⟩
 exact
 {defers:=h.defers
  size:=h.size
  env:=fun t τ aq=>by rw [gq]; exact let⟨v,J,ab⟩:=h.env t τ aq; ⟨v,J,τ.mono gn ab⟩
  dd:=⟨h.dd.os,h.dd.tape,h.dd.output,by simpa using h.dd.size,fun k av an=>by
   rw [setRow_other W p k dk (fun e=>an (e ▸ h.fs p hp (e ▸ av)))]
   exact h.dd.block k av an⟩
  own:=fun e he=>by
   rw [gq]
   obtain⟨j,aF⟩:=List.mem_iff_getElem?.1 he
   rw [List.getElem?_set] at aF
   split at aF
   ·rename_i eW
    subst eW
    split at aF
    ·simp only [Option.some.injEq] at aF
     subst aF
     exact⟨_,setRow_heap W p cs dk T (0,0) bm,cp'.mono gn ar⟩
    ·cases aF
   ·rename_i eW
    have J:=h.own e (List.mem_of_getElem? aF)
    unfold aH.ok at *
    split at J
    ·rename_i q hq
     obtain⟨o',qg,ct⟩:=J
     have dv:q≠p:=fun e'=>eW (Ei h.nodup al aF rfl (e' ▸ hq))
     exact⟨o',by rw [setRow_other W p q dk dv]; exact qg,dn.mono _ gn ct⟩
    ·exact J
  nodup:=by rw [gq]; exact h.nodup
  lt:=by rw [gq]; simpa using h.lt
  fs:=by rw [gq]; exact h.fs
  er:=by rw [gq]; simpa using h.er }
end Gv
namespace Gv
open Go
abbrev ad.scalar {α:Type} (val:α→Value) (h:∀ x,(val x).oneCell'=true):ad α where
 size:=1
 agg:=false
 rep _ _ cs x:=cs= [val x]
 len h:=by rw [h]; rfl
 one aS:=by subst aS; intro v aY; rw [List.mem_singleton.1 aY]; exact h _
 flat _:=rfl
 mono _ h:=h
instance:ad Bool:= .scalar Value.bool fun _=>rfl
instance:ad Int:= .scalar (Value.int .i64) fun _=>rfl
instance:ad (BitVec 64):= .scalar (fun x=>Value.int .u64 (x.toNat:Int)) fun _=>rfl
instance:ad (BitVec 32):= .scalar (fun x=>Value.int .u32 (x.toNat:Int)) fun _=>rfl
instance:ad (BitVec 16):= .scalar (fun x=>Value.int .u16 (x.toNat:Int)) fun _=>rfl
instance:ad (BitVec 8):= .scalar (fun x=>Value.int .u8 (x.toNat:Int)) fun _=>rfl
instance:ad ByteArray:= .scalar Value.string fun _=>rfl
theorem na {v u:Value} (h:v.oneCell'=true) (e:v.cells.toList= [u]):v=u:=by
 rw [nb h] at e
 simpa using e
theorem of_bool {A W v} {b:Bool} :(I.of b).holds A W v↔v= .bool b:=
 ⟨fun h=>na h.1 h.2,fun h=>by subst h; exact⟨rfl,rfl⟩⟩
theorem of_int {A W v} {x:Int} :(I.of x).holds A W v↔v= .int .i64 x:=
 ⟨fun h=>na h.1 h.2,fun h=>by subst h; exact⟨rfl,rfl⟩⟩
theorem gm {A W v} {x:BitVec 64} :(I.of x).holds A W v↔v= .int .u64 (x.toNat:Int):=
 ⟨fun h=>na h.1 h.2,fun h=>by subst h; exact⟨rfl,rfl⟩⟩
theorem TA {A W v} {x:BitVec 8} :(I.of x).holds A W v↔v= .int .u8 (x.toNat:Int):=
 ⟨fun h=>na h.1 h.2,fun h=>by subst h; exact⟨rfl,rfl⟩⟩
theorem RK {A W v} {x:ByteArray} :(I.of x).holds A W v↔v= .string x:=
 ⟨fun h=>na h.1 h.2,fun h=>by subst h; exact⟨rfl,rfl⟩⟩
def ba (c:cU) (E:List (Nat × I)) (L:List aH) (x:Operand) (τ:I):Prop:= ∀ a W,bC c E L a W→τ.holds (aJ L ++ c.bP) W (a.eval x)
section
variable {c:cU} {E:List (Nat × I)} {L:List aH}
theorem ae {t:Nat} {τ:I} (h:look E t=some τ):ba c E L (.tmp t) τ:=fun a W s=>by
 obtain⟨v,J,ab⟩:=s.env t τ h
 have:a.eval (.tmp t)=v:=by simp [Act.eval,J]
 rw [this]; exact ab
theorem cY {t:Nat} {τ:I} {p:Prop} (h:look E t=some (.cond p τ)) (hp:p):ba c E L (.tmp t) τ:=fun a W s=>(ae h a W s).1 hp
theorem D8 (v:Value):ba c E L (.const v) (.eq v):=fun _ _ _=>rfl
theorem bz (k:Int):ba c E L (.const (.int .i64 k)) (.of k):=fun _ _ _=>of_int.2 rfl
theorem fr (b:Bool):ba c E L (.const (.bool b)) (.of b):=fun _ _ _=>of_bool.2 rfl
theorem hc (x:BitVec 64) {k:Int} (h:(x.toNat:Int)=k):ba c E L (.const (.int .u64 k)) (.of x):=fun _ _ _=>gm.2 (by rw [h]; rfl)
theorem de (s:ByteArray):ba c E L (.const (.string s)) (.of s):=fun _ _ _=>RK.2 rfl
def fK (P:Program) (o:Oper) (a:Act) (W:World) (R:Value→World→Prop):Prop:=
 o.wp P a W (fun hZ W'=> ∃ v,hZ=a.put o.dst v∧R v W') (fun _ _ _=>False)
theorem CallsIn.DU {rd:Option Nat} {n:Nat} {P:Program} {f:FuncId} {args:Array Value} {w:World} {R:Ending→World→Prop}
 (h:Calls P f args w R):CallsIn { fn:=fun _=>True,depth:=none,alive:=false,round:=rd } n P f args w R:=
 (callsIn_wide (n:=n)).2 h
theorem RowsIn.RL {rd:Option Nat} {n:Nat} {P:Program} {row:String} {args:Array Value} {w:World} {R:Value→World→Prop}
 (h:Rows P row args w R):RowsIn { fn:=fun _=>True,depth:=none,alive:=false,round:=rd } n P row args w R:=
 fun c cs _=>let⟨v,tu,r,s⟩:=h c cs; ⟨v,tu,r,stepsIn_wide.2 s⟩
theorem fK.wp {P:Program} {o:Oper} {a:Act} {W:World} {R:Value→World→Prop} {next:Act→World→Prop} {Q:Exit→Act→World→Prop}
 (h:fK P o a W R) (av:∀ v W',R v W'→next (a.put o.dst v) W'):o.wp P a W next Q:=by
 unfold fK Oper.wp at *
 generalize (execOp a.eval o).run P W=r at *
 cases r with
 | ok n W'=>
   cases n <;> simp only [Oper.upon] at h ⊢
   case value v=>obtain⟨u,J,ab⟩:=h; rw [J]; exact av _ _ ab
   case skip=>obtain⟨u,J,ab⟩:=h; rw [J]; exact av _ _ ab
   case defer d=>obtain⟨u,J,ab⟩:=h; rw [J]; exact av _ _ ab
   case enter f args=>
    refine h.mono fun e rA he=> ?_
    cases e with
    | returned v=>obtain⟨u,J,ab⟩:=he; simp only at J ⊢; rw [J]; exact av _ _ ab
    | panicked G2=>exact he.elim
    | outgrown=>obtain⟨_,_,J⟩:=he; exact J.elim
   case row row args=>exact h.mono fun v rA ⟨u,J,ab⟩=>by rw [J]; exact av _ _ ab
 | halt x W'=>cases x <;> simp only [Oper.upon] at h
theorem fK.Qf {P:Program} {o:Oper} {a:Act} {W:World} {R:Value→World→Prop} (h:fK P o a W R):∀ c,o.op≠ .defer c:=by
 intro c bm
 unfold fK Oper.wp execOp at h
 rw [bm] at h
 simp only [Sem.run_bind] at h
 generalize (resolve a.eval c o.type).run P W=r at h
 cases r with
 | ok d W'=>
   simp only [Result.andThen,Sem.run_pure,Oper.upon] at h
   obtain⟨v,J,_⟩:=h
   have:=congrArg Act.defers J
   cases hd:o.dst <;> simp [Act.put,hd] at this
 | halt x W'=>cases x <;> simp only [Result.andThen,Oper.upon] at h
theorem fK.wpIn {c:cU} {n:Nat} {o:Oper} {a:Act} {W:World} {R:Value→World→Prop} {next:Act→World→Prop} {Q:Exit→Act→World→Prop}
 (h:fK c.P o a W R) (av:∀ v W',R v W'→next (a.put o.dst v) W'):o.wpIn c.F n c.P a W next Q:=by
 refine⟨fun _ _=>trivial,?_⟩
 rw [Oper.semAt_eq _ _ _ h.Qf]
 unfold fK Oper.wp at h
 generalize (execOp a.eval o).run c.P W=r at *
 cases r with
 | ok m W'=>
   cases m <;> simp only [Oper.upon,Oper.uponIn] at h ⊢
   case value v=>obtain⟨u,J,ab⟩:=h; rw [J]; exact av _ _ ab
   case skip=>obtain⟨u,J,ab⟩:=h; rw [J]; exact av _ _ ab
   case defer d=>obtain⟨u,J,ab⟩:=h; rw [J]; exact av _ _ ab
   case enter f args=>
    refine⟨fun h=>by simp at h,CallsIn.DU ?_⟩
    refine h.mono fun e rA he=> ?_
    cases e with
    | returned v=>obtain⟨u,J,ab⟩:=he; simp only at J ⊢; rw [J]; exact av _ _ ab
    | panicked G2=>exact he.elim
    | outgrown=>obtain⟨_,_,J⟩:=he; exact J.elim
   case row row args=>
    refine⟨fun h=>by simp at h,RowsIn.RL ?_⟩
    exact h.mono fun v rA ⟨u,J,ab⟩=>by rw [J]; exact av _ _ ab
 | halt x W'=>cases x <;> simp only [Oper.upon] at h
theorem OE {c:cU} {n:Nat} {o:Oper} {a:Act} {W W':World} {v:Value} {next:Act→World→Prop} {Q:Exit→Act→World→Prop}
 (h:(execOp a.eval o).run c.P W= .ok (.value v) W') (av:next (a.put o.dst v) W'):o.wpIn c.F n c.P a W next Q:=
 fK.wpIn (R:=fun u U=>u=v∧U=W') (by unfold fK Oper.wp; rw [h]; exact⟨v,rfl,rfl,rfl⟩) fun u U ⟨J,ab⟩=>by subst J; subst ab; exact av
theorem H4 {c:cU} {n:Nat} {o:Oper} {a:Act} {W W':World} {next:Act→World→Prop} {Q:Exit→Act→World→Prop}
 (h:(execOp a.eval o).run c.P W= .ok .skip W') (av:next (a.put o.dst undef) W'):o.wpIn c.F n c.P a W next Q:=
 fK.wpIn (R:=fun u U=>u=undef∧U=W') (by unfold fK Oper.wp; rw [h]; exact⟨undef,rfl,rfl,rfl⟩) fun u U ⟨J,ab⟩=>by subst J; subst ab; exact av
theorem C4 {F:Fence} {n:Nat} {P:Program} {md:Region.Mode} {ops:Array Oper} {vM:Exit→Act→World→Prop} :∀ (l:List Oper) (k:Nat) (bL:Array Bool) (a:Act) (w:World),(∀ j,l[j]? =ops[k + j]?)→
 Region.seqB md ops l.length k bL=true→wpListIn F n P ops vM l a w→wpAnyIn F n P md ops vM l.length bL a w
 | [],_,_,_,_,_,ir,h=>⟨by simpa [Region.seqB] using ir,h⟩
 | o :: l,k,bL,a,w,aq,ir,h=>by
   have bJ:ops[k]? =some o:=by simpa using (aq 0).symm
   simp only [List.length_cons,Region.seqB,Bool.and_eq_true,decide_eq_true_eq] at ir
   refine⟨fun J=>(by rw [ir.1] at J; cases J),fun i al=> ?_⟩
   rw [ir.1] at al
   have jj:i=k:=by simpa using al
   subst jj
   have hw:wpOpIn F n P ops vM i (wpListIn F n P ops vM l) a w:=by unfold wpOpIn; simp only [bJ]; exact h
   exact wpOpIn_mono (fun hZ tu cJ=>C4 l (i + 1) _ hZ tu (fun j=>by have:=aq (j + 1); simpa [Nat.add_assoc,Nat.add_comm 1 j] using this) ir.2 cJ) hw
theorem fK.lr {P:Program} {o:Oper} {a:Act} {W W':World} {R:Value→World→Prop} {v:Value}
 (h:(execOp a.eval o).run P W= .ok (.value v) W') (aS:R v W'):fK P o a W R:=by
 unfold fK Oper.wp
 rw [h]
 exact⟨v,rfl,aS⟩
theorem fK.uG {P:Program} {o:Oper} {a:Act} {W W':World} {R:Value→World→Prop}
 (h:(execOp a.eval o).run P W= .ok .skip W') (aS:R undef W'):fK P o a W R:=by
 unfold fK Oper.wp
 rw [h]
 exact⟨undef,rfl,aS⟩
theorem fK.sh {P:Program} {o:Oper} {a:Act} {W W':World} {R:Value→World→Prop} {f:FuncId} {args:Array Value}
 (h:(execOp a.eval o).run P W= .ok (.enter f args) W') (aS:Calls P f args W' fun e rA=> ∃ v,e= .returned v∧R v rA):fK P o a W R:=by
 unfold fK Oper.wp
 rw [h]
 exact aS.mono fun e rA ⟨v,he,ab⟩=>by subst he; exact⟨v,rfl,ab⟩
def bX (c:cU) (E:List (Nat × I)) (L:List aH) (o:Oper) (τ:I):Prop:=
 ∀ a W,bC c E L a W→fK c.P o a W fun v W'=>Fr [] W W'∧τ.holds (aJ L ++ c.bP) W' v
theorem bX.pure {o:Oper} {τ:I} (h:∀ a W,bC c E L a W→ ∃ v,(execOp a.eval o).run c.P W= .ok (.value v) W∧τ.holds (aJ L ++ c.bP) W v):bX c E L o τ:=
 fun a W s=>let⟨_,J,ab⟩:=h a W s; .lr J ⟨.refl _ _,ab⟩
variable {ops:Array Oper} {Q:Exit→Act→World→Prop}
def ah (c:cU) (ops:Array Oper) (Q:Exit→Act→World→Prop) (l:List Oper) (E:List (Nat × I)) (L:List aH):Prop:=
 ∀ a W,bC c E L a W→c.qf ops Q l a W
def ag (c:cU) (Q:Exit→Act→World→Prop) (x:Exit) (E:List (Nat × I)) (L:List aH):Prop:= ∀ a W,bC c E L a W→Q x a W
theorem ah.nil (h:ag c Q .normal E L):ah c ops Q [] E L:=fun a W s=>wpListIn_nil (h a W s)
theorem hH {c:cU} {o:Oper} {rest:List Oper} {a:Act} {W:World} (b0:o.guard=none) {R:Value→World→Prop} (h:fK c.P o a W R)
 (av:∀ v W',R v W'→c.qf ops Q rest (a.put o.dst v) W'):c.qf ops Q (o :: rest) a W:=
 wpListIn_plain b0 fun _ rQ=>h.wpIn fun v W' aS=>rQ _ _ (av v W' aS)
theorem ah.v {o:Oper} {rest:List Oper} {d:Nat} {τ:I} (h:bX c E L o τ) (b0:o.guard=none) (hd:o.dst=some d) (aO:Nat.blt d c.n=true)
 (k:ah c ops Q rest ((d,τ) :: E) L):ah c ops Q (o :: rest) E L:=fun a W s=>
 hH b0 (h a W s) fun v W' ⟨f,aY⟩=>by
  rw [hd]
  exact k _ _ ((s.world f).put (by simpa using aO) aY)
theorem ah.x {o:Oper} {rest:List Oper} {τ:I} (h:bX c E L o τ) (b0:o.guard=none) (hd:o.dst=none)
 (k:ah c ops Q rest E L):ah c ops Q (o :: rest) E L:=fun a W s=>
 hH b0 (h a W s) fun v W' ⟨f,_⟩=>by
  rw [hd]
  exact k _ _ (s.world f)
theorem AM {j g:Nat} {b:Bool} (aF:(ops[j]?).bind (·.dst)=some g) (aq:look E g=some (.of b)) {a:Act} {W:World} (s:bC c E L a W):
 yielded ops a.tmps j=some b:=by
 obtain⟨v,J,ab⟩:=s.env g _ aq
 unfold yielded
 rw [aF]
 simp only [Option.bind_some,J,of_bool.1 ab]
theorem ah.g {o:Oper} {rest:List Oper} {d j g:Nat} {b want:Bool} {τ:I} (h:b=want→bX c E L o τ) (b0:o.guard=some (j,want)) (aF:(ops[j]?).bind (·.dst)=some g)
 (aq:look E g=some (.of b)) (hd:o.dst=some d) (aO:Nat.blt d c.n=true)
 (k:ah c ops Q rest ((d,.cond (b=want) τ) :: E) L):ah c ops Q (o :: rest) E L:=fun a W s=>by
 have a9:=AM aF aq s
 unfold cU.qf wpListIn
 by_cases hb:b=want
 ·rw [if_pos (by simp [Region.wanted,b0,a9,hb])]
  refine((h hb a W s).wpIn fun v W' ⟨f,aY⟩=> ?_)
  rw [hd]
  exact k _ _ ((s.world f).put (by simpa using aO) ⟨fun _=>aY,fun h=>absurd hb h⟩)
 ·rw [if_neg (by simp [Region.wanted,b0,a9,hb])]
  rw [hd]
  exact⟨fun _ _=>trivial,k _ _ (s.put (by simpa using aO) ⟨fun h=>absurd h hb,fun _=>rfl⟩)⟩
theorem H5 {j g:Nat} {p:Prop} {b:Bool} (aF:(ops[j]?).bind (·.dst)=some g) (aq:look E g=some (.cond p (.of b))) {a:Act} {W:World} (s:bC c E L a W):
 (p→yielded ops a.tmps j=some b)∧ (¬ p→yielded ops a.tmps j=none):=by
 obtain⟨v,J,ab,aC⟩:=s.env g _ aq
 unfold yielded
 rw [aF]
 simp only [Option.bind_some,J]
 exact⟨fun hp=>by simp only [of_bool.1 (ab hp)],fun hp=>by simp only [aC hp]; rfl⟩
theorem ah.gg {o:Oper} {rest:List Oper} {d j g:Nat} {p:Prop} {b want:Bool} {τ:I} (h:p∧b=want→bX c E L o τ) (b0:o.guard=some (j,want)) (aF:(ops[j]?).bind (·.dst)=some g)
 (aq:look E g=some (.cond p (.of b))) (hd:o.dst=some d) (aO:Nat.blt d c.n=true)
 (k:ah c ops Q rest ((d,.cond (p∧b=want) τ) :: E) L):ah c ops Q (o :: rest) E L:=fun a W s=>by
 have a9:=H5 aF aq s
 unfold cU.qf wpListIn
 by_cases hb:p∧b=want
 ·rw [if_pos (by simp [Region.wanted,b0,a9.1 hb.1,hb.2])]
  refine((h hb a W s).wpIn fun v W' ⟨f,aY⟩=> ?_)
  rw [hd]
  exact k _ _ ((s.world f).put (by simpa using aO) ⟨fun _=>aY,fun h=>absurd hb h⟩)
 ·have hw:Region.wanted o (yielded ops a.tmps)=false:=by
   by_cases hp:p
   ·have: ¬ (b=want):=fun h=>hb ⟨hp,h⟩
    simp [Region.wanted,b0,a9.1 hp,this]
   ·simp [Region.wanted,b0,a9.2 hp]
  rw [if_neg (by simp [hw])]
  refine⟨fun _ _=>trivial,?_⟩
  rw [hd]
  exact k _ _ (s.put (by simpa using aO) ⟨fun h=>absurd h hb,fun _=>rfl⟩)
def sub:List (Nat × I)→List Nat→List (Nat × I)
 | _,[]=> []
 | E,t :: r=>match look E t with
   | some τ=>(t,τ) :: sub E r
   | none=>sub E r
inductive gP (E:List (Nat × I)):List (Nat × I)→Prop
 | nil:gP E []
 | cons {t τ σ r} :look E t=some σ→ (∀ A W v,σ.holds A W v→τ.holds A W v)→gP E r→gP E ((t,τ) :: r)
theorem gP.same {t:Nat} {τ:I} {r:List (Nat × I)} (h:look E t=some τ) (k:gP E r):gP E ((t,τ) :: r):= .cons h (fun _ _ _ h=>h) k
theorem gP.look:∀ {E':List (Nat × I)},gP E E'→ ∀ t τ,Gv.look E' t=some τ→ ∃ σ,Gv.look E t=some σ∧ ∀ A W v,σ.holds A W v→τ.holds A W v
 | _,.nil,t,τ,h=>by simp [Gv.look] at h
 | _,.cons (t:=s) (σ:=σ) J ab r,t,τ,h=>by
   simp only [Gv.look] at h
   by_cases e:Nat.beq s t=true
   ·rw [e] at h
    simp only [cond_true,Option.some.injEq] at h
    subst h
    rw [eF.1 e] at J
    exact⟨σ,J,ab⟩
   ·simp only [Bool.not_eq_true] at e
    rw [e] at h
    exact r.look t τ h
theorem ag.le {x:Exit} {E':List (Nat × I)} (h:gP E E') (k:ag c Q x E' L):ag c Q x E L:=fun a W s=>k a W (s.less h.look)
theorem ah.le {l:List Oper} {E':List (Nat × I)} (h:gP E E') (k:ah c ops Q l E' L):ah c ops Q l E L:=fun a W s=>k a W (s.less h.look)
def ai (c:cU) (Q:Exit→Act→World→Prop) (code:Code) (E:List (Nat × I)) (L:List aH):Prop:= ∀ a W,bC c E L a W→c.wp code Q a W
theorem ai.le {code:Code} {E':List (Nat × I)} (h:gP E E') (k:ai c Q code E' L):ai c Q code E L:=fun a W s=>k a W (s.less h.look)
theorem ai.cl {id:Nat} {l:List Oper} (h:ah c l.toArray Q l E L):ai c Q (.region id l.toArray false) E L:=fun a W s=>wpIn_region_lit (h a W s)
theorem ai.seq {x y:Code} (h:ai c (Exit.then (c.wp y Q) Q) x E L):ai c Q (.seq x y) E L:=fun a W s=>wpIn_seq (h a W s)
theorem ag.next {y:Code} (h:ai c Q y E L):ag c (Exit.then (c.wp y Q) Q) .normal E L:=fun a W s=>h a W s
theorem ag.exit {y:Act→World→Prop} {id:Nat} (h:ag c Q (.exit id) E L):ag c (Exit.then y Q) (.exit id) E L:=fun a W s=>h a W s
theorem ag.ret {y:Act→World→Prop} (h:ag c Q .ret E L):ag c (Exit.then y Q) .ret E L:=fun a W s=>h a W s
theorem ai.block {id:Nat} {x:Code} (h:ai c (Exit.inBlock id Q) x E L):ai c Q (.block id x) E L:=fun a W s=>wpIn_block (h a W s)
theorem ag.ea {id:Nat} (h:ag c Q .normal E L):ag c (Exit.inBlock id Q) .normal E L:=fun a W s=>h a W s
theorem ag.fe {id:Nat} (h:ag c Q .normal E L):ag c (Exit.inBlock id Q) (.exit id) E L:=fun a W s=>by
 show(if id=id then Q .normal a W else Q (.exit id) a W)
 rw [if_pos rfl]; exact h a W s
theorem ag.eC {id:Nat} (h:ag c Q .ret E L):ag c (Exit.inBlock id Q) .ret E L:=fun a W s=>h a W s
theorem ai.skip (h:ag c Q .normal E L):ai c Q .skip E L:=fun a W s=>wpIn_skip (h a W s)
theorem ai.exit {id:Nat} (h:ag c Q (.exit id) E L):ai c Q (.exit id) E L:=fun a W s=>wpIn_exit (h a W s)
theorem ai.ret (h:ag c Q .ret E L):ai c Q .ret E L:=fun a W s=>wpIn_ret (h a W s)
theorem ai.cond {x:Operand} {b:Bool} {y z:Code} (aq:ba c E L x (.of b)) (b9:b=true→ai c Q y E L) (a8:b=false→ai c Q z E L):ai c Q (.cond x y z) E L:=
 fun a W s=>wpIn_cond_split (of_bool.1 (aq a W s)) (fun h=>b9 h a W s) (fun h=>a8 h a W s)
def ej {σ ε:Type} :Nat→ (σ→Option (σ ⊕ ε))→σ→Option ε
 | 0,_,_=>none
 | n + 1,b,s=>match b s with
   | none=>none
   | some (.inl bV)=>ej n b bV
   | some (.inr e)=>some e
def MO {σ ε:Type} (c:cU) (E:σ→List (Nat × I)) (L:σ→List aH) (xs:ε→Exit) (fc:ε→List (Nat × I)) (Lx:ε→List aH):σ ⊕ ε→Exit→Act→World→Prop
 | .inl s,x,a,W=>x= .normal∧bC c (E s) (L s) a W
 | .inr e,x,a,W=>x≠ .normal∧x=xs e∧bC c (fc e) (Lx e) a W
theorem ag.round {σ ε:Type} {E':σ→List (Nat × I)} {ay:σ→List aH} {xs:ε→Exit} {fc:ε→List (Nat × I)} {Lx:ε→List aH} {s:σ}
 (h:∀ a W,bC c E L a W→bC c (E' s) (ay s) a W):ag c (MO c E' ay xs fc Lx (.inl s)) .normal E L:=fun a W st=>⟨rfl,h a W st⟩
theorem IL {F:Fence} {n:Nat} {P:Program} {body:Code} {σ ε:Type} (b:σ→Option (σ ⊕ ε)) (e4:σ→Act→World→Prop) (X:ε→Exit→Act→World→Prop)
 (ni:∀ s r,b s=some r→ ∀ a W,e4 s a W→body.wpIn F n P (fun x a W=>match r with | .inl bV=>x= .normal∧e4 bV a W | .inr e=>x≠ .normal∧X e x a W) a W)
 (Q:Exit→Act→World→Prop) (e:ε) (mG:∀ x a W,X e x a W→Q x a W) {b2:σ} {N:Nat} (aq:ej N b b2=some e) {fu:Act} {hY:World} (bJ:e4 b2 fu hY):
 (Code.loop body).wpIn F n P Q fu hY:=by
 intro dd k cs vC hb aS
 have key:∀ N s,ej N b s=some e→ ∀ a W,e4 s a W→
  ∃ x hZ W',Q x hZ W'∧ArrivesIn (Machine.fenced P F) P (lone (dd.atR a (.code body :: .inLoop body :: k)) cs W) dd k cs x hZ W':=by
  intro N
  induction N with
  | zero=>intro s h; simp [ej] at h
  | succ N bI=>
    intro s h a W jG
    simp only [ej] at h
    split at h
    ·cases h
    ·rename_i bV hs
     obtain⟨x,vl,vm,hq,oX⟩:=ni s _ hs a W jG dd (.inLoop body :: k) cs vC hb aS
     obtain⟨an,FU⟩:=hq
     subst an
     obtain⟨Ft,Fu,Fv,EY,DV⟩:=bI bV h vl vm FU
     exact⟨Ft,Fu,Fv,EY,.of_steps (StepsIn.trans oX (.one (fenced_calm hb aS rfl) stepR_inLoop)) DV⟩
    ·rename_i e' hs
     simp only [Option.some.injEq] at h
     subst h
     obtain⟨x,vl,vm,hq,oX⟩:=ni s _ hs a W jG dd (.inLoop body :: k) cs vC hb aS
     obtain⟨an,G3⟩:=hq
     exact⟨x,vl,vm,mG _ _ _ G3,.pass (x:= .inLoop body) rfl (fun _ _=> .inl an) oX⟩
 obtain⟨x,hZ,W',hq,oX⟩:=key N b2 aq fu hY bJ
 exact⟨x,hZ,W',hq,.of_steps (.one (fenced_calm hb aS rfl) stepR_loop) oX⟩
theorem ai.loop {σ ε:Type} {body:Code} {N:Nat} {b:σ→Option (σ ⊕ ε)} {b2:σ} {e:ε} (aq:ej N b b2=some e)
 (E:σ→List (Nat × I)) (L:σ→List aH) (xs:ε→Exit) (fc:ε→List (Nat × I)) (Lx:ε→List aH)
 (pU:∀ s r,b s=some r→ai c (MO c E L xs fc Lx r) body (E s) (L s))
 (mG:ag c Q (xs e) (fc e) (Lx e)):ai c Q (.loop body) (E b2) (L b2):=fun a W st=>
 IL b (fun s a W=>bC c (E s) (L s) a W) (fun e x a W=>x=xs e∧bC c (fc e) (Lx e) a W)
  (fun s r hs a W jG=>wpIn_mono (pU s r hs a W jG) (fun x a W h=>by
   cases r with
   | inl bV=>exact h
   | inr e'=>exact⟨h.1,h.2⟩)) Q e (fun x a W ⟨an,hs⟩=>by subst an; exact mG a W hs) aq st
def bx (P:Program) (f:FuncId) (τs:List I) (ρ:I):Prop:=
 ∀ (A:List Nat) (W:World) (vs:List Value),(∀ k∈A,k < W.heap.size)→gl A W τs vs→
   Calls P f vs.toArray W fun e W'=> ∃ v,e= .returned v∧Fr [] W W'∧ρ.holds A W' v
def params:Nat→List I→List (Nat × I)
 | _,[]=> []
 | k,τ :: r=>(k,τ) :: params (k + 1) r
theorem sc {A:List Nat} {W:World} {τs:List I} {vs:List Value} (h:gl A W τs vs):∀ (k t:Nat) (τ:I),look (params k τs) t=some τ→k≤t∧ ∃ v,vs[t - k]? =some v∧τ.holds A W v:=by
 induction h with
 | nil=>intro k t τ h; simp [params,look] at h
 | cons J r bI=>
   intro k t τ aq
   simp only [params,look] at aq
   by_cases e:Nat.beq k t=true
   ·rw [e] at aq
    simp only [cond_true,Option.some.injEq] at aq
    subst aq
    rw [eF.1 e]
    exact⟨Nat.le_refl _,_,by simp,J⟩
   ·simp only [Bool.not_eq_true] at e
    rw [e] at aq
    have dv:k≠t:=fun h=>by rw [eF.2 h] at e; cases e
    obtain⟨ab,v,aC,aU⟩:=bI (k + 1) t τ aq
    refine⟨by omega,v,?_,aU⟩
    rw [show t - k=(t - (k + 1)) + 1 by omega,List.getElem?_cons_succ]
    exact aC
theorem bx.enter {P:Program} {f:FuncId} {fn:Func} {code:Code} {n:Nat} {τs:List I} {ρ:I} (a8:P.funcs[f]? =some fn) (hb:fn.body=some code) (aO:fn.ntmps=n) (hlen:Nat.ble τs.length n=true)
 (h:∀ W A,ai ⟨P,n,W,[],A,none,[]⟩ (bodyPost P fn fun e W'=> ∃ v,e= .returned v∧Fr [] W W'∧ρ.holds A W' v) code (params 0 τs) []):bx P f τs ρ:=by
 intro A W vs fE aY
 refine calls_of_wp a8 hb (wpIn_wide.1 (h W A _ _ ?_))
 have aq:=aY.length
 have hle:τs.length≤n:=Nat.le_of_ble_eq_true hlen
 exact
 {defers:=rfl
  size:=by simp [aO,aq]; omega
  env:=fun t τ ko=>by
   obtain⟨_,v,ab,aC⟩:=sc aY 0 t τ ko
   refine⟨v,?_,aC⟩
   have cq:t < vs.length:=(List.getElem?_eq_some_iff.1 ab).1
   rw [Array.getElem?_append_left (by simpa using cq)]
   simpa using ab
  dd:= .refl _ _
  own:=by simp
  nodup:=by simp [aJ]
  lt:=by simp [aJ]
  fs:=by simp [aJ]
  er:=fun k av=>⟨fE k av,by simp [aJ]⟩ }
theorem Ip {ρ:I} {A B:List Nat} {W:World} {v:Value} (h:ρ.holds (B ++ A) W v):ρ.holds A W v:=ρ.mono (.drop fun _ h=>List.mem_append.2 (.inr h)) h
end
end Gv
namespace Gv
open Go
set_option linter.unusedVariables false
section
variable {c:cU} {E:List (Nat × I)} {L:List aH} {ops:Array Oper} {Q:Exit→Act→World→Prop}
def jo (c:cU) (ops:Array Oper) (E:List (Nat × I)) (L:List aH) (o:Oper) (τ:I):Prop:=
 ∀ a W,bC c E L a W→
   (Region.wanted o (yielded ops a.tmps)=true→fK c.P o a W fun v W'=>Fr [] W W'∧τ.holds (aJ L ++ c.bP) W' v)∧
   (Region.wanted o (yielded ops a.tmps)=false→τ.holds (aJ L ++ c.bP) W undef)
theorem jo.v {o:Oper} {τ:I} (h:bX c E L o τ) (b0:o.guard=none):jo c ops E L o τ:=fun a W s=>
 ⟨fun _=>h a W s,fun hw=>by simp [Region.wanted,b0] at hw⟩
theorem jo.g {o:Oper} {j g:Nat} {b want:Bool} {τ:I} (h:b=want→bX c E L o τ) (b0:o.guard=some (j,want)) (aF:(ops[j]?).bind (·.dst)=some g) (aq:look E g=some (.of b)):
 jo c ops E L o (.cond (b=want) τ):=fun a W s=>by
 have a9:=AM aF aq s
 constructor
 ·intro hw
  have hb:b=want:=by simpa [Region.wanted,b0,a9] using hw
  refine fK.wp (h hb a W s) fun v W' ⟨f,aY⟩=>⟨v,rfl,f,fun _=>aY,fun h=>absurd hb h⟩
 ·intro hw
  exact⟨fun hb=>by simp [Region.wanted,b0,a9,hb] at hw,fun _=>rfl⟩
theorem jo.gg {o:Oper} {j g:Nat} {p:Prop} {b want:Bool} {τ:I} (h:p∧b=want→bX c E L o τ) (b0:o.guard=some (j,want)) (aF:(ops[j]?).bind (·.dst)=some g) (aq:look E g=some (.cond p (.of b))):
 jo c ops E L o (.cond (p∧b=want) τ):=fun a W s=>by
 have a9:=H5 aF aq s
 have Cb:Region.wanted o (yielded ops a.tmps)=true→p∧b=want:=by
  intro hw
  by_cases hp:p
  ·exact⟨hp,by simpa [Region.wanted,b0,a9.1 hp] using hw⟩
  ·simp [Region.wanted,b0,a9.2 hp] at hw
 constructor
 ·intro hw
  refine fK.wp (h (Cb hw) a W s) fun v W' ⟨f,aY⟩=>⟨v,rfl,f,fun _=>aY,fun h=>absurd (Cb hw) h⟩
 ·intro hw
  exact⟨fun hb=>by simp [Region.wanted,b0,a9.1 hb.1,hb.2] at hw,fun _=>rfl⟩
inductive eI
 | val (τ:I)
 | new (cp:dn)
 | jB (i:Nat) (cp:dn)
 | kJ (j:Nat) (cp:dn)
def eI.l8:eI→Bool
 | .jB _ _ | .kJ _ _=>true
 | _=>false
def eI.pc (p:Nat):eI→Option I
 | .val τ=>some τ
 | .new _=>some (.eq (.pointer (some ⟨p,0,none⟩)))
 | _=>none
def he (bl:Nat→Nat) (dH:List (Option Nat)) (hs:List eI) (E:List (Nat × I)):List Nat→List (Nat × I)
 | []=>E
 | j :: r=>match dH[j]?,hs[j]? with
   | some (some s),some h=>match h.pc (bl j) with
     | some τ=>(s,τ) :: he bl dH hs E r
     | none=>he bl dH hs E r
   | _,_=>he bl dH hs E r
def vb:List aH→Nat→dn→List aH
 | [],_,_=> []
 | e :: r,0,cp=>⟨e.key,cp⟩ :: r
 | e :: r,i + 1,cp=>e :: vb r i cp
theorem PM {L:List aH} {i:Nat} {e:aH} {cp:dn} (h:L[i]? =some e):vb L i cp=L.set i ⟨e.key,cp⟩:=by
 induction L generalizing i with
 | nil=>simp at h
 | cons x r bI=>
   cases i with
   | zero=>simp only [List.getElem?_cons_zero,Option.some.injEq] at h; subst h; rfl
   | succ i=>simp only [List.getElem?_cons_succ] at h; simp [vb,bI h]
def dw (L:List aH):List eI→List aH
 | []=>L
 | .jB i cp :: r=>dw (vb L i cp) r
 | _ :: r=>dw L r
def hx (j:Nat) (cp:dn):List eI→dn
 | []=>cp
 | .kJ i cp' :: r=>hx j (bif Nat.beq i j then cp' else cp) r
 | _ :: r=>hx j cp r
theorem Iq (L:List aH) (r:List eI) (h:eI):dw L (r ++ [h])=dw (dw L r) [h]:=by
 induction r generalizing L with
 | nil=>rfl
 | cons x r bI=>cases x <;> simp only [List.cons_append,dw] <;> exact bI _
theorem Da (j:Nat) (cp:dn) (r:List eI) (h:eI):hx j cp (r ++ [h])=hx j (hx j cp r) [h]:=by
 induction r generalizing cp with
 | nil=>rfl
 | cons x r bI=>cases x <;> simp only [List.cons_append,hx] <;> exact bI _
theorem AR {L:List aH} :∀ {r:List eI},(∀ h∈r,h.l8=false)→dw L r=L
 | [],_=>rfl
 | h :: r,ct=>by
   have:=ct h (by simp)
   have bI:=AR (L:=L) (r:=r) (fun x an=>ct x (by simp [an]))
   cases h <;> first | exact bI | cases this
theorem AN {j:Nat} {cp:dn} :∀ {r:List eI},(∀ h∈r,h.l8=false)→hx j cp r=cp
 | [],_=>rfl
 | h :: r,ct=>by
   have:=ct h (by simp)
   have bI:=AN (j:=j) (cp:=cp) (r:=r) (fun x an=>ct x (by simp [an]))
   cases h <;> first | exact bI | cases this
def nu (w:Nat→Bool) (i:Nat):Nat→List eI→Bool
 | _,[]=>true
 | k,.jB j _ :: r=>(!(Nat.beq j i) || w k) && nu w i (k + 1) r
 | k,.val _ :: r=>nu w i (k + 1) r
 | k,.new _ :: r=>nu w i (k + 1) r
 | k,.kJ _ _ :: r=>nu w i (k + 1) r
theorem OZ {L:List aH} {i j:Nat} {cp:dn} (h:i≠j):(vb L i cp)[j]? =L[j]? :=by
 induction L generalizing i j with
 | nil=>rfl
 | cons e r bI=>
   cases i with
   | zero=>cases j with
     | zero=>exact absurd rfl h
     | succ j=>rfl
   | succ i=>cases j with
     | zero=>rfl
     | succ j=>simp only [vb,List.getElem?_cons_succ]; exact bI (by omega)
theorem w9 {L:List aH} {i:Nat} {w:Nat→Bool} :∀ {r:List eI} (b k:Nat),nu w i k r=true→ (∀ q,q < b→ (∃ j cp,r[q]? =some (.jB j cp))→w (k + q)=false)→ (dw L (r.take b))[i]? =L[i]?
 | [],b,_,_,_=>by simp [dw]
 | h :: r,0,_,_,_=>by simp [dw]
 | .jB j cp :: r,b + 1,k,h,hw=>by
   simp only [nu,Bool.and_eq_true,Bool.or_eq_true,Bool.not_eq_true'] at h
   have Vm:w k=false:=by simpa using hw 0 (by omega) ⟨j,cp,by simp⟩
   have dv:j≠i:=fun e=>by
    rw [e,Nat.beq_refl,Vm] at h
    rcases h.1 with h | h <;> cases h
   rw [List.take_succ_cons,dw,w9 b (k + 1) h.2 (fun q hq an=>by have:=hw (q + 1) (by omega) (by simpa using an); rw [← this]; congr 1; omega),OZ dv]
 | .val _ :: r,b + 1,k,h,hw=>by rw [List.take_succ_cons]; exact w9 (r:=r) b (k + 1) h (fun q hq an=>by have:=hw (q + 1) (by omega) (by simpa using an); rw [← this]; congr 1; omega)
 | .new _ :: r,b + 1,k,h,hw=>by rw [List.take_succ_cons]; exact w9 (r:=r) b (k + 1) h (fun q hq an=>by have:=hw (q + 1) (by omega) (by simpa using an); rw [← this]; congr 1; omega)
 | .kJ _ _ :: r,b + 1,k,h,hw=>by rw [List.take_succ_cons]; exact w9 (r:=r) b (k + 1) h (fun q hq an=>by have:=hw (q + 1) (by omega) (by simpa using an); rw [← this]; congr 1; omega)
def G4 (P:Program) (o:Oper) (cp:dn):Prop:=
 o.guard=none∧ ∃ iI,(∀ A W,cp.holds A W iI)∧ ∀ (a:Act) W,(execOp a.eval o).run P W= .ok (.value (.pointer (some ⟨W.heap.size,0,none⟩))) (W.alloc iI)
def zH (c:cU) (E:List (Nat × I)) (L:List aH) (o:Oper) (p:Nat) (cp:dn):Prop:=
 o.guard=none∧o.dst=none∧ ∀ a W,bC c E L a W→ ∃ cs dk T,W.heap[p]? =some (.cells cs T (0,0))∧ (execOp a.eval o).run c.P W= .ok .skip (W.setRow p dk)∧cp.holds (aJ L ++ c.bP) W (.cells dk T (0,0))
def oP (c:cU) (ops:Array Oper) (bl:Nat→Nat) (dH:List (Option Nat)) (all:List eI) (E:List (Nat × I)) (L:List aH):Nat→List Oper→List eI→List (List Nat)→Prop
 | _,_,[],_=>True
 | i,o :: os,.val τ :: hs,d :: ds=>(∀ ay:List aH,(∀ (j:Nat) (e:aH),L[j]? =some e→nu (fun k=>Region.waitsFor .any ops k i) j 0 all=true→ay[j]? =some e)→jo c ops (he bl dH all E d) ay o τ)∧oP c ops bl dH all E L (i + 1) os hs ds
 | i,o :: os,.new cp :: hs,_ :: ds=>G4 c.P o cp∧oP c ops bl dH all E L (i + 1) os hs ds
 | i,o :: os,.jB k cp :: hs,d :: ds=>(∃ (p:Nat) (lH:dn),(dw L (all.take i))[k]? =some ⟨some p,lH⟩∧ ∀ ay:List aH,(∀ (j:Nat) (e:aH),(dw L (all.take i))[j]? =some e→ay[j]? =some e)→zH c (he bl dH all E d) ay o p cp)∧oP c ops bl dH all E L (i + 1) os hs ds
 | i,o :: os,.kJ k cp :: hs,d :: ds=>(d.contains k=true∧ ∃ lH:dn,all[k]? =some (.new lH)∧ ∀ (ay:List aH) (q:Nat),ay[q]? =some ⟨some (bl k),hx k lH (all.take i)⟩→zH c (he bl dH all E d) ay o (bl k) cp)∧oP c ops bl dH all E L (i + 1) os hs ds
 | _,_,_,_=>False
def BD (ops:Array Oper) (n:Nat) (dH:List (Option Nat)) (p2:List (List Nat)) (y2:List Bool) (Wz:Nat):Bool:=
 decide (dH.length=n) && decide (n≤ops.size) && (dH.filterMap id).all (Nat.blt · Wz) && decide (dH.filterMap id).Nodup &&
 ((List.range n).all fun i=>((ops[i]?).map fun o=>(some o.dst ==dH[i]?) && (o.after.all fun e=> !Region.binds .any e || decide (e.on < i))).getD false) &&
 ((List.range n).all fun i=>(p2.getD i []).all fun j=>decide (j < n) && Region.waitsFor .any ops i j) &&
 ((List.range n).all fun i=> !(y2.getD i false) || ((List.range i).all fun j=> !(y2.getD j false) || Region.waitsFor .any ops i j)) &&
 (decide (n=ops.size) || (Region.sinkB .any ops n && Region.chainB .any ops n)) &&
 Region.seqB .any ops (ops.size - n) n ((List.range n).foldl (fun l i=>l.setIfInBounds i true) (Array.replicate ops.size false))
def yJ (E:List (Nat × I)) (dH:List Nat):Bool:=match E with
 | []=>true
 | e :: r=> !(dH.contains e.1) && yJ r dH
theorem Dl {dH:List Nat} :∀ {E:List (Nat × I)},yJ E dH=true→ ∀ t τ,look E t=some τ→t ∉ dH
 | [],_,t,τ,h=>by simp [look] at h
 | (s,σ) :: r,hd,t,τ,h=>by
   simp only [yJ,Bool.and_eq_true,Bool.not_eq_true'] at hd
   simp only [look] at h
   by_cases e:Nat.beq s t=true
   ·have:=eF.1 e
    subst this
    simpa using hd.1
   ·simp only [Bool.not_eq_true] at e
    rw [e] at h
    exact Dl hd.2 t τ h
theorem Kk (f g:Nat→Bool) (i:Nat) (a8:f i=true) (b0:g i=false) (h:∀ j,g j=true→f j=true):∀ n,i < n→ ((List.range n).filter g).length < ((List.range n).filter f).length:=by
 have le:∀ n,((List.range n).filter g).length≤ ((List.range n).filter f).length:=by
  intro n
  induction n with
  | zero=>simp
  | succ n bI=>
    rw [List.range_succ,List.filter_append,List.filter_append,List.length_append,List.length_append]
    have:([n].filter g).length≤ ([n].filter f).length:=by
     cases s9:g n with
     | false=>simp [s9]
     | true=>simp [s9,h n s9]
    omega
 intro n
 induction n with
 | zero=>omega
 | succ n bI=>
   intro cq
   rw [List.range_succ,List.filter_append,List.filter_append,List.length_append,List.length_append]
   by_cases e:i=n
   ·subst e
    have:=le i
    simp [a8,b0]
    omega
   ·have J:=bI (by omega)
    have:([n].filter g).length≤ ([n].filter f).length:=by
     cases s9:g n with
     | false=>simp [s9]
     | true=>simp [s9,h n s9]
    omega
theorem Dm {bl:Nat→Nat} {dH:List (Option Nat)} {all:List eI} :∀ {k:Nat} {os:List Oper} {hs:List eI} {ds:List (List Nat)},oP c ops bl dH all E L k os hs ds→
 ∀ (i:Nat) h,hs[i]? =some h→ ∃ o,os[i]? =some o∧ (match h with
   | .val τ=> ∀ ay:List aH,(∀ (j:Nat) (e:aH),L[j]? =some e→nu (fun q=>Region.waitsFor .any ops q (k + i)) j 0 all=true→ay[j]? =some e)→jo c ops (he bl dH all E (ds.getD i [])) ay o τ
   | .new cp=>G4 c.P o cp
   | .jB q cp=> ∃ (p:Nat) (lH:dn),(dw L (all.take (k + i)))[q]? =some ⟨some p,lH⟩∧ ∀ ay:List aH,(∀ (j:Nat) (e:aH),(dw L (all.take (k + i)))[j]? =some e→ay[j]? =some e)→zH c (he bl dH all E (ds.getD i [])) ay o p cp
   | .kJ q cp=>(ds.getD i []).contains q=true∧ ∃ lH:dn,all[q]? =some (.new lH)∧ ∀ (ay:List aH) (r:Nat),ay[r]? =some ⟨some (bl q),hx q lH (all.take (k + i))⟩→zH c (he bl dH all E (ds.getD i [])) ay o (bl q) cp)
 | k,os,[],ds,_,i,h,al=>by simp at al
 | k,[],h :: hs,ds,ct,_,_,_=>by cases h <;> simp [oP] at ct
 | k,o :: os,h :: hs,[],ct,_,_,_=>by cases h <;> simp [oP] at ct
 | k,o :: os,bJ :: hs,d :: ds,ct,i,h,al=>by
   have hd:oP c ops bl dH all E L (k + 1) os hs ds:=by cases bJ <;> exact ct.2
   cases i with
   | zero=>
     simp only [List.getElem?_cons_zero,Option.some.injEq] at al
     subst al
     refine⟨o,by simp,?_⟩
     cases bJ <;> exact ct.1
   | succ i=>
     simp only [List.getElem?_cons_succ] at al
     obtain⟨o',J,ab⟩:=Dm hd i h al
     refine⟨o',by simpa using J,?_⟩
     rw [show k + (i + 1)=k + 1 + i by omega]
     cases h <;> exact ab
theorem JI {bl:Nat→Nat} {dH:List (Option Nat)} {hs:List eI} {t:Nat} {τ:I} :∀ {ds:List Nat},look (he bl dH hs E ds) t=some τ→ (∃ j∈ds,dH[j]? =some (some t)∧ ∃ h,hs[j]? =some h∧h.pc (bl j)=some τ)∨look E t=some τ
 | [],h=> .inr h
 | j :: r,h=>by
   have rest:look (he bl dH hs E r) t=some τ→ (∃ k∈j :: r,dH[k]? =some (some t)∧ ∃ h,hs[k]? =some h∧h.pc (bl k)=some τ)∨look E t=some τ:=fun h=>by
    rcases JI h with⟨k,av,J⟩ | J
    ·exact .inl ⟨k,List.mem_cons_of_mem _ av,J⟩
    ·exact .inr J
   simp only [he] at h
   split at h
   ·rename_i s av rB y3
    split at h
    ·rename_i σ kp
     simp only [look] at h
     by_cases e:Nat.beq s t=true
     ·rw [e] at h
      simp only [cond_true,Option.some.injEq] at h
      subst h
      exact .inl ⟨j,by simp,by rw [rB,eF.1 e],av,y3,kp⟩
     ·simp only [Bool.not_eq_true] at e
      rw [e] at h
      exact rest h
    ·exact rest h
   ·exact rest h
def rm (bl:Nat→Nat) (E:List (Nat × I)):Nat→List (Option Nat)→List eI→List (Nat × I)
 | i,some s :: hr,.val τ :: hs=>(s,τ) :: rm bl E (i + 1) hr hs
 | i,some s :: hr,.new _ :: hs=>(s,.eq (.pointer (some ⟨bl i,0,none⟩))) :: rm bl E (i + 1) hr hs
 | i,_ :: hr,_ :: hs=>rm bl E (i + 1) hr hs
 | _,_,_=>E
def kF (bl:Nat→Nat) (all:List eI) (L:List aH):Nat→List eI→List aH
 | i,.new cp :: hs=>⟨some (bl i),hx i cp all⟩ :: kF bl all L (i + 1) hs
 | i,_ :: hs=>kF bl all L (i + 1) hs
 | _,[]=>L
theorem IM {bl:Nat→Nat} {t:Nat} {τ:I} :∀ {dH:List (Option Nat)} {hs:List eI} (k:Nat),look (rm bl E k dH hs) t=some τ→
 (∃ j:Nat,dH[j]? =some (some t)∧ ∃ h,hs[j]? =some h∧h.pc (bl (k + j))=some τ)∨look E t=some τ
 | [],hs,k,h=> .inr (by cases hs <;> exact h)
 | s :: hr,[],k,h=> .inr (by cases s <;> exact h)
 | s :: hr,x :: hs,k,h=>by
   have rest:look (rm bl E (k + 1) hr hs) t=some τ→ (∃ j:Nat,(s :: hr)[j]? =some (some t)∧ ∃ h,(x :: hs)[j]? =some h∧h.pc (bl (k + j))=some τ)∨look E t=some τ:=fun h=>by
    rcases IM (k + 1) h with⟨j,J,ab⟩ | J
    ·refine .inl ⟨j + 1,by simpa using J,?_⟩
     rw [show k + (j + 1)=k + 1 + j by omega]
     simpa using ab
    ·exact .inr J
   have one:∀ (bV:Nat) (σ:I),s=some bV→x.pc (bl k)=some σ→look ((bV,σ) :: rm bl E (k + 1) hr hs) t=some τ→ (∃ j:Nat,(s :: hr)[j]? =some (some t)∧ ∃ h,(x :: hs)[j]? =some h∧h.pc (bl (k + j))=some τ)∨look E t=some τ:=fun bV σ eP kp h=>by
    simp only [look] at h
    by_cases e:Nat.beq bV t=true
    ·rw [e] at h
     simp only [cond_true,Option.some.injEq] at h
     subst h
     exact .inl ⟨0,by simp [eP,eF.1 e],x,by simp,by simpa using kp⟩
    ·simp only [Bool.not_eq_true] at e
     rw [e] at h
     exact rest h
   cases s with
   | none=>cases x <;> exact rest h
   | some bV=>
     cases x with
     | val σ=>exact one bV σ rfl rfl h
     | new cp=>exact one bV _ rfl rfl h
     | jB i cp=>exact rest h
     | kJ i cp=>exact rest h
theorem Pm {n:Nat} {bL:Array Bool} (inv:HeadInv .any ops n bL) (aO:n≤ops.size) (jy:∀ i,i < n→bL.getD i true=true):
 bL=(List.range n).foldl (fun l i=>l.setIfInBounds i true) (Array.replicate ops.size false):=by
 have key:∀ m,m≤ops.size→ ((List.range m).foldl (fun l i=>l.setIfInBounds i true) (Array.replicate ops.size false)).size=ops.size∧
  ∀ j (d:Bool),j < ops.size→ ((List.range m).foldl (fun l i=>l.setIfInBounds i true) (Array.replicate ops.size false)).getD j d=decide (j < m):=by
  intro m
  induction m with
  | zero=>intro _; exact⟨by simp,fun j d aF=>by simp [aF]⟩
  | succ m bI=>
    intro hm
    obtain⟨J,ab⟩:=bI (by omega)
    rw [List.range_succ,List.foldl_append]
    simp only [List.foldl_cons,List.foldl_nil]
    refine⟨by simpa using J,fun j d aF=> ?_⟩
    by_cases e:m=j
    ·subst e
     simp [J,aF]
    ·rw [getD_set_ne d e,ab j d aF]
     by_cases aC:j < m
     ·simp [aC]; omega
     ·simp [aC]; omega
 obtain⟨J,ab⟩:=key n aO
 apply Array.ext
 ·rw [inv.size,J]
 ·intro i L9 Vn
  have al:i < ops.size:=by rw [← inv.size]; exact L9
  have aC:=ab i true al
  have az:bL.getD i true=bL[i]:=by simp [L9]
  have aX:((List.range n).foldl (fun l i=>l.setIfInBounds i true) (Array.replicate ops.size false)).getD i true=((List.range n).foldl (fun l i=>l.setIfInBounds i true) (Array.replicate ops.size false))[i]:=by
   simp [Vn]
  rw [← aX,aC,← az]
  by_cases aU:i < n
  ·rw [jy i aU]; simp [aU]
  ·rw [inv.tail i (by omega) al]; simp [aU]
theorem uj (bl:Nat→Nat) (all:List eI) (L:List aH):∀ (hs:List eI) (i:Nat),kF bl all L i hs=kF bl all [] i hs ++ L
 | [],_=>rfl
 | .new cp :: hs,i=>by simp only [kF]; rw [uj bl all L hs (i + 1)]; rfl
 | .val _ :: hs,i=>uj bl all L hs (i + 1)
 | .jB _ _ :: hs,i=>uj bl all L hs (i + 1)
 | .kJ _ _ :: hs,i=>uj bl all L hs (i + 1)
theorem Dn {bl:Nat→Nat} {all:List eI} {e:aH} :∀ {hs:List eI} {i:Nat},e∈kF bl all [] i hs→ ∃ (j:Nat) (cp:dn),hs[j]? =some (.new cp)∧e=⟨some (bl (i + j)),hx (i + j) cp all⟩
 | [],_,h=>by simp [kF] at h
 | x :: hs,i,h=>by
   have rest:e∈kF bl all [] (i + 1) hs→ ∃ (j:Nat) (cp:dn),(x :: hs)[j]? =some (.new cp)∧e=⟨some (bl (i + j)),hx (i + j) cp all⟩:=fun h=>by
    obtain⟨j,cp,J,ab⟩:=Dn (hs:=hs) (i:=i + 1) h
    refine⟨j + 1,cp,by simpa using J,?_⟩
    rw [show i + (j + 1)=i + 1 + j by omega]; exact ab
   cases x with
   | new cp=>
     rcases List.mem_cons.1 h with h | h
     ·exact⟨0,cp,by simp,by simpa using h⟩
     ·exact rest h
   | val _=>exact rest h
   | jB _ _=>exact rest h
   | kJ _ _=>exact rest h
theorem HR {bl:Nat→Nat} {all:List eI} :∀ (hs:List eI) (i:Nat),(∀ (j k:Nat) (u v:dn),hs[j]? =some (.new u)→hs[k]? =some (.new v)→bl (i + j)=bl (i + k)→j=k)→ (aJ (kF bl all [] i hs)).Nodup
 | [],_,_=>by simp [kF,aJ]
 | x :: hs,i,h=>by
   have aS:(aJ (kF bl all [] (i + 1) hs)).Nodup:=HR hs (i + 1) fun j k u v J ab aC=>by
    have:=h (j + 1) (k + 1) u v (by simpa using J) (by simpa using ab) (by rw [show i + (j + 1)=i + 1 + j by omega,show i + (k + 1)=i + 1 + k by omega]; exact aC)
    omega
   cases x with
   | val _=>exact aS
   | jB _ _=>exact aS
   | kJ _ _=>exact aS
   | new cp=>
     simp only [kF,aJ]
     refine List.nodup_cons.2 ⟨fun hm=> ?_,aS⟩
     obtain⟨e,he,av⟩:=jR.1 hm
     obtain⟨j,u,J,ab⟩:=Dn he
     rw [ab] at av
     simp only [Option.some.injEq] at av
     have:=h 0 (j + 1) cp u (by simp) (by simpa using J) (by rw [show i + (j + 1)=i + 1 + j by omega]; simpa using av.symm)
     omega
def eK (bl:Nat→Nat) (all:List eI) (b:Nat) (c6:List Nat):List aH:=c6.map fun j=>⟨some (bl j),match all[j]? with | some (.new cp)=>hx j cp (all.take b) | _=> .dead⟩
theorem xr (bl:Nat→Nat) (all:List eI) (b:Nat):∀ (c6:List Nat),aJ (eK bl all b c6)=c6.map bl
 | []=>rfl
 | j :: c6=>by
   have:=xr bl all b c6
   simp only [eK,List.map_cons,aJ] at this ⊢
   rw [this]
structure vD (c:cU) (n:Nat) (dH:List (Option Nat)) (hs:List eI) (E:List (Nat × I)) (L:List aH) (bL:Array Bool) (bl:Nat→Nat) (c6:List Nat) (b:Nat) (a:Act) (W:World):Prop where
 st:bC c E (dw L (hs.take b) ++ eK bl hs b c6) a W
 done:∀ (j:Nat) s h τ,j < n→bL.getD j false=true→dH[j]? =some (some s)→hs[j]? =some h→h.pc (bl j)=some τ→ ∃ v,a.tmps[s]? =some v∧τ.holds (aJ (dw L (hs.take b) ++ eK bl hs b c6) ++ c.bP) W v
 news:∀ (j:Nat),j∈c6↔ (j < n∧bL.getD j false=true∧ ∃ cp,hs[j]? =some (.new cp))
 stored:∀ (j:Nat) h,hs[j]? =some h→h.l8=true→ (bL.getD j false=true↔j < b)
 ble:b≤n
theorem Qg {hs:List eI} {b i:Nat} {h:eI} (hb:b≤i) (al:hs[i]? =some h) (aO:∀ (j:Nat) x,b≤j→j < i→hs[j]? =some x→x.l8=false):
 ∃ r,hs.take i=hs.take b ++ r∧ ∀ x∈r,x.l8=false:=by
 refine⟨(hs.drop b).take (i - b),?_,fun x an=> ?_⟩
 ·rw [← List.take_add]; congr 1; omega
 ·obtain⟨j,aF⟩:=List.mem_iff_getElem?.1 an
  rw [List.getElem?_take] at aF
  split at aF
  ·rw [List.getElem?_drop] at aF
   exact aO (b + j) x (by omega) (by omega) aF
  ·cases aF
theorem DW (L:List aH) (r s:List eI):dw L (r ++ s)=dw (dw L r) s:=by
 induction r generalizing L with
 | nil=>rfl
 | cons x r bI=>cases x <;> simp only [List.cons_append,dw] <;> exact bI _
theorem Dw (j:Nat) (cp:dn) (r s:List eI):hx j cp (r ++ s)=hx j (hx j cp r) s:=by
 induction r generalizing cp with
 | nil=>rfl
 | cons x r bI=>cases x <;> simp only [List.cons_append,hx] <;> exact bI _
theorem sk {L R:List aH} (h:L.Perm R):(aJ L).Perm (aJ R):=by
 induction h with
 | nil=>exact .nil
 | cons x _ bI=>cases av:x.key <;> simp only [aJ,av] <;> first | exact bI | exact bI.cons _
 | swap x y l=>
   cases an:x.key <;> cases a9:y.key <;> simp only [aJ,an,a9]
   all_goals first | exact .refl _ | exact .swap _ _ _
 | trans _ _ J ab=>exact J.trans ab
theorem bC.perm {E L ay a W} (h:bC c E L a W) (p:L.Perm ay):bC c E ay a W:=
 h.sub (fun e he=>p.mem_iff.2 he) ((sk p).nodup_iff.1 h.nodup)
theorem w4 {j:Nat} {cp:dn} :∀ {r:List eI},(∀ q x,eI.kJ q x∈r→q≠j)→hx j cp r=cp
 | [],_=>rfl
 | .kJ q x :: r,h=>by
   have J:=h q x (by simp)
   have e:Nat.beq q j=false:=by
    cases hb:Nat.beq q j with
    | false=>rfl
    | true=>exact absurd (eF.1 hb) J
   simp only [hx,e,cond_false]
   exact w4 fun q x hm=>h q x (by simp [hm])
 | .val _ :: r,h=>w4 (r:=r) fun q x hm=>h q x (by simp [hm])
 | .new _ :: r,h=>w4 (r:=r) fun q x hm=>h q x (by simp [hm])
 | .jB _ _ :: r,h=>w4 (r:=r) fun q x hm=>h q x (by simp [hm])
theorem H6 (f:Nat→Nat):∀ (l:List Nat),(l.map f).Nodup→l.Nodup
 | [],_=>by simp
 | x :: r,h=>by
   simp only [List.map_cons] at h
   obtain⟨J,ab⟩:=List.nodup_cons.1 h
   exact List.nodup_cons.2 ⟨fun hm=>J (List.mem_map.2 ⟨x,hm,rfl⟩),H6 f r ab⟩
theorem QV {bl lI:Nat→Nat} {all:List eI} {b:Nat} {c6:List Nat} (h:∀ j∈c6,lI j=bl j):eK lI all b c6=eK bl all b c6:=by
 unfold eK
 exact List.map_congr_left fun j aF=>by rw [h j aF]
theorem PN {n:Nat} {dH:List (Option Nat)} {hs:List eI} {p2:List (List Nat)} (ir:BD ops n dH p2 (hs.map eI.l8) c.n=true) (aK:yJ E (dH.filterMap id)=true) (hlen:hs.length=n)
 (ct:∀ bl,oP c ops bl dH hs E L 0 ops.toList hs p2) (b9:∀ bl,ah c ops Q (ops.toList.drop n) (rm bl E 0 dH hs) (kF bl hs (dw L hs) 0 hs)):
 ∀ m (bL:Array Bool) (bl:Nat→Nat) (c6:List Nat) (b:Nat) (a:Act) (W:World),((List.range n).filter fun i=> !bL.getD i true).length≤m→HeadInv .any ops n bL→vD c n dH hs E L bL bl c6 b a W→
   wpAnyIn c.F 9 c.P .any ops Q (m + (ops.size - n)) bL a W:=by
 simp only [BD,Bool.and_eq_true,decide_eq_true_eq,Bool.or_eq_true] at ir
 obtain⟨⟨⟨⟨⟨⟨⟨⟨kM,aO⟩,cq⟩,h8⟩,UK⟩,Lc⟩,UL⟩,TB⟩,Fw⟩:=ir
 have vE:∀ i,i < n→ ∃ o,ops[i]? =some o∧dH[i]? =some o.dst∧ ∀ e∈o.after,Region.binds .any e=true→e.on < i:=by
  intro i al
  have J:=List.all_eq_true.1 UK i (List.mem_range.2 al)
  cases bm:ops[i]? with
  | none=>simp [bm] at J
  | some o=>
    simp only [bm,Option.map_some,Option.getD_some,Bool.and_eq_true,beq_iff_eq] at J
    refine⟨o,rfl,J.1.symm,fun e he hb=> ?_⟩
    have:=Array.all_eq_true_iff_forall_mem.1 J.2 e he
    simp [hb] at this
    exact this
 have BQ:∀ (i s:Nat),dH[i]? =some (some s)→s < c.n:=fun i s h=>by
  have:s∈dH.filterMap id:=List.mem_filterMap.2 ⟨some s,List.mem_of_getElem? h,rfl⟩
  have:=List.all_eq_true.1 cq s this
  simpa using this
 have LI:∀ (i j s:Nat),dH[i]? =some (some s)→dH[j]? =some (some s)→i=j:=by
  have key:∀ (l:List (Option Nat)),(l.filterMap id).Nodup→ ∀ (i j s:Nat),l[i]? =some (some s)→l[j]? =some (some s)→i=j:=by
   intro l
   induction l with
   | nil=>intro _ i j s h; simp at h
   | cons x r bI=>
     intro h8 i j s al aF
     have aS:(r.filterMap id).Nodup:=by
      cases x with
      | none=>simpa using h8
      | some y=>simp only [List.filterMap_cons_some (f:=id) (a:=some y) (b:=y) rfl] at h8; exact(List.nodup_cons.1 h8).2
     have rl:x=some s→s ∉ r.filterMap id:=fun e=>by
      subst e
      simp only [List.filterMap_cons_some (f:=id) (a:=some s) (b:=s) rfl] at h8
      exact(List.nodup_cons.1 h8).1
     cases i with
     | zero=>
       simp only [List.getElem?_cons_zero,Option.some.injEq] at al
       cases j with
       | zero=>rfl
       | succ j=>
         simp only [List.getElem?_cons_succ] at aF
         exact absurd (List.mem_filterMap.2 ⟨some s,List.mem_of_getElem? aF,rfl⟩:s∈r.filterMap id) (rl al)
     | succ i=>
       simp only [List.getElem?_cons_succ] at al
       cases j with
       | zero=>
         simp only [List.getElem?_cons_zero,Option.some.injEq] at aF
         exact absurd (List.mem_filterMap.2 ⟨some s,List.mem_of_getElem? al,rfl⟩:s∈r.filterMap id) (rl aF)
       | succ j=>
         simp only [List.getElem?_cons_succ] at aF
         rw [bI aS i j s al aF]
  exact key dH h8
 intro m
 induction m with
 | zero=>
   intro bL bl c6 b a W hm inv mid
   have jy:∀ i,i < n→bL.getD i true=true:=by
    intro i al
    cases h:bL.getD i true with
    | true=>rfl
    | false=>
      have:i∈ (List.range n).filter fun i=> !bL.getD i true:=List.mem_filter.2 ⟨List.mem_range.2 al,by rw [h]; rfl⟩
      rw [List.length_eq_zero_iff.1 (Nat.le_zero.1 hm)] at this
      cases this
   have aq:=Pm inv aO jy
   rw [← aq] at Fw
   have n2:(ops.toList.drop n).length=ops.size - n:=by simp
   rw [Nat.zero_add,← n2]
   rw [← n2] at Fw
   refine C4 (ops.toList.drop n) n bL a W (fun j=>by simp) Fw (b9 bl a W ?_)
   have qW:∀ j,j < n→bL.getD j false=true:=fun j qh=>by
    have aC:=jy j qh
    have aU:j < bL.size:=by rw [inv.size]; omega
    simpa [aU] using aC
   have qh:∀ (j:Nat) (h:eI),hs[j]? =some h→j < n:=fun j h aF=>by have:=(List.getElem?_eq_some_iff.1 aF).1; omega
   have Kl:∀ x∈hs.drop b,x.l8=false:=fun x an=>by
    obtain⟨j,aF⟩:=List.mem_iff_getElem?.1 an
    rw [List.getElem?_drop] at aF
    cases hW:x.l8 with
    | false=>rfl
    | true=>
      have:=(mid.stored (b + j) x aF hW).1 (qW _ (qh _ _ aF))
      omega
   have LJ:dw L hs=dw L (hs.take b):=by
    conv=>lhs; rw [← List.take_append_drop b hs]
    rw [DW,AR Kl]
   have FV:∀ (j:Nat) cp,hx j cp hs=hx j cp (hs.take b):=fun j cp=>by
    conv=>lhs; rw [← List.take_append_drop b hs]
    rw [Dw,AN Kl]
   have EZ:(c6.map bl).Nodup:=by
    have:=mid.st.nodup
    rw [eA,xr] at this
    exact(List.nodup_append.1 this).2.1
   have UM:∀ (j k:Nat),j∈c6→k∈c6→bl j=bl k→j=k:=by
    have key:∀ (l:List Nat),(l.map bl).Nodup→ ∀ j k:Nat,j∈l→k∈l→bl j=bl k→j=k:=by
     intro l
     induction l with
     | nil=>intro _ j k h; cases h
     | cons x r Vo=>
       intro aO j k aF av e
       simp only [List.map_cons] at aO
       obtain⟨J,ab⟩:=List.nodup_cons.1 aO
       rcases List.mem_cons.1 aF with aC | aF
       ·rcases List.mem_cons.1 av with aU | av
        ·rw [aC,aU]
        ·exact absurd (List.mem_map.2 ⟨k,av,by rw [← e,aC]⟩) J
       ·rcases List.mem_cons.1 av with aU | av
        ·exact absurd (List.mem_map.2 ⟨j,aF,by rw [e,aU]⟩) J
        ·exact Vo ab j k aF av e
    exact key c6 EZ
   have FW:∀ (j:Nat) cp,hs[j]? =some (.new cp)→j∈c6:=fun j cp aF=>(mid.news j).2 ⟨qh j _ aF,qW j (qh j _ aF),cp,aF⟩
   have E0:∀ e∈kF bl hs [] 0 hs,e∈eK bl hs b c6:=fun e he=>by
    obtain⟨j,cp,J,ab⟩:=Dn he
    rw [Nat.zero_add] at ab
    refine List.mem_map.2 ⟨j,FW j cp J,?_⟩
    simp only [J]
    rw [ab,FV]
   have Ma:bC c E (kF bl hs (dw L hs) 0 hs) a W:=by
    rw [uj,LJ]
    refine mid.st.sub (fun e he=> ?_) ?_
    ·rcases List.mem_append.1 he with he | he
     ·exact List.mem_append.2 (.inr (E0 e he))
     ·exact List.mem_append.2 (.inl he)
    ·rw [eA]
     have fU:=mid.st.nodup
     rw [eA,xr] at fU
     obtain⟨J,ab,aC⟩:=List.nodup_append.1 fU
     refine List.nodup_append.2 ⟨HR hs 0 fun j k u v az aX cP=> ?_,J,fun x an y a9 e=> ?_⟩
     ·simp only [Nat.zero_add] at cP
      exact UM j k (FW j u az) (FW k v aX) cP
     ·subst e
      obtain⟨e,he,rC⟩:=jR.1 an
      have:x∈aJ (eK bl hs b c6):=jR.2 ⟨e,E0 e he,rC⟩
      rw [xr] at this
      exact aC x a9 x this rfl
   have kH:∀ k∈aJ (kF bl hs (dw L hs) 0 hs) ++ c.bP,k∈aJ (dw L (hs.take b) ++ eK bl hs b c6) ++ c.bP:=fun k av=>by
    rw [uj,eA,LJ] at av
    rw [eA]
    simp only [List.mem_append] at av ⊢
    rcases av with(av | av) | av
    ·obtain⟨e,he,rC⟩:=jR.1 av
     exact .inl (.inr (jR.2 ⟨e,E0 e he,rC⟩))
    ·exact .inl (.inl av)
    ·exact .inr av
   refine { Ma with env:=fun t τ dQ=> ?_ }
   rcases IM 0 dQ with⟨j,J,h,ab,aC⟩ | J
   ·rw [Nat.zero_add] at aC
    obtain⟨v,aU,aZ⟩:=mid.done j t h τ (qh j h ab) (qW j (qh j h ab)) J ab aC
    exact⟨v,aU,τ.mono (.drop kH) aZ⟩
   ·exact Ma.env t τ J
 | succ m bI=>
   intro bL bl c6 b a W hm inv mid
   by_cases jy:∀ i,i < n→bL.getD i true=true
   ·have bJ:((List.range n).filter fun i=> !bL.getD i true).length≤m:=by
     have:((List.range n).filter fun i=> !bL.getD i true)= []:=List.filter_eq_nil_iff.2 fun i al=>by simp [jy i (List.mem_range.1 al)]
     rw [this]; simp
    have J:=bI bL bl c6 b a W bJ inv mid
    have more:∀ f (bL:Array Bool) a W,wpAnyIn c.F 9 c.P .any ops Q f bL a W→wpAnyIn c.F 9 c.P .any ops Q (f + 1) bL a W:=by
     intro f
     induction f with
     | zero=>intro bL a W h; exact⟨fun _=>h.2,fun i al=>by rw [h.1] at al; cases al⟩
     | succ f Vp=>intro bL a W h; exact⟨h.1,fun i al=>wpOpIn_mono (fun hZ tu cJ=>Vp _ hZ tu cJ) (h.2 i al)⟩
    rw [show m + 1 + (ops.size - n)=(m + (ops.size - n)) + 1 by omega]
    exact more _ _ _ _ J
   ·rw [show m + 1 + (ops.size - n)=(m + (ops.size - n)) + 1 by omega]
    have hex:∃ i,i < n∧bL.getD i true=false:=by
     have J: ¬ ∀ i,i < n→bL.getD i true=true:=jy
     false_or_by_contra
     rename_i ab
     exact J fun i al=>by
      cases h:bL.getD i true with
      | true=>rfl
      | false=>exact absurd ⟨i,al,h⟩ ab
    have RM:∀ t∈Region.ready .any ops bL,t < n:=by
     intro t y4
     rcases Nat.lt_or_ge t n with h | h
     ·exact h
     ·obtain⟨i,al,oe⟩:=hex
      rcases TB with J | J
      ·obtain⟨_,o,bm,_⟩:=mem_ready.1 y4
       have:=(Array.getElem?_eq_some_iff.1 bm).1
       omega
      ·have UN:n < ops.size:=by
        obtain⟨_,o,bm,_⟩:=mem_ready.1 y4
        have:=(Array.getElem?_eq_some_iff.1 bm).1
        omega
       exact absurd y4 (tail_waits J.1 J.2 UN inv _ i rfl al oe t h)
    refine⟨fun bJ=> ?_,fun i al=> ?_⟩
    ·exfalso
     have RN:∀ k,∀ i,i≤k→i < n→bL.getD i true=false→ ∃ i,i < n∧bL.getD i true=false∧ ∀ j,j < i→bL.getD j true=true:=by
      intro k
      induction k with
      | zero=>intro i jj al hu; exact⟨i,al,hu,fun j aF=>by omega⟩
      | succ k Vq=>
        intro i jj al hu
        by_cases hq:∀ j,j < i→bL.getD j true=true
        ·exact⟨i,al,hu,hq⟩
        ·have:∃ j,j < i∧bL.getD j true=false:=by
          false_or_by_contra
          rename_i ab
          exact hq fun j aF=>by
           cases h:bL.getD j true with
           | true=>rfl
           | false=>exact absurd ⟨j,aF,h⟩ ab
         obtain⟨j,aF,Vr⟩:=this
         exact Vq j (by omega) (by omega) Vr
     obtain⟨i0,FX,Vs⟩:=hex
     obtain⟨i,al,hu,Fx⟩:=RN i0 i0 (Nat.le_refl _) FX Vs
     obtain⟨o,bm,_,Be⟩:=vE i al
     have:i∈Region.ready .any ops bL:=mem_ready.2 ⟨hu,o,bm,fun e he hb=>by
      have J:=Fx e.on (Be e he hb)
      have ab:e.on < bL.size:=by rw [inv.size]; have:=Be e he hb; omega
      simpa [ab] using J⟩
     rw [bJ] at this
     cases this
    ·have eQ:=RM i al
     obtain⟨o,bm,kZ,Be⟩:=vE i eQ
     obtain⟨oe,o',qg,qW⟩:=mem_ready.1 al
     have Vt:o'=o:=Option.some.inj (qg.symm.trans bm)
     subst Vt
     obtain⟨h,eb⟩:∃ h,hs[i]? =some h:=⟨hs[i]'(by omega),by simp⟩
     obtain⟨cB,g3,iu⟩:=Dm (ct bl) i h eb
     have UO:cB=o':=by
      rw [Array.getElem?_toList] at g3
      exact Option.some.inj (g3.symm.trans bm)
     subst UO
     have sX:((List.range n).filter fun j=> !(bL.setIfInBounds i true).getD j true).length≤m:=by
      have:((List.range n).filter fun j=> !(bL.setIfInBounds i true).getD j true).length < ((List.range n).filter fun j=> !bL.getD j true).length:=by
       refine Kk (fun j=> !bL.getD j true) (fun j=> !(bL.setIfInBounds i true).getD j true) i (by simp only [oe]; rfl) ?_ (fun j aF=> ?_) n eQ
       ·have:i < bL.size:=by rw [inv.size]; omega
        simp [this]
       ·by_cases e:i=j
        ·subst e; simp only [oe]; rfl
        ·rw [getD_set_ne true e] at aF; exact aF
      omega
     have sY:=inv.set al eQ
     have BR:i < bL.size:=by rw [inv.size]; omega
     have vc:(bL.setIfInBounds i true).getD i false=true:=by simp [BR]
     have ly:bL.getD i false=false:=getD_both oe
     have UP:i ∉ c6:=fun hm=>by have:=((mid.news i).1 hm).2.1; rw [ly] at this; cases this
     have BS:∀ j∈p2.getD i [],j < n∧bL.getD j false=true:=fun j aF=>by
      have aC:=List.all_eq_true.1 (List.all_eq_true.1 Lc i (List.mem_range.2 eQ)) j aF
      simp only [Bool.and_eq_true,decide_eq_true_eq] at aC
      obtain⟨nK,lb,e,he,hb,og⟩:=Region.waitsFor_spec aC.2
      have:nK=cB:=Option.some.inj (lb.symm.trans bm)
      subst this
      have aU:=qW e he hb
      rw [og] at aU
      exact⟨aC.1,aU⟩
     have j0:bC c (he bl dH hs E (p2.getD i [])) (dw L (hs.take b) ++ eK bl hs b c6) a W:=by
      refine { mid.st with env:=fun t σ dQ=> ?_ }
      rcases JI dQ with⟨j,aF,J,x,ab,aC⟩ | J
      ·exact mid.done j t x σ (BS j aF).1 (BS j aF).2 J ab aC
      ·exact mid.st.env t σ J
     have JJ:h.l8=true→b≤i∧ ∃ r,hs.take i=hs.take b ++ r∧ ∀ x∈r,x.l8=false:=fun LK=>by
      have Cc:b≤i:=by
       rcases Nat.lt_or_ge i b with J | J
       ·have:=(mid.stored i h eb LK).2 J
        rw [ly] at this; cases this
       ·exact J
      refine⟨Cc,Qg Cc eb fun j x FY nG an=> ?_⟩
      cases hW:x.l8 with
      | false=>rfl
      | true=>
        have aC:=List.all_eq_true.1 UL i (List.mem_range.2 eQ)
        have az:(hs.map eI.l8).getD i false=true:=by simp [eb,LK]
        simp only [az,Bool.not_true,Bool.false_or] at aC
        have aU:=List.all_eq_true.1 aC j (List.mem_range.2 nG)
        have aX:(hs.map eI.l8).getD j false=true:=by simp [an,hW]
        simp only [aX,Bool.not_true,Bool.false_or] at aU
        obtain⟨nK,lb,e,he,hb,og⟩:=Region.waitsFor_spec aU
        have:nK=cB:=Option.some.inj (lb.symm.trans bm)
        subst this
        have aZ:=qW e he hb
        rw [og] at aZ
        have:=(mid.stored j x an hW).1 aZ
        omega
     unfold wpOpIn
     simp only [bm]
     cases h with
     | val τ=>
       simp only at iu
       have Vu:=iu (dw L (hs.take b) ++ eK bl hs b c6) (fun j e aF hu=>by
        have J:(dw L (hs.take b))[j]? =some e:=by
         rw [w9 b 0 hu (fun q hq ⟨MP,cp',an⟩=>by
          have Vv:=(mid.stored q _ an rfl).2 hq
          cases hw:Region.waitsFor .any ops (0 + q) (0 + i) with
          | false=>rfl
          | true=>
            obtain⟨FZ,BT,e',Cd,rD,LL⟩:=Region.waitsFor_spec hw
            rw [Nat.zero_add] at BT LL
            have:=inv.closed q FZ BT Vv e' Cd rD
            rw [LL,ly] at this
            cases this)]
         exact aF
        rw [List.getElem?_append_left (List.getElem?_eq_some_iff.1 J).1]; exact J)
       obtain⟨J,ab⟩:=Vu a W j0
       have BE:∀ v W',Fr [] W W'→τ.holds (aJ (dw L (hs.take b) ++ eK bl hs b c6) ++ c.bP) W' v→vD c n dH hs E L (bL.setIfInBounds i true) bl c6 b (a.put cB.dst v) W':=by
        intro v W' f aY
        have im:=mid.st.world f
        refine⟨?_,fun j bV x σ aF aq eP an kp=> ?_,fun j=> ?_,fun j x an hW=> ?_,mid.ble⟩
        ·cases hd:cB.dst with
         | none=>exact im
         | some s=>
           rw [hd] at kZ
           refine { (im.put (d:=s) (BQ i s kZ) aY) with env:=fun t σ dQ=> ?_ }
           have dv:s≠t:=fun e=>Dl aK t σ dQ (by rw [← e]; exact List.mem_filterMap.2 ⟨some s,List.mem_of_getElem? kZ,rfl⟩)
           obtain⟨u,aZ,bn⟩:=im.env t σ dQ
           exact⟨u,by simp only [Act.put]; rw [Array.getElem?_setIfInBounds_ne dv]; exact aZ,bn⟩
        ·by_cases e:i=j
         ·subst e
          rw [kZ] at eP
          rw [eb] at an
          cases an
          simp only [eI.pc,Option.some.injEq] at kp
          subst kp
          simp only [Option.some.injEq] at eP
          rw [eP]
          exact⟨v,by rw [eP] at kZ; simp [Act.put,im.size,BQ i bV kZ],aY⟩
         ·rw [getD_set_ne false e] at aq
          obtain⟨u,aZ,bn⟩:=mid.done j bV x σ aF aq eP an kp
          refine⟨u,?_,σ.mono (.dd f) bn⟩
          cases hd:cB.dst with
          | none=>exact aZ
          | some s=>
            rw [hd] at kZ
            have dv:s≠bV:=fun aX=>e (LI i j s kZ (by rw [aX]; exact eP))
            simp only [Act.put]; rw [Array.getElem?_setIfInBounds_ne dv]; exact aZ
        ·rw [mid.news j]
         by_cases e:i=j
         ·subst e
          constructor
          ·rintro ⟨_,aZ,_⟩; rw [ly] at aZ; cases aZ
          ·rintro ⟨_,_,cp,aZ⟩; rw [eb] at aZ; cases aZ
         ·rw [getD_set_ne false e]
        ·have e:i≠j:=fun e=>by subst e; rw [eb] at an; cases an; cases hW
         rw [getD_set_ne false e]
         exact mid.stored j x an hW
       split
       ·rename_i hw
        exact(J hw).wpIn fun v W' ⟨f,aY⟩=>bI _ bl c6 b _ _ sX sY (BE v W' f aY)
       ·rename_i hw
        have Vw:Region.wanted cB (yielded ops a.tmps)=false:=by simpa using hw
        exact⟨fun _ _=>trivial,bI _ bl c6 b _ _ sX sY (BE undef W (.refl _ _) (ab Vw))⟩
     | new cp=>
       simp only at iu
       obtain⟨y5,iI,dV,jU⟩:=iu
       have TC:∀ q x,eI.kJ q x∈hs.take b→q≠i:=fun q x hm e=>by
        subst e
        obtain⟨j,aF⟩:=List.mem_iff_getElem?.1 hm
        rw [List.getElem?_take] at aF
        split at aF
        ·rename_i Vx
         have Vy:=(mid.stored j _ aF rfl).2 Vx
         have qh:j < n:=by have:=(List.getElem?_eq_some_iff.1 aF).1; omega
         obtain⟨nK,lb,Mb⟩:=Dm (ct bl) j _ aF
         simp only at Mb
         have aC:=List.all_eq_true.1 (List.all_eq_true.1 Lc j (List.mem_range.2 qh)) q (by simpa using Mb.1)
         simp only [Bool.and_eq_true,decide_eq_true_eq] at aC
         obtain⟨FZ,BT,e,he,hb,og⟩:=Region.waitsFor_spec aC.2
         have:=inv.closed j FZ BT Vy e he hb
         rw [og,ly] at this
         cases this
        ·cases aF
       have BU:hx i cp (hs.take b)=cp:=w4 TC
       let lI:Nat→Nat:=fun j=>if j=i then W.heap.size else bl j
       have Vz:∀ j,j∈c6→lI j=bl j:=fun j aF=>if_neg (fun e=>UP (by rw [← e]; exact aF))
       have F0:lI i=W.heap.size:=if_pos rfl
       have o4:dw L (hs.take b) ++ eK lI hs b (i :: c6)=dw L (hs.take b) ++ (⟨some W.heap.size,cp⟩ :: eK bl hs b c6):=by
        have:eK lI hs b (i :: c6)=⟨some W.heap.size,cp⟩ :: eK lI hs b c6:=by simp only [eK,List.map_cons,eb,F0,BU]
        rw [this,QV Vz]
       have yK:vD c n dH hs E L (bL.setIfInBounds i true) lI (i :: c6) b (a.put cB.dst (.pointer (some ⟨W.heap.size,0,none⟩))) (W.alloc iI):=by
        have im:bC c E (dw L (hs.take b) ++ eK lI hs b (i :: c6)) a (W.alloc iI):=by
         rw [o4]
         exact(mid.st.alloc (dV _ _)).perm List.perm_middle.symm
        have gn:Ext (aJ (dw L (hs.take b) ++ eK bl hs b c6) ++ c.bP) W (aJ (dw L (hs.take b) ++ eK lI hs b (i :: c6)) ++ c.bP) (W.alloc iI):=by
         refine⟨by simp,fun k av _=>Bc W iI k av,fun k av cq=> ?_⟩
         rw [o4] at av
         simp only [eA,aJ,List.mem_append,List.mem_cons] at av ⊢
         rcases av with(h | h | h) | h
         ·exact .inl (.inl h)
         ·omega
         ·exact .inl (.inr h)
         ·exact .inr h
        refine⟨?_,fun j bV x σ aF aq eP an kp=> ?_,fun j=> ?_,fun j x an hW=> ?_,mid.ble⟩
        ·cases hd:cB.dst with
         | none=>exact im
         | some s=>
           rw [hd] at kZ
           refine { (im.put (d:=s) (τ:= .any) (BQ i s kZ) trivial) with env:=fun t σ dQ=> ?_ }
           have dv:s≠t:=fun e=>Dl aK t σ dQ (by rw [← e]; exact List.mem_filterMap.2 ⟨some s,List.mem_of_getElem? kZ,rfl⟩)
           obtain⟨u,aZ,bn⟩:=im.env t σ dQ
           exact⟨u,by simp only [Act.put]; rw [Array.getElem?_setIfInBounds_ne dv]; exact aZ,bn⟩
        ·by_cases e:i=j
         ·subst e
          rw [kZ] at eP
          rw [eb] at an
          cases an
          simp only [eI.pc,Option.some.injEq] at kp
          subst kp
          simp only [Option.some.injEq] at eP
          rw [eP]
          exact⟨.pointer (some ⟨W.heap.size,0,none⟩),by rw [eP] at kZ; simp [Act.put,im.size,BQ i bV kZ],by rw [F0]; rfl⟩
         ·rw [getD_set_ne false e] at aq
          have VA:lI j=bl j:=if_neg (fun e'=>e e'.symm)
          rw [VA] at kp
          obtain⟨u,aZ,bn⟩:=mid.done j bV x σ aF aq eP an kp
          refine⟨u,?_,σ.mono gn bn⟩
          cases hd:cB.dst with
          | none=>exact aZ
          | some s=>
            rw [hd] at kZ
            have dv:s≠bV:=fun aX=>e (LI i j s kZ (by rw [aX]; exact eP))
            simp only [Act.put]; rw [Array.getElem?_setIfInBounds_ne dv]; exact aZ
        ·rw [List.mem_cons,mid.news j]
         by_cases e:i=j
         ·subst e
          exact⟨fun _=>⟨eQ,vc,cp,eb⟩,fun _=> .inl rfl⟩
         ·rw [getD_set_ne false e]
          exact⟨fun h=>h.resolve_left (fun e'=>e e'.symm),.inr⟩
        ·have e:i≠j:=fun e=>by subst e; rw [eb] at an; cases an; cases hW
         rw [getD_set_ne false e]
         exact mid.stored j x an hW
       rw [if_pos (by simp [Region.wanted,y5])]
       refine OE (jU a W) ?_
       exact bI _ lI (i :: c6) b _ _ sX sY yK
     | jB q cp=>
       simp only at iu
       obtain⟨Cc,r,mV,ta⟩:=JJ rfl
       have Mc:dw L (hs.take i)=dw L (hs.take b):=by rw [mV,DW,AR ta]
       rw [Nat.zero_add,Mc] at iu
       obtain⟨p,lH,hq,rE⟩:=iu
       have gC:(dw L (hs.take b) ++ eK bl hs b c6)[q]? =some ⟨some p,lH⟩:=by
        rw [List.getElem?_append_left (List.getElem?_eq_some_iff.1 hq).1]; exact hq
       obtain⟨y5,BV,rE⟩:=rE (dw L (hs.take b) ++ eK bl hs b c6) (fun j e aF=>by
        rw [List.getElem?_append_left (List.getElem?_eq_some_iff.1 aF).1]; exact aF)
       obtain⟨cs,dk,T,J,ab,aC⟩:=rE a W j0
       have rB:=mid.st.store gC J aC
       have vn:hs.take (i + 1)=hs.take i ++ [.jB q cp]:=by rw [List.take_add_one,eb]; rfl
       have tb:dw L (hs.take (i + 1))=(dw L (hs.take b)).set q ⟨some p,cp⟩:=by
        rw [vn,Iq,Mc]
        simp only [dw]
        exact PM hq
       have F1:eK bl hs (i + 1) c6=eK bl hs b c6:=by
        unfold eK
        refine List.map_congr_left fun j _=> ?_
        congr 1
        split
        ·rw [vn,Da,mV,Dw,AN ta]; rfl
        ·rfl
       have y6:dw L (hs.take (i + 1)) ++ eK bl hs (i + 1) c6=(dw L (hs.take b) ++ eK bl hs b c6).set q ⟨some p,cp⟩:=by
        rw [tb,F1,List.set_append_left _ _ (List.getElem?_eq_some_iff.1 hq).1]
       have qi:aJ (dw L (hs.take (i + 1)) ++ eK bl hs (i + 1) c6)=aJ (dw L (hs.take b) ++ eK bl hs b c6):=by rw [y6]; exact uO (cp:=cp) gC
       have mh:p∈aJ (dw L (hs.take b) ++ eK bl hs b c6):=jR.2 ⟨_,List.mem_of_getElem? gC,rfl⟩
       have gn:Ext (aJ (dw L (hs.take b) ++ eK bl hs b c6) ++ c.bP) W (aJ (dw L (hs.take b) ++ eK bl hs b c6) ++ c.bP) (W.setRow p dk):=
        ⟨by simp,fun k _ bh=>setRow_other W p k dk (fun e=>bh (e ▸ List.mem_append.2 (.inl mh))),fun _ h _=>h⟩
       have yK:vD c n dH hs E L (bL.setIfInBounds i true) bl c6 (i + 1) (a.put cB.dst undef) (W.setRow p dk):=by
        rw [BV]
        refine⟨by rw [y6]; exact rB,fun j bV x σ aF aq eP an kp=> ?_,fun j=> ?_,fun j x an hW=> ?_,eQ⟩
        ·rw [qi]
         by_cases e:i=j
         ·subst e; rw [eb] at an; cases an; cases kp
         ·rw [getD_set_ne false e] at aq
          obtain⟨u,aZ,bn⟩:=mid.done j bV x σ aF aq eP an kp
          exact⟨u,aZ,σ.mono gn bn⟩
        ·rw [mid.news j]
         by_cases e:i=j
         ·subst e
          constructor
          ·rintro ⟨_,aZ,_⟩; rw [ly] at aZ; cases aZ
          ·rintro ⟨_,_,cp,aZ⟩; rw [eb] at aZ; cases aZ
         ·rw [getD_set_ne false e]
        ·by_cases e:i=j
         ·subst e; exact⟨fun _=>by omega,fun _=>vc⟩
         ·rw [getD_set_ne false e,mid.stored j x an hW]
          constructor
          ·intro _; omega
          ·intro aF
           rcases Nat.lt_or_ge j b with aZ | aZ
           ·exact aZ
           ·have:x∈r:=by
             have bn:(hs.take i)[j]? =some x:=by rw [List.getElem?_take,if_pos (by omega)]; exact an
             rw [mV,List.getElem?_append_right (by rw [List.length_take]; omega)] at bn
             exact List.mem_of_getElem? bn
            have:=ta x this
            rw [hW] at this; cases this
       rw [if_pos (by simp [Region.wanted,y5])]
       refine H4 ab ?_
       exact bI _ bl c6 (i + 1) _ _ sX sY yK
     | kJ q cp=>
       simp only at iu
       obtain⟨Cc,r,mV,ta⟩:=JJ rfl
       obtain⟨LM,lH,F2,rE⟩:=iu
       rw [Nat.zero_add] at rE
       have BU:∀ (j:Nat) x,hx j x (hs.take i)=hx j x (hs.take b):=fun j x=>by rw [mV,Dw,AN ta]
       have UQ:q∈c6:=(mid.news q).2 ⟨(BS q (by simpa using LM)).1,(BS q (by simpa using LM)).2,lH,F2⟩
       obtain⟨k,av⟩:=List.mem_iff_getElem?.1 UQ
       have yL:(eK bl hs b c6)[k]? =some ⟨some (bl q),hx q lH (hs.take i)⟩:=by
        simp only [eK,List.getElem?_map,av,Option.map_some,F2,BU]
       have gC:(dw L (hs.take b) ++ eK bl hs b c6)[(dw L (hs.take b)).length + k]? =some ⟨some (bl q),hx q lH (hs.take i)⟩:=by
        rw [List.getElem?_append_right (by omega),Nat.add_sub_cancel_left]; exact yL
       obtain⟨y5,BV,rE⟩:=rE (dw L (hs.take b) ++ eK bl hs b c6) _ gC
       obtain⟨cs,dk,T,J,ab,aC⟩:=rE a W j0
       have rB:=mid.st.store gC J aC
       have vn:hs.take (i + 1)=hs.take i ++ [.kJ q cp]:=by rw [List.take_add_one,eb]; rfl
       have tb:dw L (hs.take (i + 1))=dw L (hs.take b):=by
        rw [vn,Iq]
        simp only [dw]
        rw [mV,DW,AR ta]
       have EZ:c6.Nodup:=by
        have:=mid.st.nodup
        rw [eA,xr] at this
        exact H6 bl c6 (List.nodup_append.1 this).2.1
       have F1:eK bl hs (i + 1) c6=(eK bl hs b c6).set k ⟨some (bl q),cp⟩:=by
        apply List.ext_getElem?
        intro j
        rw [List.getElem?_set]
        by_cases e:k=j
        ·subst e
         have F3:k < (eK bl hs b c6).length:=(List.getElem?_eq_some_iff.1 yL).1
         rw [if_pos rfl,if_pos F3]
         simp only [eK,List.getElem?_map,av,Option.map_some,F2]
         rw [vn,Da]
         simp [hx]
        ·rw [if_neg e]
         simp only [eK,List.getElem?_map]
         cases aF:c6[j]? with
         | none=>rfl
         | some x=>
           have F4:x≠q:=fun aX=>by
            subst aX
            obtain⟨eg,ei⟩:=List.getElem?_eq_some_iff.1 aF
            obtain⟨eu,fF⟩:=List.getElem?_eq_some_iff.1 av
            exact e ((List.getElem_inj EZ).1 (fF.trans ei.symm))
           simp only [Option.map_some]
           congr 2
           split
           ·rw [vn,Da,BU]
            have:Nat.beq q x=false:=by
             cases hb:Nat.beq q x with
             | false=>rfl
             | true=>exact absurd (eF.1 hb).symm F4
            simp [hx,this]
           ·rfl
       have y6:dw L (hs.take (i + 1)) ++ eK bl hs (i + 1) c6=(dw L (hs.take b) ++ eK bl hs b c6).set ((dw L (hs.take b)).length + k) ⟨some (bl q),cp⟩:=by
        rw [tb,F1,List.set_append_right _ _ (by omega),Nat.add_sub_cancel_left]
       have qi:aJ (dw L (hs.take (i + 1)) ++ eK bl hs (i + 1) c6)=aJ (dw L (hs.take b) ++ eK bl hs b c6):=by rw [y6]; exact uO (cp:=cp) gC
       have mh:bl q∈aJ (dw L (hs.take b) ++ eK bl hs b c6):=jR.2 ⟨_,List.mem_of_getElem? gC,rfl⟩
       have gn:Ext (aJ (dw L (hs.take b) ++ eK bl hs b c6) ++ c.bP) W (aJ (dw L (hs.take b) ++ eK bl hs b c6) ++ c.bP) (W.setRow (bl q) dk):=
        ⟨by simp,fun k _ bh=>setRow_other W (bl q) k dk (fun e=>bh (e ▸ List.mem_append.2 (.inl mh))),fun _ h _=>h⟩
       have yK:vD c n dH hs E L (bL.setIfInBounds i true) bl c6 (i + 1) (a.put cB.dst undef) (W.setRow (bl q) dk):=by
        rw [BV]
        refine⟨by rw [y6]; exact rB,fun j bV x σ aF aq eP an kp=> ?_,fun j=> ?_,fun j x an hW=> ?_,eQ⟩
        ·rw [qi]
         by_cases e:i=j
         ·subst e; rw [eb] at an; cases an; cases kp
         ·rw [getD_set_ne false e] at aq
          obtain⟨u,aZ,bn⟩:=mid.done j bV x σ aF aq eP an kp
          exact⟨u,aZ,σ.mono gn bn⟩
        ·rw [mid.news j]
         by_cases e:i=j
         ·subst e
          constructor
          ·rintro ⟨_,aZ,_⟩; rw [ly] at aZ; cases aZ
          ·rintro ⟨_,_,cp,aZ⟩; rw [eb] at aZ; cases aZ
         ·rw [getD_set_ne false e]
        ·by_cases e:i=j
         ·subst e; exact⟨fun _=>by omega,fun _=>vc⟩
         ·rw [getD_set_ne false e,mid.stored j x an hW]
          constructor
          ·intro _; omega
          ·intro aF
           rcases Nat.lt_or_ge j b with aZ | aZ
           ·exact aZ
           ·have:x∈r:=by
             have bn:(hs.take i)[j]? =some x:=by rw [List.getElem?_take,if_pos (by omega)]; exact an
             rw [mV,List.getElem?_append_right (by rw [List.length_take]; omega)] at bn
             exact List.mem_of_getElem? bn
            have:=ta x this
            rw [hW] at this; cases this
       rw [if_pos (by simp [Region.wanted,y5])]
       refine H4 ab ?_
       exact bI _ bl c6 (i + 1) _ _ sX sY yK
theorem ai.draw {qj:Nat} {l:List Oper} (hm:c.P.follows .mixedOrders=true) (n:Nat) (dH:List (Option Nat)) (p2:List (List Nat)) (hs:List eI) (y2:List Bool) (ir:BD l.toArray n dH p2 y2 c.n=true) (WA:hs.map eI.l8=y2) (aK:yJ E (dH.filterMap id)=true)
 (hlen:Nat.beq hs.length n=true) (ct:∀ bl,oP c l.toArray bl dH hs E L 0 l hs p2)
 (b9:∀ bl:Nat→Nat,ah c l.toArray Q (l.drop n) (rm bl E 0 dH hs) (kF bl hs (dw L hs) 0 hs)):ai c Q (.region qj l.toArray true) E L:=fun a W s=>by
 subst WA
 refine wpIn_region_any hm ?_
 have aO:n≤l.toArray.size:=by
  simp only [BD,Bool.and_eq_true,decide_eq_true_eq] at ir
  exact ir.1.1.1.1.1.1.1.2
 have Fy:HeadInv .any l.toArray n (Array.replicate l.toArray.size false):=
  {size:=by simp
   closed:=fun j nK _ aq=>by rw [getD_replicate_false] at aq; cases aq
   tail:=fun t _ b9=>by simp at b9; simp [b9] }
 have UR:vD c n dH hs E L (Array.replicate l.toArray.size false) (fun _=>0) [] 0 a W.drew:=
  {st:=by simpa [dw,eK] using s.world (Fr.drew W)
   done:=fun j s h τ _ aq=>by rw [getD_replicate_false] at aq; cases aq
   news:=fun j=>by
    constructor
    ·intro h; cases h
    ·rintro ⟨_,h,_⟩; rw [getD_replicate_false] at h; cases h
   stored:=fun j h _ _=>by
    rw [getD_replicate_false]
    constructor
    ·intro h; cases h
    ·intro h; omega
   ble:=Nat.zero_le _ }
 have h:=PN (ops:=l.toArray) (Q:=Q) ir aK (eF.1 hlen) (by simpa using ct) (by simpa using b9) n (Array.replicate l.toArray.size false) (fun _=>0) [] 0 a W.drew
  (Nat.le_trans (List.length_filter_le _ _) (by simp)) Fy UR
 rw [show n + (l.toArray.size - n)=l.toArray.size by omega] at h
 exact h
end
end Gv
namespace Gv
open Go
set_option linter.unusedVariables false
set_option linter.unusedSimpArgs false
structure bt (P:Program) (t:TypeId) (α:Type) [ad α]:Prop where
 size:(P.info? t).map (·.size)=some (ad.size α)
 Md:∃ d,P.underlying t=some d∧ (match d with | .struct _ | .array _ _=>true | _=>false)=ad.agg α
structure cx (P:Program) (t:TypeId) {α:Type} [ad α] (x:α):Prop where
 zero:∃ i z,P.info? t=some i∧i.zero=some z∧ ∀ A W,(I.of x).holds A W z
theorem bt.info {P t α} [ad α] (h:bt P t α):∃ i,P.info? t=some i∧i.size=ad.size α:=by
 have:=h.size
 cases al:P.info? t with
 | none=>simp [al] at this
 | some i=>exact⟨i,rfl,by simpa [al] using this⟩
theorem bt.isAgg {P t α} [ad α] (h:bt P t α) (W:World):(isAgg t).run P W= .ok (ad.agg α) W:=by
 obtain⟨d,hd,he⟩:=h.Md
 unfold Go.isAgg
 rw [Sem.run_bind,run_underlying hd W]
 simp only [Result.andThen_ok]
 cases d <;> simp_all
theorem bt.sizeOf {P t α} [ad α] (h:bt P t α) (W:World):(Go.sizeOf t).run P W= .ok (ad.size α) W:=by
 obtain⟨i,al,hs⟩:=h.info
 simp [Go.sizeOf,typeInfo,al,hs]
theorem iw (b off j:Nat):(⟨b,off,none⟩:Addr).add j=⟨b,off + j,none⟩:=by unfold Addr.add; split <;> simp_all
theorem r5 {P:Program} {W:World} {b off:Nat} {cur:Array Value} {T t:TypeId} {g9:Nat × Nat} {α:Type} [ad α] {A:List Nat} {x:α} (ty:bt P t α)
 (hb:W.heap[b]? =some (.cells cur T g9)) (hs:off + ad.size α≤cur.size) (aS:ad.rep A W ((cur.toList.drop off).take (ad.size α)) x):
 ∃ v,(loadVar t ⟨b,off,none⟩).run P W= .ok v W∧ (I.of x).holds A W v:=by
 have aq:=ad.len aS
 have sI:∀ j v,((cur.toList.drop off).take (ad.size α))[j]? =some v→W.cell? ((⟨b,off,none⟩:Addr).add j)=some v:=by
  intro j v aY
  rw [iw,cell_of_row W b (off + j) cur T g9 hb]
  rw [List.getElem?_take] at aY
  split at aY
  ·rw [List.getElem?_drop] at aY; simpa using aY
  ·cases aY
 cases bh:ad.agg α with
 | true=>
   have J:=run_loadCells_list (P:=P) W ⟨b,off,none⟩ _ sI
   rw [aq] at J
   refine⟨.agg ((cur.toList.drop off).take (ad.size α)).toArray,?_,?_,?_⟩
   ·simp [loadVar,Sem.run_bind,ty.isAgg,ty.sizeOf,bh,J]
   ·simp [shaped,bh]
   ·simpa [Value.cells] using aS
 | false=>
   have J:ad.size α=1:=ad.flat bh
   rw [J] at aq
   obtain⟨v,aY⟩:=List.length_eq_one_iff.1 aq
   have ab:=sI 0 v (by rw [J,aY]; rfl)
   have aC:v.oneCell'=true:=ad.one aS v (by rw [J,aY]; simp)
   refine⟨v,?_,?_,?_⟩
   ·rw [iw,Nat.add_zero] at ab
    simp [loadVar,Sem.run_bind,ty.isAgg,bh,ab]
   ·simp [shaped,bh,aC]
   ·rw [nb aC]
    rw [J,aY] at aS
    simpa using aS
def fm (cur:List Value) (off:Nat) (ds:List Value):List Value:=cur.take off ++ ds ++ cur.drop (off + ds.length)
theorem Qh {A W v} {α:Type} [ad α] {x:α} (h:(I.of x).holds A W v):v.cells.toList.length=ad.size α∧ ∀ u∈v.cells.toList,u.oneCell'=true:=⟨ad.len h.2,ad.one h.2⟩
theorem wM {P:Program} {W:World} {b off:Nat} {cur:Array Value} {T t:TypeId} {α:Type} [ad α] {A:List Nat} {x:α} {v:Value} (ty:bt P t α)
 (hb:W.heap[b]? =some (.cells cur T (0,0))) (hs:off + ad.size α≤cur.size) (aY:(I.of x).holds A W v):
 (storeVar t ⟨b,off,none⟩ v).run P W= .ok () (W.setRow b (fm cur.toList off v.cells.toList).toArray):=by
 obtain⟨aq,J⟩:=Qh aY
 have ab:=run_storeCells_at P b off T v.cells.toList 0 cur W hb (by rw [aq]; omega) J
 have en:v.cells.size=ad.size α:=by simpa using aq
 simp only [Nat.add_zero] at ab
 simp only [storeVar,Sem.run_bind,ty.sizeOf,Result.andThen_ok,en]
 simp only [ne_eq,not_true_eq_false,↓reduceIte,Sem.run_pure,Sem.run_bind,Result.andThen_ok]
 simpa [fm] using ab
structure aL (β γ:Type) [ad β] [ad γ] where
 off:Nat
 get:β→γ
 set:β→γ→β
 fC:off + ad.size γ≤ad.size β
 hI:∀ {A W cs b},ad.rep A W cs b→ad.rep A W ((cs.drop off).take (ad.size γ)) (get b)
 jO:∀ {A W cs b ds g},ad.rep A W cs b→ad.rep A W ds g→ad.rep A W (cs.take off ++ ds ++ cs.drop (off + ad.size γ)) (set b g)
def aL.id (β:Type) [ad β]:aL β β where
 off:=0
 get b:=b
 set _ g:=g
 fC:=by simp
 hI h:=by
  have:=ad.len h
  rw [List.drop_zero,← this,List.take_length]; exact h
 jO h b0:=by
  have J:=ad.len h
  rw [List.take_zero,List.nil_append,Nat.zero_add,← J,List.drop_length,List.append_nil]; exact b0
theorem r9 (cs:List Value) (dK s1 cB s2:Nat) (h:cB + s2≤s1):(((cs.drop dK).take s1).drop cB).take s2=(cs.drop (dK + cB)).take s2:=by
 apply List.ext_getElem?
 intro i
 simp only [List.getElem?_take,List.getElem?_drop]
 split
 ·rw [if_pos (by omega)]; congr 1; omega
 ·rfl
theorem IN (cs ds:List Value) (dK s1 cB s2:Nat) (h:cB + s2≤s1) (ar:dK + s1≤cs.length):
 cs.take dK ++ (((cs.drop dK).take s1).take cB ++ ds ++ ((cs.drop dK).take s1).drop (cB + s2)) ++ cs.drop (dK + s1)=cs.take (dK + cB) ++ ds ++ cs.drop (dK + cB + s2):=by
 have az:cs.take (dK + cB)=cs.take dK ++ ((cs.drop dK).take s1).take cB:=by
  rw [List.take_take,Nat.min_eq_left (by omega),List.take_add]
 have aX:cs.drop (dK + cB + s2)=((cs.drop dK).take s1).drop (cB + s2) ++ cs.drop (dK + s1):=by
  apply List.ext_getElem?
  intro i
  simp only [List.getElem?_append,List.getElem?_drop,List.getElem?_take,List.length_drop,List.length_take]
  split
  ·rw [if_pos (by omega)]; congr 1; omega
  ·congr 1; omega
 rw [az,aX]
 simp only [List.append_assoc]
def aL.comp {α β γ:Type} [ad α] [ad β] [ad γ] (l:aL α β) (m:aL β γ):aL α γ where
 off:=l.off + m.off
 get b:=m.get (l.get b)
 set b g:=l.set b (m.set (l.get b) g)
 fC:=by have:=l.fC; have:=m.fC; omega
 hI h:=by
  have:=m.hI (l.hI h)
  rwa [r9 _ _ _ _ _ m.fC] at this
 jO h b0:=by
  have J:=l.jO h (m.jO (l.hI h) b0)
  have ab:=ad.len h
  have aC:=l.fC
  rwa [IN _ _ _ _ _ _ m.fC (by omega)] at J
def cf {α:Type} [Inhabited α] {n:Nat} (v:Vector α n) (k:Nat):α:=v[k]?.getD default
def c1 {α:Type} {n:Nat} (v:Vector α n) (k:Nat) (x:α):Vector α n:=v.setIfInBounds k x
instance {α:Type} [Inhabited α] {n:Nat} :Inhabited (Vector α n):=⟨Vector.replicate n default⟩
instance WW {α:Type} [ad α] [Inhabited α] {n:Nat} :ad (Vector α n) where
 size:=n * ad.size α
 agg:=true
 rep A W cs v:=fJ A W cs v.toList
 len h:=by rw [h.1]; simp
 one h:=by
  intro u hu
  obtain⟨j,aF⟩:=List.mem_iff_getElem?.1 hu
  have cq:=(List.getElem?_eq_some_iff.1 aF).1
  have J:=h.1
  by_cases hs:ad.size α=0
  ·rw [hs,Nat.mul_zero] at J; omega
  ·have hp:0 < ad.size α:=Nat.pos_of_ne_zero hs
   have al:j / ad.size α < _:=(Nat.div_lt_iff_lt_mul hp).2 (by rw [J] at cq; exact cq)
   refine ad.one (h.2 _ al) u (List.mem_iff_getElem?.2 ⟨j % ad.size α,?_⟩)
   rw [List.getElem?_take,if_pos (Nat.mod_lt _ hp),List.getElem?_drop,Nat.mul_comm,Nat.div_add_mod]
   exact aF
 flat h:=by cases h
 mono e h:=h.mono e
theorem O0 {α:Type} [Inhabited α] {n:Nat} (v:Vector α n) {k:Nat} (h:k < n):cf v k=v.toList[k]'(by simpa using h):=by simp [cf,h]
theorem Dx {α:Type} [ad α] {A W} {cs ds:List Value} {xs:List α} {x:α} {k:Nat} (h:fJ A W cs xs) (av:k < xs.length) (hd:ad.rep A W ds x):
 fJ A W (cs.take (k * ad.size α) ++ ds ++ cs.drop (k * ad.size α + ad.size α)) (xs.set k x):=by
 have aq:=h.1
 have Xd:=ad.len hd
 have hle:(k + 1) * ad.size α≤xs.length * ad.size α:=Nat.mul_le_mul_right _ av
 rw [Nat.succ_mul] at hle
 refine⟨by simp only [List.length_append,List.length_take,List.length_drop,List.length_set]; omega,fun i al=> ?_⟩
 rw [List.length_set] at al
 by_cases e:k=i
 ·subst e
  have:((cs.take (k * ad.size α) ++ ds ++ cs.drop (k * ad.size α + ad.size α)).drop (k * ad.size α)).take (ad.size α)=ds:=by
   rw [List.append_assoc,List.drop_append_of_le_length (by simp only [List.length_take]; omega),List.drop_of_length_le (by simp only [List.length_take]; omega),List.nil_append,
    List.take_append_of_le_length (by omega),List.take_of_length_le (by omega)]
  rw [this]
  simpa using hd
 ·have J:=h.2 i al
  have:((cs.take (k * ad.size α) ++ ds ++ cs.drop (k * ad.size α + ad.size α)).drop (i * ad.size α)).take (ad.size α)=(cs.drop (i * ad.size α)).take (ad.size α):=by
   apply List.ext_getElem?
   intro j
   simp only [List.getElem?_take,List.getElem?_drop]
   split
   ·rename_i aF
    simp only [List.getElem?_append,List.length_append,List.length_take,List.getElem?_take,List.getElem?_drop]
    rcases Nat.lt_or_gt_of_ne e with ab | ab
    ·have:(k + 1) * ad.size α≤i * ad.size α:=Nat.mul_le_mul_right _ ab
     rw [Nat.succ_mul] at this
     rw [if_neg (by omega)]; congr 1; omega
    ·have:(i + 1) * ad.size α≤k * ad.size α:=Nat.mul_le_mul_right _ ab
     rw [Nat.succ_mul] at this
     rw [if_pos (by omega),if_pos (by omega),if_pos (by omega)]
   ·rfl
  rw [this]
  simpa [List.getElem_set_ne e] using J
def aL.idx {α:Type} [ad α] [Inhabited α] (n k:Nat) (av:k < n):aL (Vector α n) α where
 off:=k * ad.size α
 get v:=cf v k
 set v x:=c1 v k x
 fC:=by
  show k * ad.size α + ad.size α≤n * ad.size α
  rw [← Nat.succ_mul]; exact Nat.mul_le_mul_right _ av
 hI h:=by
  rename_i b
  rw [O0 b av]
  exact h.2 k (by simpa using av)
 jO h hd:=by
  rename_i b ds g
  have:=Dx h (k:=k) (by simpa using av) hd
  show fJ _ _ _ (c1 b k g).toList
  rw [show(c1 b k g).toList=b.toList.set k g by simp [c1]]
  exact this
def idx (n:Nat) (i:Int):Option Nat:=if 0≤i∧i < n then some i.toNat else none
theorem cu {n:Nat} {i:Int} {k:Nat} (h:idx n i=some k):k < n∧i=k:=by
 unfold idx at h
 split at h
 ·rename_i al
  simp only [Option.some.injEq] at h
  omega
 ·cases h
section
variable {c:cU} {E:List (Nat × I)} {L:List aH} {ops:Array Oper} {Q:Exit→Act→World→Prop}
variable {d:Option Tmp} {ty:TypeId} {pos:String} {af:Array Edge} {g:Option (Nat × Bool)}
theorem cQ {x:Operand} {τ:I} (h:ba c E L x τ):bX c E L ⟨d,.move x,ty,pos,af,g⟩ τ:= .pure fun a W s=>⟨_,rfl,h a W s⟩
theorem eG {x:Operand} {τ:I} (h:ba c E L x τ):bX c E L ⟨d,.assign x,ty,pos,af,g⟩ τ:= .pure fun a W s=>⟨_,rfl,h a W s⟩
theorem vi {x y:Operand} {b e:Bool} {p:Prop} (an:ba c E L x (.of b)) (a9:ba c E L y (.cond p (.of e))) (hp:b=false→p):
 bX c E L ⟨d,.pick x (.const (.bool true)) y,ty,pos,af,g⟩ (.of (b || e)):= .pure fun a W s=>by
 have J:=of_bool.1 (an a W s)
 cases b with
 | true=>exact⟨.bool true,by simp only [execOp,J,asBool]; rfl,of_bool.2 rfl⟩
 | false=>
   have ab:=of_bool.1 ((a9 a W s).1 (hp rfl))
   exact⟨.bool e,by simp [execOp,asBool,J,ab],of_bool.2 rfl⟩
theorem oJ {x y:Operand} {b e:Bool} {p:Prop} (an:ba c E L x (.of b)) (a9:ba c E L y (.cond p (.of e))) (hp:b=true→p):
 bX c E L ⟨d,.pick x y (.const (.bool false)),ty,pos,af,g⟩ (.of (b && e)):= .pure fun a W s=>by
 have J:=of_bool.1 (an a W s)
 cases b with
 | false=>exact⟨.bool false,by simp only [execOp,J,asBool]; rfl,of_bool.2 rfl⟩
 | true=>
   have ab:=of_bool.1 ((a9 a W s).1 (hp rfl))
   exact⟨.bool e,by simp [execOp,asBool,J,ab],of_bool.2 rfl⟩
theorem ju {x:Operand} {b:Bool} {t:TypeId} (an:ba c E L x (.of b)):bX c E L ⟨d,.unOp .not t x,ty,pos,af,g⟩ (.of (!b)):= .pure fun a W s=>
 ⟨.bool (!b),by simp [execOp,Op.unary,of_bool.1 (an a W s)],of_bool.2 rfl⟩
theorem gx {x:Operand} {t:TypeId} {i p o:Nat} {β γ:Type} [ad β] [ad γ] {b:β} (l:aL β γ) {r:γ} (dN:bt c.P t γ) (an:ba c E L x (.eq (.pointer (some ⟨p,o,none⟩))))
 (au:L[i]? =some ⟨some p,.var b⟩) (bm:o=l.off) (aS:l.get b=r):bX c E L ⟨d,.load t x,ty,pos,af,g⟩ (.of r):= .pure fun a W s=>by
 subst bm
 subst aS
 obtain⟨iI,dV,cs,T,rfl,ff⟩:=s.own _ (List.mem_of_getElem? au)
 have J:cs.toList.length=ad.size β:=ad.len ff
 obtain⟨v,ab,aC⟩:=r5 (A:=aJ L ++ c.bP) dN dV (by have:=l.fC; simp at J; omega) (l.hI ff)
 refine⟨v,?_,aC⟩
 have aU:a.eval x=_:=an a W s
 simp [execOp,Instr.loadAt,Instr.sureAddr,aU,ab]
theorem cL {x:Operand} {t:TypeId} {γ:Type} [ad γ] {r:γ} (dN:bt c.P t γ) (an:ba c E L x (.ptr r)):bX c E L ⟨d,.load t x,ty,pos,af,g⟩ (.of r):= .pure fun a W s=>by
 obtain⟨b,off,cur,T,g9,aU,hb,ct,hs,aS⟩:=an a W s
 obtain⟨v,ab,aC⟩:=r5 dN ct hs aS
 exact⟨v,by simp [execOp,Instr.loadAt,Instr.sureAddr,aU,ab],aC⟩
structure b8 (P:Program) (s:TypeId) (f o:Nat):Prop where
 at_:∃ fW fd i,P.underlying s=some (.struct fW)∧fW[f]? =some fd∧fd.offset=o∧P.info? fd.type=some i∧i.size≠0
theorem Ie {P:Program} {s:TypeId} {f o:Nat} (h:b8 P s f o) (p off:Nat) (W:World):
 (Instr.fieldAt s (.pointer (some ⟨p,off,none⟩)) f).run P W= .ok (.pointer (some ⟨p,off + o,none⟩)) W:=by
 obtain⟨fW,fd,i,J,ab,aC,aU,aZ⟩:=h.at_
 simp [Instr.fieldAt,run_underlying J,ab,Instr.sureAddr,fieldPlace,Go.sizeOf,typeInfo,aU,aZ,iw,aC]
theorem a0 {x:Operand} {s f o p off:Nat} (fd:b8 c.P s f o) (an:ba c E L x (.eq (.pointer (some ⟨p,off,none⟩)))):
 bX c E L ⟨d,.fieldAddr s x f,ty,pos,af,g⟩ (.eq (.pointer (some ⟨p,off + o,none⟩))):= .pure fun a W st=>by
 have aU:a.eval x=_:=an a W st
 exact⟨_,by simp [execOp,aU,Ie fd],rfl⟩
theorem xY {x:Operand} {s f o:Nat} {β γ:Type} [ad β] [ad γ] {b:β} (l:aL β γ) {r:γ} (fd:b8 c.P s f o) (an:ba c E L x (.ptr b)) (bm:l.off=o) (aS:l.get b=r):
 bX c E L ⟨d,.fieldAddr s x f,ty,pos,af,g⟩ (.ptr r):= .pure fun a W st=>by
 subst bm
 subst aS
 obtain⟨q,off,cur,T,g9,aU,hb,ct,hs,ff⟩:=an a W st
 refine⟨.pointer (some ⟨q,off + l.off,none⟩),by simp [execOp,aU,Ie fd],q,off + l.off,cur,T,g9,rfl,hb,ct,by have:=l.fC; omega,?_⟩
 have:=l.hI ff
 rwa [r9 _ _ _ _ _ l.fC] at this
structure pd (P:Program) (t:TypeId) (n s:Nat):Prop where
 at_:∃ e i,P.underlying t=some (.array n e)∧P.info? e=some i∧i.size=s
theorem Om {P:Program} {t n s:Nat} (h:pd P t n s) (p off:Nat) (k:Nat) (av:k < n) (W:World):
 (Instr.indexAt t (.pointer (some ⟨p,off,none⟩)) (.int .i64 (k:Int))).run P W= .ok (.pointer (some ⟨p,off + k * s,none⟩)) W:=by
 obtain⟨e,i,J,ab,aC⟩:=h.at_
 simp [Instr.indexAt,asIntOf,run_underlying J,Instr.sureAddr,Go.sizeOf,typeInfo,ab,aC,av,iw]
theorem eV {x y:Operand} {t n s p off:Nat} {i:Int} {k:Nat} (WB:pd c.P t n s) (an:ba c E L x (.eq (.pointer (some ⟨p,off,none⟩)))) (a9:ba c E L y (.of i)) (av:k < n∧i=k):
 bX c E L ⟨d,.indexAddr t x y,ty,pos,af,g⟩ (.eq (.pointer (some ⟨p,off + k * s,none⟩))):= .pure fun a W st=>by
 have aU:a.eval x=_:=an a W st
 have aZ:=of_int.1 (a9 a W st)
 obtain⟨bn,rfl⟩:=av
 exact⟨_,by simp [execOp,aU,aZ,Om WB p off k bn],rfl⟩
theorem ah.alloc {t:TypeId} {rest:List Oper} {a6:Nat} {α:Type} [ad α] {z:α} (fN:cx c.P t z) (aO:Nat.blt a6 c.n=true)
 (k:∀ p,ah c ops Q rest ((a6,.eq (.pointer (some ⟨p,0,none⟩))) :: E) (⟨some p,.var z⟩ :: L)):ah c ops Q (⟨some a6,.alloc t,ty,pos,af,none⟩ :: rest) E L:=fun a W s=>by
 obtain⟨i,dB,J,ab,aC⟩:=fN.zero
 refine hH rfl (R:=fun v W'=>v= .pointer (some ⟨W.heap.size,0,none⟩)∧W'=W.alloc (.cells dB.cells t)) (.lr ?_ ⟨rfl,rfl⟩) fun v W' ⟨aY,hw⟩=> ?_
 ·simp [execOp,Instr.alloc,zeroValue,typeInfo,J,ab,newVar,newRow]
 ·subst aY
  subst hw
  exact k _ _ _ ((s.alloc (cp:= .var z) ⟨dB.cells,t,rfl,(aC _ _).2⟩).put (by simpa using aO) rfl)
theorem uy {P:Program} {t:TypeId} {α:Type} [ad α] {z:α} (fN:cx P t z):G4 P ⟨d,.alloc t,ty,pos,af,none⟩ (.var z):=by
 obtain⟨i,dB,J,ab,aC⟩:=fN.zero
 refine⟨rfl,.cells dB.cells t,fun A W=>⟨dB.cells,t,rfl,(aC A W).2⟩,fun a W=> ?_⟩
 simp [execOp,Instr.alloc,zeroValue,typeInfo,J,ab,newVar,newRow]
theorem q0 {x y:Operand} {t:TypeId} {i p o:Nat} {β γ:Type} [ad β] [ad γ] {b b':β} {v:γ} (l:aL β γ) (dN:bt c.P t γ) (an:ba c E L x (.eq (.pointer (some ⟨p,o,none⟩))))
 (a9:ba c E L y (.of v)) (au:L[i]? =some ⟨some p,.var b⟩) (bm:o=l.off) (hb:l.set b v=b'):zH c E L ⟨none,.store t x y,ty,pos,af,none⟩ p (.var b'):=⟨rfl,rfl,fun a W s=>by
 subst bm
 subst hb
 obtain⟨iI,dV,cs,T,rfl,ff⟩:=s.own _ (List.mem_of_getElem? au)
 have J:cs.toList.length=ad.size β:=ad.len ff
 have eQ:=l.fC
 have aY:=a9 a W s
 have ab:=wM (A:=aJ L ++ c.bP) dN dV (off:=l.off) (by simp at J; omega) aY
 have aU:a.eval x=_:=an a W s
 refine⟨cs,(fm cs.toList l.off (a.eval y).cells.toList).toArray,T,dV,?_,?_⟩
 ·simp [execOp,Instr.storeAt,Instr.sureAddr,aU,ab]
 ·refine⟨_,T,rfl,?_⟩
  have:=l.jO ff aY.2
  simpa [fm,ad.len aY.2] using this⟩
theorem ah.box {t:TypeId} {x:Operand} {rest:List Oper} {a6:Nat} {α:Type} [ad α] {z:α} (an:ba c E L x (.of z)) (aO:Nat.blt a6 c.n=true)
 (k:∀ p,ah c ops Q rest ((a6,.eq (.pointer (some ⟨p,0,none⟩))) :: E) (⟨some p,.var z⟩ :: L)):ah c ops Q (⟨some a6,.box t x,ty,pos,af,none⟩ :: rest) E L:=fun a W s=>by
 refine hH rfl (R:=fun v W'=>v= .pointer (some ⟨W.heap.size,0,none⟩)∧W'=W.alloc (.cells (a.eval x).cells t)) (.lr ?_ ⟨rfl,rfl⟩) fun v W' ⟨aY,hw⟩=> ?_
 ·simp [execOp,Instr.box,newVar,newRow]
 ·subst aY
  subst hw
  exact k _ _ _ ((s.alloc (cp:= .var z) ⟨_,t,rfl,(an a W s).2⟩).put (by simpa using aO) rfl)
theorem ah.store {x y:Operand} {t:TypeId} {rest:List Oper} {i p o:Nat} {β γ:Type} [ad β] [ad γ] {b b':β} {v:γ} (l:aL β γ) (dN:bt c.P t γ) (an:ba c E L x (.eq (.pointer (some ⟨p,o,none⟩))))
 (a9:ba c E L y (.of v)) (au:L[i]? =some ⟨some p,.var b⟩) (bm:o=l.off) (hb:l.set b v=b')
 (k:ah c ops Q rest E (L.set i ⟨some p,.var b'⟩)):ah c ops Q (⟨none,.store t x y,ty,pos,af,none⟩ :: rest) E L:=fun a W s=>by
 subst bm
 subst hb
 obtain⟨iI,dV,cs,T,rfl,ff⟩:=s.own _ (List.mem_of_getElem? au)
 have J:cs.toList.length=ad.size β:=ad.len ff
 have eQ:=l.fC
 have aY:=a9 a W s
 have ab:=wM (A:=aJ L ++ c.bP) dN dV (off:=l.off) (by simp at J; omega) aY
 have aU:a.eval x=_:=an a W s
 refine hH rfl (R:=fun v W'=>W'=W.setRow p (fm cs.toList l.off (a.eval y).cells.toList).toArray) (.uG ?_ rfl) fun v W' hw=> ?_
 ·simp [execOp,Instr.storeAt,Instr.sureAddr,aU,ab]
 ·subst hw
  refine k _ _ (s.store au dV ?_)
  refine⟨_,T,rfl,?_⟩
  have:=l.jO ff aY.2
  simpa [fm,ad.len aY.2] using this
def hf (c:cU) (E:List (Nat × I)) (L:List aH):List Operand→List I→Prop
 | [],[]=>True
 | x :: xs,τ :: τs=>ba c E L x τ∧hf c E L xs τs
 | _,_=>False
theorem hf.holds:∀ {xs:List Operand} {τs:List I},hf c E L xs τs→ ∀ a W,bC c E L a W→gl (aJ L ++ c.bP) W τs (xs.map a.eval)
 | [],[],_,_,_,_=> .nil
 | x :: xs,τ :: τs,h,a,W,s=> .cons (h.1 a W s) (h.2.holds a W s)
 | [],_ :: _,h,_,_,_=>h.elim
 | _ :: _,[],h,_,_,_=>h.elim
structure bQ (P:Program) (f:FuncId):Prop where
 at_:∃ fn,P.funcs[f]? =some fn∧fn.body.isNone=false∧ (fn.name == "runtime.NumGoroutine")=false
theorem bQ.run {P:Program} {f:FuncId} (h:bQ P f) (args:Array Value) (W:World):(callFunc f args).run P W= .ok (.enter f args) W:=by
 obtain⟨fn,J,ab,aC⟩:=h.at_
 simp only [callFunc,Sem.run_bind,run_program,Result.andThen_ok,J,aC,ab]
 rfl
theorem hP {f:FuncId} {xs:List Operand} {ats:Array TypeId} {τs:List I} {ρ:I} (dO:bQ c.P f) (h:bx c.P f τs ρ) (an:hf c E L xs τs):
 bX c E L ⟨d,.call ⟨.value (.func f),xs.toArray,ats⟩,ty,pos,af,g⟩ ρ:=fun a W s=>by
 refine .sh (f:=f) (args:=(xs.map a.eval).toArray) (W':=W) ?_ (h _ W _ s.Bd (an.holds a W s))
 simp [execOp,resolve,Deferred.ofValue,Act.eval,invoke,dO.run]
theorem qR {P:Program} {W:World} {t off:Nat} {cs:Array Value} {α:Type} [ad α] {A:List Nat} {x:α} (ty:bt P t α) (hs:off + ad.size α≤cs.size)
 (aS:ad.rep A W ((cs.toList.drop off).take (ad.size α)) x):∃ v,(part t cs off).run P W= .ok v W∧ (I.of x).holds A W v:=by
 have aq:=ad.len aS
 cases bh:ad.agg α with
 | true=>
   refine⟨.agg (cs.extract off (off + ad.size α)),?_,?_,?_⟩
   ·simp [part,ty.isAgg,ty.sizeOf,bh]
   ·simp [shaped,bh]
   ·simpa [Value.cells,List.extract,Array.toList_extract] using aS
 | false=>
   have J:ad.size α=1:=ad.flat bh
   have cq:off < cs.size:=by omega
   have ab:(cs.toList.drop off).take (ad.size α)= [cs[off]]:=by
    rw [J]
    apply List.ext_getElem?
    intro j
    rw [List.getElem?_take,List.getElem?_drop]
    cases j with
    | zero=>simp [cq]
    | succ j=>simp
   rw [ab] at aS
   have aC:cs[off].oneCell'=true:=ad.one aS _ (by simp)
   refine⟨cs[off],?_,?_,?_⟩
   ·simp [part,ty.isAgg,bh,cq]
   ·simp [shaped,bh,aC]
   ·rw [nb aC]; simpa using aS
structure G5 (P:Program) (s f t o:Nat):Prop where
 at_:∃ fW fd,P.underlying s=some (.struct fW)∧fW[f]? =some fd∧fd.offset=o∧fd.type=t
theorem DN {x:Operand} {s f t o:Nat} {β γ:Type} [ad β] [ad γ] {b:β} (l:aL β γ) {r:γ} (WC:G5 c.P s f t o) (dN:bt c.P t γ) (bh:ad.agg β=true) (an:ba c E L x (.of b)) (bm:l.off=o) (aS:l.get b=r):
 bX c E L ⟨d,.field s x f,ty,pos,af,g⟩ (.of r):= .pure fun a W st=>by
 subst bm
 subst aS
 obtain⟨J,ab⟩:=an a W st
 simp only [shaped,bh,if_true] at J
 obtain⟨cs,qk⟩:=J
 obtain⟨fW,fd,aC,aU,aZ,bn⟩:=WC.at_
 rw [qk] at ab
 simp only [Value.cells] at ab
 have aq:cs.toList.length=ad.size β:=ad.len ab
 obtain⟨v,cE,dW⟩:=qR (A:=aJ L ++ c.bP) (P:=c.P) (W:=W) (cs:=cs) (off:=l.off) dN (by have:=l.fC; simp at aq; omega) (l.hI ab)
 refine⟨v,?_,dW⟩
 simp [execOp,Instr.field,run_underlying aC,aU,qk,asAgg,aZ,bn,cE]
theorem Jy {x y:Operand} {t e n:Nat} {i:Int} {k:Nat} {α:Type} [ad α] [Inhabited α] {v:Vector α n} (hu:c.P.underlying t=some (.array n e)) (dN:bt c.P e α) (an:ba c E L x (.of v)) (a9:ba c E L y (.of i)) (av:k < n∧i=k):
 bX c E L ⟨d,.index t x y,ty,pos,af,g⟩ (.of (cf v k)):= .pure fun a W st=>by
 obtain⟨J,ab⟩:=an a W st
 obtain⟨cs,qk⟩:∃ cs,a.eval x= .agg cs:=by simpa [shaped,ad.agg] using J
 have aZ:=of_int.1 (a9 a W st)
 obtain⟨bn,rfl⟩:=av
 rw [qk] at ab
 simp only [Value.cells] at ab
 have aq:cs.toList.length=n * ad.size α:=ad.len ab
 have eQ:=(aL.idx (α:=α) n k bn).fC
 obtain⟨u,cE,dW⟩:=qR (A:=aJ L ++ c.bP) (P:=c.P) (W:=W) (cs:=cs) (off:=k * ad.size α) dN
  (by
   have:k * ad.size α + ad.size α≤n * ad.size α:=eQ
   simp at aq; omega) ((aL.idx (α:=α) n k bn).hI ab)
 refine⟨u,?_,dW⟩
 simp [execOp,Instr.index,asIntOf,run_underlying hu,qk,aZ,bn,dN.sizeOf,cE]
theorem nk {x:Operand} {i:Nat} {τs:List I} {τ:I} (an:ba c E L x (.cF τs)) (al:τs[i]? =some τ):bX c E L ⟨d,.extract x i,ty,pos,af,g⟩ τ:= .pure fun a W st=>by
 obtain⟨vs,J,ab⟩:=an a W st
 have get:∀ {τs:List I} {vs:List Value},gl (aJ L ++ c.bP) W τs vs→ ∀ (i:Nat) (τ:I),τs[i]? =some τ→ ∃ v,vs[i]? =some v∧τ.holds (aJ L ++ c.bP) W v:=by
  intro τs vs h
  induction h with
  | nil=>intro i τ h; simp at h
  | cons J _ bI=>
    intro i τ h
    cases i with
    | zero=>simp only [List.getElem?_cons_zero,Option.some.injEq] at h; subst h; exact⟨_,rfl,J⟩
    | succ i=>simp only [List.getElem?_cons_succ] at h ⊢; exact bI i τ h
 obtain⟨v,aC,aU⟩:=get ab i τ al
 refine⟨v,?_,aU⟩
 have aZ:vs[i]? =some v:=by simpa using aC
 simp [execOp,Instr.extract,J,aZ]
end
end Gv
namespace Gv
open Go
set_option linter.unusedVariables false
set_option linter.unusedSimpArgs false
def bD (x:Int):Int:=IntKind.i64.wrap x
theorem hQ {x:Int} (h: -9223372036854775808≤x) (cJ:x≤9223372036854775807):bD x=x:=by
 unfold bD
 rw [IntKind.wrap_i64]
 omega
def sW (a b:Int):Option Int:=if b=0 then none else some (bD (a.tdiv b))
def mQ (a b:Int):Option Int:=if b=0 then none else some (a.tmod b)
theorem IF {a b r:Int} (h:sW a b=some r):b≠0∧bD (a.tdiv b)=r:=by unfold sW at h; split at h <;> simp_all
theorem w6 {a b r:Int} (h:mQ a b=some r):b≠0∧a.tmod b=r:=by unfold mQ at h; split at h <;> simp_all
theorem wrap_u64 (n:Int):IntKind.u64.wrap n=n % 18446744073709551616:=by simp [IntKind.wrap,IntKind.signed,IntKind.bits]
theorem QW (P:Program) (W:World) (k G6:IntKind) (a b:Int) (h:0≤b):(Op.shift .shl k a G6 b).run P W= .ok (.int k (k.wrap (a * 2 ^ min b.toNat k.bits))) W:=by
 unfold Op.shift
 rw [if_neg (by omega)]
 rfl
theorem QX (P:Program) (W:World) (k G6:IntKind) (a b:Int) (h:0≤b):(Op.shift .shr k a G6 b).run P W= .ok (.int k (a.fdiv (2 ^ min b.toNat k.bits))) W:=by
 unfold Op.shift
 rw [if_neg (by omega)]
 rfl
section
variable {c:cU} {E:List (Nat × I)} {L:List aH}
variable {d:Option Tmp} {ty:TypeId} {pos:String} {af:Array Edge} {g:Option (Nat × Bool)} {x y:Operand} {t t2:TypeId}
theorem dg {a b:Int} (an:ba c E L x (.of a)) (a9:ba c E L y (.of b)):bX c E L ⟨d,.binOp .add t x y t2,ty,pos,af,g⟩ (.of (bD (a + b))):= .pure fun A W s=>
 ⟨.int .i64 (bD (a + b)),by simp [execOp,eqGuard,binOp,Op.intArith,of_int.1 (an A W s),of_int.1 (a9 A W s),bD],of_int.2 rfl⟩
theorem kY {a b:Int} (an:ba c E L x (.of a)) (a9:ba c E L y (.of b)):bX c E L ⟨d,.binOp .sub t x y t2,ty,pos,af,g⟩ (.of (bD (a - b))):= .pure fun A W s=>
 ⟨.int .i64 (bD (a - b)),by simp [execOp,eqGuard,binOp,Op.intArith,of_int.1 (an A W s),of_int.1 (a9 A W s),bD],of_int.2 rfl⟩
theorem SD {a b:Int} (an:ba c E L x (.of a)) (a9:ba c E L y (.of b)):bX c E L ⟨d,.binOp .mul t x y t2,ty,pos,af,g⟩ (.of (bD (a * b))):= .pure fun A W s=>
 ⟨.int .i64 (bD (a * b)),by simp [execOp,eqGuard,binOp,Op.intArith,of_int.1 (an A W s),of_int.1 (a9 A W s),bD],of_int.2 rfl⟩
theorem KK {a b r:Int} (an:ba c E L x (.of a)) (a9:ba c E L y (.of b)) (h:b≠0∧bD (a.tdiv b)=r):bX c E L ⟨d,.binOp .quo t x y t2,ty,pos,af,g⟩ (.of r):= .pure fun A W s=>
 ⟨.int .i64 r,by obtain⟨J,rfl⟩:=h; simp [execOp,eqGuard,binOp,Op.intDiv,of_int.1 (an A W s),of_int.1 (a9 A W s),bD,J],of_int.2 rfl⟩
theorem xR {a b r:Int} (an:ba c E L x (.of a)) (a9:ba c E L y (.of b)) (h:b≠0∧a.tmod b=r):bX c E L ⟨d,.binOp .rem t x y t2,ty,pos,af,g⟩ (.of r):= .pure fun A W s=>
 ⟨.int .i64 r,by obtain⟨J,rfl⟩:=h; simp [execOp,eqGuard,binOp,Op.intDiv,of_int.1 (an A W s),of_int.1 (a9 A W s),J],of_int.2 rfl⟩
theorem dZ {a b:Int} (an:ba c E L x (.of a)) (a9:ba c E L y (.of b)):bX c E L ⟨d,.binOp .lss t x y t2,ty,pos,af,g⟩ (.of (decide (a < b))):= .pure fun A W s=>
 ⟨.bool (decide (a < b)),by simp only [execOp,eqGuard,binOp,of_int.1 (an A W s),of_int.1 (a9 A W s)]; rfl,of_bool.2 rfl⟩
theorem Bm {a b:Int} (an:ba c E L x (.of a)) (a9:ba c E L y (.of b)):bX c E L ⟨d,.binOp .leq t x y t2,ty,pos,af,g⟩ (.of (decide (a≤b))):= .pure fun A W s=>
 ⟨.bool (decide (a≤b)),by simp only [execOp,eqGuard,binOp,of_int.1 (an A W s),of_int.1 (a9 A W s)]; rfl,of_bool.2 rfl⟩
theorem mJ {a b:Int} (an:ba c E L x (.of a)) (a9:ba c E L y (.of b)):bX c E L ⟨d,.binOp .gtr t x y t2,ty,pos,af,g⟩ (.of (decide (a > b))):= .pure fun A W s=>
 ⟨.bool (decide (a > b)),by simp only [execOp,eqGuard,binOp,of_int.1 (an A W s),of_int.1 (a9 A W s)]; rfl,of_bool.2 rfl⟩
theorem kX {a b:Int} (an:ba c E L x (.of a)) (a9:ba c E L y (.of b)):bX c E L ⟨d,.binOp .geq t x y t2,ty,pos,af,g⟩ (.of (decide (a≥b))):= .pure fun A W s=>
 ⟨.bool (decide (a≥b)),by simp only [execOp,eqGuard,binOp,of_int.1 (an A W s),of_int.1 (a9 A W s)]; rfl,of_bool.2 rfl⟩
theorem gb {a b:Int} (an:ba c E L x (.of a)) (a9:ba c E L y (.of b)):bX c E L ⟨d,.binOp .eql t x y t2,ty,pos,af,g⟩ (.of (a ==b)):= .pure fun A W s=>
 ⟨.bool (a ==b),by simp only [execOp,eqGuard,binOp,of_int.1 (an A W s),of_int.1 (a9 A W s)]; rfl,of_bool.2 rfl⟩
theorem sC {a b:Int} (an:ba c E L x (.of a)) (a9:ba c E L y (.of b)):bX c E L ⟨d,.binOp .neq t x y t2,ty,pos,af,g⟩ (.of (a !=b)):= .pure fun A W s=>
 ⟨.bool (a !=b),by simp only [execOp,eqGuard,binOp,of_int.1 (an A W s),of_int.1 (a9 A W s)]; rfl,of_bool.2 rfl⟩
theorem Ty {a b:Bool} (hu:c.P.underlying t=some .bool) (an:ba c E L x (.of a)) (a9:ba c E L y (.of b)):bX c E L ⟨d,.binOp .neq t x y t2,ty,pos,af,g⟩ (.of (a !=b)):= .pure fun A W s=>
 ⟨.bool (a !=b),by
   simp only [execOp,eqGuard,binOp,of_bool.1 (an A W s),of_bool.1 (a9 A W s),Op.equal,Op.maxDepth]
   simp [run_equalIn_bool' W 9999 t a b hu,bne],of_bool.2 rfl⟩
theorem xQ {a b:Int} {ats:Array TypeId} (an:ba c E L x (.of a)) (a9:ba c E L y (.of b)):bX c E L ⟨d,.call ⟨.builtin .min,#[x,y],ats⟩,ty,pos,af,g⟩ (.of (min a b)):= .pure fun A W s=>
 ⟨.int .i64 (min a b),by
   simp [execOp,resolve,invoke,builtin,Builtin.min_,Builtin.min2,of_int.1 (an A W s),of_int.1 (a9 A W s)]
   split <;> omega,of_int.2 rfl⟩
theorem Bk {a b:Int} {ats:Array TypeId} (an:ba c E L x (.of a)) (a9:ba c E L y (.of b)):bX c E L ⟨d,.call ⟨.builtin .max,#[x,y],ats⟩,ty,pos,af,g⟩ (.of (max a b)):= .pure fun A W s=>
 ⟨.int .i64 (max a b),by
   simp [execOp,resolve,invoke,builtin,Builtin.max_,Builtin.max2,of_int.1 (an A W s),of_int.1 (a9 A W s)]
   split <;> omega,of_int.2 rfl⟩
theorem TD (a:BitVec 8):(a.toNat:Int) < 256:=by have:=a.isLt; omega
theorem Ss {a:BitVec 8} {src dst:TypeId} {e:TypeDesc} (hs:c.P.underlying src=some e) (hd:c.P.underlying dst=some (.int .i64)) (an:ba c E L x (.of a)):bX c E L ⟨d,.convert src dst x,ty,pos,af,g⟩ (.of (a.toNat:Int)):= .pure fun A W s=>
 ⟨.int .i64 a.toNat,by
   have h:IntKind.i64.wrap (a.toNat:Int)=(a.toNat:Int):=hQ (by omega) (by have:=TD a; omega)
   simp only [execOp,convert,Sem.run_bind,run_underlying hs,run_underlying hd,TA.1 (an A W s),Conv.intToInt,Result.andThen_ok,h]; rfl,of_int.2 rfl⟩
theorem uP (a:BitVec 64):(a.toNat:Int) < 18446744073709551616:=by have:=a.isLt; omega
theorem ofInt_u64 (a:BitVec 64):BitVec.ofInt 64 (a.toNat:Int)=a:=by simp
theorem QY (a b:BitVec 64):IntKind.u64.wrap ((a.toNat:Int) + (b.toNat:Int))=((a + b).toNat:Int):=by rw [wrap_u64,BitVec.toNat_add]; omega
theorem QS {a b:BitVec 64} (an:ba c E L x (.of a)) (a9:ba c E L y (.of b)):bX c E L ⟨d,.binOp .add t x y t2,ty,pos,af,g⟩ (.of (a + b)):= .pure fun A W s=>
 ⟨.int .u64 (a + b).toNat,by simp [execOp,eqGuard,binOp,Op.intArith,gm.1 (an A W s),gm.1 (a9 A W s),QY],gm.2 rfl⟩
theorem QZ (a b:BitVec 64):IntKind.u64.wrap ((a.toNat:Int) - (b.toNat:Int))=((a - b).toNat:Int):=by rw [wrap_u64,BitVec.toNat_sub]; have:=uP a; have:=uP b; omega
theorem sj {a b:BitVec 64} (an:ba c E L x (.of a)) (a9:ba c E L y (.of b)):bX c E L ⟨d,.binOp .sub t x y t2,ty,pos,af,g⟩ (.of (a - b)):= .pure fun A W s=>
 ⟨.int .u64 (a - b).toNat,by simp [execOp,eqGuard,binOp,Op.intArith,gm.1 (an A W s),gm.1 (a9 A W s),QZ],gm.2 rfl⟩
theorem si {a b:BitVec 64} (an:ba c E L x (.of a)) (a9:ba c E L y (.of b)):bX c E L ⟨d,.binOp .and t x y t2,ty,pos,af,g⟩ (.of (a &&& b)):= .pure fun A W s=>
 ⟨.int .u64 (a &&& b).toNat,by
   simp only [execOp,eqGuard,binOp,gm.1 (an A W s),gm.1 (a9 A W s)]
   have h:IntKind.u64.wrap ((a &&& b).toNat:Int)=((a &&& b).toNat:Int):=by rw [wrap_u64]; have:=uP (a &&& b); omega
   rw [← h]
   conv=>rhs; rw [← ofInt_u64 a,← ofInt_u64 b]
   rfl,gm.2 rfl⟩
theorem uI {a b:BitVec 64} (an:ba c E L x (.of a)) (a9:ba c E L y (.of b)):bX c E L ⟨d,.binOp .or t x y t2,ty,pos,af,g⟩ (.of (a ||| b)):= .pure fun A W s=>
 ⟨.int .u64 (a ||| b).toNat,by
   simp only [execOp,eqGuard,binOp,gm.1 (an A W s),gm.1 (a9 A W s)]
   have h:IntKind.u64.wrap ((a ||| b).toNat:Int)=((a ||| b).toNat:Int):=by rw [wrap_u64]; have:=uP (a ||| b); omega
   rw [← h]
   conv=>rhs; rw [← ofInt_u64 a,← ofInt_u64 b]
   rfl,gm.2 rfl⟩
theorem Jv {a b:BitVec 64} (an:ba c E L x (.of a)) (a9:ba c E L y (.of b)):bX c E L ⟨d,.binOp .xor t x y t2,ty,pos,af,g⟩ (.of (a ^^^ b)):= .pure fun A W s=>
 ⟨.int .u64 (a ^^^ b).toNat,by
   simp only [execOp,eqGuard,binOp,gm.1 (an A W s),gm.1 (a9 A W s)]
   have h:IntKind.u64.wrap ((a ^^^ b).toNat:Int)=((a ^^^ b).toNat:Int):=by rw [wrap_u64]; have:=uP (a ^^^ b); omega
   rw [← h]
   conv=>rhs; rw [← ofInt_u64 a,← ofInt_u64 b]
   rfl,gm.2 rfl⟩
theorem JC {a:BitVec 64} (an:ba c E L x (.of a)):bX c E L ⟨d,.unOp .xor t x,ty,pos,af,g⟩ (.of (~~~a)):= .pure fun A W s=>
 ⟨.int .u64 (~~~a).toNat,by
   have h:IntKind.u64.wrap ((BitVec.ofInt 64 18446744073709551615 ^^^ BitVec.ofInt 64 (a.toNat:Int)).toNat:Int)=((~~~a).toNat:Int):=by
    rw [ofInt_u64 a,show BitVec.ofInt 64 18446744073709551615=BitVec.allOnes 64 from rfl,BitVec.allOnes_xor,wrap_u64]; have:=uP (~~~a); omega
   rw [← h]
   simp only [execOp,Op.unary,gm.1 (an A W s)]
   rfl,gm.2 rfl⟩
theorem Q0 (a:BitVec 64) (n:Nat):IntKind.u64.wrap ((a.toNat:Int) * 2 ^ min n 64)=((a <<< n).toNat:Int):=by
 rw [wrap_u64,BitVec.toNat_shiftLeft,Nat.shiftLeft_eq]
 rcases Nat.lt_or_ge n 64 with h | h
 ·rw [Nat.min_eq_left (by omega)]; simp
 ·rw [Nat.min_eq_right h]
  have e:(a.toNat * 2 ^ n) % 2 ^ 64=0:=by
   rw [show n=64 + (n - 64) by omega,Nat.pow_add]
   exact Nat.mod_eq_zero_of_dvd ⟨a.toNat * 2 ^ (n - 64),by rw [← Nat.mul_assoc,Nat.mul_comm a.toNat,Nat.mul_assoc]⟩
  rw [e]
  have aX:(2:Int) ^ 64=18446744073709551616:=by decide
  rw [aX]; omega
theorem Q1 (a:BitVec 64) (n:Nat):(a.toNat:Int).fdiv (2 ^ min n 64)=((a >>> n).toNat:Int):=by
 rw [BitVec.toNat_ushiftRight,Nat.shiftRight_eq_div_pow]
 have e:∀ m:Nat,(a.toNat:Int).fdiv (2 ^ m)=((a.toNat / 2 ^ m:Nat):Int):=by
  intro m
  rw [show((2:Int) ^ m)=((2 ^ m:Nat):Int) by simp]
  rw [Int.fdiv_eq_ediv_of_nonneg _ (Int.natCast_nonneg _)]
  exact(Int.natCast_ediv _ _).symm
 rw [e]
 rcases Nat.lt_or_ge n 64 with h | h
 ·rw [Nat.min_eq_left (by omega)]
 ·rw [Nat.min_eq_right h]
  have J:a.toNat / 2 ^ 64=0:=Nat.div_eq_of_lt a.isLt
  have ab:a.toNat / 2 ^ n=0:=Nat.div_eq_of_lt (Nat.lt_of_lt_of_le a.isLt (Nat.pow_le_pow_right (by omega) h))
  rw [J,ab]
theorem nd {a:BitVec 64} {b:BitVec 64} (an:ba c E L x (.of a)) (a9:ba c E L y (.of b)):bX c E L ⟨d,.binOp .shl t x y t2,ty,pos,af,g⟩ (.of (a <<< b.toNat)):= .pure fun A W s=>
 ⟨.int .u64 (a <<< b.toNat).toNat,by
   simp only [execOp,eqGuard,binOp,gm.1 (an A W s),gm.1 (a9 A W s)]
   have h:=QW c.P W .u64 .u64 a.toNat b.toNat (by omega)
   simp only [Int.toNat_natCast,IntKind.bits,Q0] at h
   exact congrArg (fun r:Result Value=>r.andThen fun v w=> .ok (Next.value v) w) h,gm.2 rfl⟩
theorem xn {a:BitVec 64} {b:BitVec 64} (an:ba c E L x (.of a)) (a9:ba c E L y (.of b)):bX c E L ⟨d,.binOp .shr t x y t2,ty,pos,af,g⟩ (.of (a >>> b.toNat)):= .pure fun A W s=>
 ⟨.int .u64 (a >>> b.toNat).toNat,by
   simp only [execOp,eqGuard,binOp,gm.1 (an A W s),gm.1 (a9 A W s)]
   have h:=QX c.P W .u64 .u64 a.toNat b.toNat (by omega)
   simp only [Int.toNat_natCast,IntKind.bits,Q1] at h
   exact congrArg (fun r:Result Value=>r.andThen fun v w=> .ok (Next.value v) w) h,gm.2 rfl⟩
theorem DO {a b:BitVec 64} (an:ba c E L x (.of a)) (a9:ba c E L y (.of b)):bX c E L ⟨d,.binOp .eql t x y t2,ty,pos,af,g⟩ (.of (a ==b)):= .pure fun A W s=>
 ⟨.bool (a ==b),by
   simp only [execOp,eqGuard,binOp,gm.1 (an A W s),gm.1 (a9 A W s)]
   have h:((a.toNat:Int) ==(b.toNat:Int))=(a ==b):=by
    rw [Bool.eq_iff_iff]; simp [bne]; exact⟨fun h=>BitVec.eq_of_toNat_eq (by omega),fun h=>by rw [h]⟩
   rw [← h]; rfl,of_bool.2 rfl⟩
theorem QR {a b:BitVec 64} (an:ba c E L x (.of a)) (a9:ba c E L y (.of b)):bX c E L ⟨d,.binOp .neq t x y t2,ty,pos,af,g⟩ (.of (a !=b)):= .pure fun A W s=>
 ⟨.bool (a !=b),by
   simp only [execOp,eqGuard,binOp,gm.1 (an A W s),gm.1 (a9 A W s)]
   have h:((a.toNat:Int) !=(b.toNat:Int))=(a !=b):=by
    rw [Bool.eq_iff_iff]; simp [bne]; exact⟨fun h=>fun e=>h (by rw [e]),fun h=>by intro e; exact h (BitVec.eq_of_toNat_eq (by omega))⟩
   rw [← h]; rfl,of_bool.2 rfl⟩
theorem iy {a:Int} {src dst:TypeId} {e:TypeDesc} (hs:c.P.underlying src=some e) (hd:c.P.underlying dst=some (.int .u64)) (an:ba c E L x (.of a)):bX c E L ⟨d,.convert src dst x,ty,pos,af,g⟩ (.of (BitVec.ofInt 64 a)):= .pure fun A W s=>
 ⟨.int .u64 (BitVec.ofInt 64 a).toNat,by
   have h:IntKind.u64.wrap a=((BitVec.ofInt 64 a).toNat:Int):=by rw [wrap_u64,BitVec.toNat_ofInt]; omega
   simp [execOp,convert,run_underlying hs,run_underlying hd,of_int.1 (an A W s),Conv.intToInt,h],gm.2 rfl⟩
theorem RA {a:BitVec 64} {src dst:TypeId} {e:TypeDesc} (hs:c.P.underlying src=some e) (hd:c.P.underlying dst=some (.int .i64)) (an:ba c E L x (.of a)):bX c E L ⟨d,.convert src dst x,ty,pos,af,g⟩ (.of (bD a.toNat)):= .pure fun A W s=>
 ⟨.int .i64 (bD a.toNat),by
   simp only [execOp,convert,Sem.run_bind,run_underlying hs,run_underlying hd,gm.1 (an A W s),Conv.intToInt,Result.andThen_ok]; rfl,of_int.2 rfl⟩
end
end Gv
namespace Gv
open Go
set_option linter.unusedVariables false
set_option linter.unusedSimpArgs false
def sw (tmps:Array Value):ResultVar→Sem Value
 | .tmp t=>pure (tmps.getD t undef)
 | .cell a t=>do loadVar t (← asAddr (tmps.getD a undef))
theorem uu (fn:Func) (tmps:Array Value):results fn tmps=(do
 let vs ← fn.results.mapM (sw tmps)
 pure (if h:vs.size=1 then vs[0] else .tuple vs)):=by
 unfold results
 congr 1
section
variable {c:cU} {E:List (Nat × I)} {L:List aH} {ops:Array Oper} {Q:Exit→Act→World→Prop}
def qs (c:cU) (E:List (Nat × I)) (L:List aH) (r:ResultVar) (τ:I):Prop:=
 ∀ a W,bC c E L a W→ ∃ v,(sw a.tmps r).run c.P W= .ok v W∧τ.holds c.bP W v
theorem kh {t:Nat} {τ:I} (h:look E t=some τ):qs c E L (.tmp t) τ:=fun a W s=>by
 obtain⟨v,J,ab⟩:=s.env t τ h
 exact⟨v,by simp [sw,J],Ip ab⟩
theorem US {t:Nat} {ty:TypeId} {i p:Nat} {α:Type} [ad α] {x:α} (dN:bt c.P ty α) (h:look E t=some (.eq (.pointer (some ⟨p,0,none⟩)))) (au:L[i]? =some ⟨some p,.var x⟩):qs c E L (.cell t ty) (.of x):=fun a W s=>by
 obtain⟨v,J,ab⟩:=s.env t _ h
 subst ab
 obtain⟨iI,dV,cs,T,rfl,ff⟩:=s.own _ (List.mem_of_getElem? au)
 have aq:cs.toList.length=ad.size α:=ad.len ff
 have en:cs.size=ad.size α:=by simpa using aq
 obtain⟨v,aC,aU⟩:=r5 (A:=aJ L ++ c.bP) (off:=0) dN dV (by omega) (by rw [List.drop_zero,← aq,List.take_length]; exact ff)
 exact⟨v,by simp [sw,J,asAddr,aC],Ip aU⟩
def sZ (c:cU) (ρ:I):Ending→World→Prop:=fun e W'=> ∃ v,e= .returned v∧Fr c.X c.hY W'∧ρ.holds c.bP W' v
theorem ag.gG {fn:Func} {r:ResultVar} {τ:I} (aS:fn.results= #[r]) (h:qs c E L r τ) (hA:c.ds= []:=by rfl):ag c (bodyPost c.P fn (sZ c τ)) .ret E L:=fun a W s=>by
 obtain⟨v,J,ab⟩:=h a W s
 exact⟨s.uz hA,v,by simp [uu,aS,J],v,rfl,s.dd,ab⟩
theorem ag.oU {fn:Func} {r iV:ResultVar} {τ oh:I} (aS:fn.results= #[r,iV]) (h:qs c E L r τ) (ab:qs c E L iV oh) (hA:c.ds= []:=by rfl):ag c (bodyPost c.P fn (sZ c (.cF [τ,oh]))) .ret E L:=fun a W s=>by
 obtain⟨v,aC,aU⟩:=h a W s
 obtain⟨v2,aZ,bn⟩:=ab a W s
 exact⟨s.uz hA,.tuple #[v,v2],by simp [uu,aS,aC,aZ],_,rfl,s.dd,_,rfl,.cons aU (.cons bn .nil)⟩
theorem ag.ym {fn:Func} {r iV tv:ResultVar} {τ oh Me:I} (aS:fn.results= #[r,iV,tv]) (h:qs c E L r τ) (ab:qs c E L iV oh) (aC:qs c E L tv Me) (hA:c.ds= []:=by rfl):ag c (bodyPost c.P fn (sZ c (.cF [τ,oh,Me]))) .ret E L:=fun a W s=>by
 obtain⟨v,aU,aZ⟩:=h a W s
 obtain⟨v2,bn,cE⟩:=ab a W s
 obtain⟨WD,dW,fl⟩:=aC a W s
 exact⟨s.uz hA,.tuple #[v,v2,WD],by simp [uu,aS,aU,bn,dW],_,rfl,s.dd,_,rfl,.cons aZ (.cons cE (.cons fl .nil))⟩
theorem bx.of {P:Program} {f:FuncId} {fn:Func} {code:Code} {n:Nat} {τs:List I} {ρ:I} (a8:P.funcs[f]? =some fn) (hb:fn.body=some code) (aO:fn.ntmps=n) (hlen:Nat.ble τs.length n=true)
 (h:∀ W A,ai ⟨P,n,W,[],A,none,[]⟩ (bodyPost P fn (sZ ⟨P,n,W,[],A,none,[]⟩ ρ)) code (params 0 τs) []):bx P f τs ρ:=bx.enter a8 hb aO hlen h
end
structure j1 (P:Program) (t:TypeId) (α:Type) [ad α] [DecidableEq α] (k:Nat):Prop where
 run:∀ d,k≤d→ ∀ A W u v (x y:α),(I.of x).holds A W u→ (I.of y).holds A W v→ (Op.equalIn d t u v).run P W= .ok (decide (x=y)) W
theorem JK {P t K} (h:P.underlying t=some (.int K)):j1 P t Int 1 where
 run d hd A W u v x y an a9:=by
  obtain⟨d,rfl⟩:∃ e,d=e + 1:=⟨d - 1,by omega⟩
  rw [of_int.1 an,of_int.1 a9,run_equalIn_int W d t .i64 K x y h]
  congr 1
theorem Q2 {P t K} (h:P.underlying t=some (.int K)):j1 P t (BitVec 64) 1 where
 run d hd A W u v x y an a9:=by
  obtain⟨d,rfl⟩:∃ e,d=e + 1:=⟨d - 1,by omega⟩
  rw [gm.1 an,gm.1 a9,run_equalIn_int W d t .u64 K _ _ h]
  congr 1
  rw [Bool.eq_iff_iff]; simp only [beq_iff_eq,decide_eq_true_eq]
  exact⟨fun h=>BitVec.eq_of_toNat_eq (by omega),fun h=>by rw [h]⟩
theorem Qi {P t} (h:P.underlying t=some .bool):j1 P t Bool 1 where
 run d hd A W u v x y an a9:=by
  obtain⟨d,rfl⟩:∃ e,d=e + 1:=⟨d - 1,by omega⟩
  rw [of_bool.1 an,of_bool.1 a9,run_equalIn_bool' W d t x y h]
  congr 1
theorem HW {P:Program} {W:World} (f:Nat→Sem Bool) (p:Nat→Bool):∀ (l:List Nat),(∀ i∈l,(f i).run P W= .ok (p i) W)→
 (forIn (m:=Sem) l ((none,()):Option Bool × Unit) (fun i _=>do
  let __do_lift ← f i
  if (!__do_lift)=true then pure (ForInStep.done (some false,())) else
   pure (ForInStep.yield (none,())))).run P W= .ok (if l.all p then(none,()) else(some false,())) W
 | [],_=>by simp
 | i :: r,h=>by
   have J:=h i (by simp)
   have ab:=HW (P:=P) (W:=W) f p r (fun j aF=>h j (by simp [aF]))
   cases hp:p i with
   | false=>simp [List.forIn_cons,J,hp]
   | true=>
     rw [List.forIn_cons]
     simp only [Sem.run_bind,J,hp,Result.andThen_ok,Bool.not_true,Bool.false_eq_true,if_false,Sem.run_pure]
     rw [ab]
     simp [hp]
theorem DX {P t e n k} {α:Type} [ad α] [Inhabited α] [DecidableEq α] (h:P.underlying t=some (.array n e)) (e5:bt P e α) (he:j1 P e α k):j1 P t (Vector α n) (k + 1) where
 run d hd A W u v x y an a9:=by
  obtain⟨d,rfl⟩:∃ e,d=e + 1:=⟨d - 1,by omega⟩
  obtain⟨J,ab⟩:=an
  obtain⟨aC,aU⟩:=a9
  obtain⟨xs,rfl⟩:∃ cs,u= .agg cs:=by simpa [shaped,ad.agg] using J
  obtain⟨ys,rfl⟩:∃ cs,v= .agg cs:=by simpa [shaped,ad.agg] using aC
  simp only [Value.cells] at ab aU
  have tc:xs.toList.length=n * ad.size α:=ad.len ab
  have F5:ys.toList.length=n * ad.size α:=ad.len aU
  have ye:∀ i∈List.range' 0 n,((do
   let a ← part e xs (i * ad.size α)
   let b ← part e ys (i * ad.size α)
   Op.equalIn d e a b):Sem Bool).run P W= .ok (decide (cf x i=cf y i)) W:=by
   intro i al
   have iD:i < n:=by simpa using al
   have eQ:i * ad.size α + ad.size α≤n * ad.size α:=(aL.idx (α:=α) n i iD).fC
   obtain⟨a,bh,td⟩:=qR (A:=A) (P:=P) (W:=W) (cs:=xs) (off:=i * ad.size α) e5 (by simp at tc; omega) ((aL.idx (α:=α) n i iD).hI ab)
   obtain⟨b,hb,F6⟩:=qR (A:=A) (P:=P) (W:=W) (cs:=ys) (off:=i * ad.size α) e5 (by simp at F5; omega) ((aL.idx (α:=α) n i iD).hI aU)
   simp only [Sem.run_bind,bh,hb,Result.andThen_ok]
   exact he.run d (by omega) A W a b _ _ td F6
  have a8:=HW (P:=P) (W:=W) _ _ _ ye
  have jy:(List.range' 0 n).all (fun i=>decide (cf x i=cf y i))=decide (x=y):=by
   rw [Bool.eq_iff_iff,List.all_eq_true,decide_eq_true_eq]
   constructor
   ·intro h
    apply Vector.ext
    intro i al
    have:=h i (by simpa using al)
    simpa [cf,al] using this
   ·rintro rfl i _
    simp
  rw [jy] at a8
  simp only [Op.equalIn,Sem.run_bind,run_underlying h,Result.andThen_ok,e5.sizeOf,Std.Legacy.Range.forIn_eq_forIn_range']
  simp only [Std.Legacy.Range.size,Nat.sub_zero,Nat.add_one_sub_one,Nat.div_one] at a8 ⊢
  simp only [bind_assoc] at a8
  rw [a8]
  by_cases Mf:x=y
  ·simp [Mf]
  ·simp [Mf]
end Gv
namespace Gv
open Go
set_option linter.unusedVariables false
set_option linter.unusedSimpArgs false
section
variable {c:cU} {E:List (Nat × I)} {L:List aH} {ops:Array Oper} {Q:Exit→Act→World→Prop}
variable {d:Option Tmp} {ty:TypeId} {pos:String} {af:Array Edge} {g:Option (Nat × Bool)} {x y:Operand} {t t2:TypeId}
theorem KR {α:Type} [ad α] [DecidableEq α] {k:Nat} {a b:α} (tw:j1 c.P t α k) (av:Nat.ble k 10000=true) (b0:c.P.eqGuardType c.P.depth t=false) (bh:ad.agg α=true) (an:ba c E L x (.of a)) (a9:ba c E L y (.of b)):
 bX c E L ⟨d,.binOp .eql t x y t2,ty,pos,af,g⟩ (.of (decide (a=b))):= .pure fun A W s=>by
 have J:=an A W s
 have ab:=a9 A W s
 obtain⟨xs,hW⟩:∃ cs,A.eval x= .agg cs:=by simpa [shaped,bh] using J.1
 obtain⟨ys,y7⟩:∃ cs,A.eval y= .agg cs:=by simpa [shaped,bh] using ab.1
 have aC:=tw.run 10000 (Nat.le_of_ble_eq_true av) _ W _ _ a b J ab
 rw [hW,y7] at aC
 refine⟨.bool (decide (a=b)),?_,of_bool.2 rfl⟩
 simp only [execOp,hW,y7,Sem.run_bind,run_eqGuard_agg W .eql t x y xs ys b0,Result.andThen_ok,run_eql_struct,aC,Sem.run_pure]
theorem Ez {α:Type} [ad α] [DecidableEq α] {k:Nat} {a b:α} (tw:j1 c.P t α k) (av:Nat.ble k 10000=true) (b0:c.P.eqGuardType c.P.depth t=false) (bh:ad.agg α=true) (an:ba c E L x (.of a)) (a9:ba c E L y (.of b)):
 bX c E L ⟨d,.binOp .neq t x y t2,ty,pos,af,g⟩ (.of (!decide (a=b))):= .pure fun A W s=>by
 have J:=an A W s
 have ab:=a9 A W s
 obtain⟨xs,hW⟩:∃ cs,A.eval x= .agg cs:=by simpa [shaped,bh] using J.1
 obtain⟨ys,y7⟩:∃ cs,A.eval y= .agg cs:=by simpa [shaped,bh] using ab.1
 have aC:=tw.run 10000 (Nat.le_of_ble_eq_true av) _ W _ _ a b J ab
 rw [hW,y7] at aC
 refine⟨.bool (!decide (a=b)),?_,of_bool.2 rfl⟩
 simp only [execOp,hW,y7,Sem.run_bind,run_eqGuard_agg W .neq t x y xs ys b0,Result.andThen_ok,run_neq_struct,aC,Sem.run_pure]
end
theorem DY {P:Program} {W:World} {d:Nat} {xs ys:Array Value} :(Op.eqFields d xs ys []).run P W= .ok true W:=rfl
theorem px {P:Program} {A:List Nat} {W:World} {d:Nat} {xs ys:Array Value} {β γ:Type} [ad β] [ad γ] [DecidableEq γ] (l:aL β γ) {G7 G8:β} {fd:Field} {fW:List Field} {k:Nat} {r:Bool} (e5:bt P fd.type γ) (bm:fd.offset=l.off) (aO:(fd.name == "_")=false)
 (tw:j1 P fd.type γ k) (hd:k≤d) (an:ad.rep A W xs.toList G7) (a9:ad.rep A W ys.toList G8) (aS:(Op.eqFields d xs ys fW).run P W= .ok r W):
 (Op.eqFields d xs ys (fd :: fW)).run P W= .ok (decide (l.get G7=l.get G8) && r) W:=by
 have tc:xs.toList.length=ad.size β:=ad.len an
 have F5:ys.toList.length=ad.size β:=ad.len a9
 have eQ:=l.fC
 obtain⟨a,bh,td⟩:=qR (A:=A) (P:=P) (W:=W) (cs:=xs) (off:=l.off) e5 (by simp at tc; omega) (l.hI an)
 obtain⟨b,hb,F6⟩:=qR (A:=A) (P:=P) (W:=W) (cs:=ys) (off:=l.off) e5 (by simp at F5; omega) (l.hI a9)
 have ql:fd.name≠ "_" :=fun e=>by rw [e] at aO; simp at aO
 simp only [Op.eqFields,if_pos ql,Sem.run_bind,bm,bh,hb,Result.andThen_ok,tw.run d hd A W a b _ _ td F6]
 by_cases h:l.get G7=l.get G8
 ·simp [h,aS]
 ·simp [h]
theorem Dh {P:Program} {t:TypeId} {β:Type} [ad β] [DecidableEq β] {k:Nat} {fW:Array Field} (bh:ad.agg β=true) (hu:P.underlying t=some (.struct fW)) (hp:P.stoodInHeld t=false)
 (h:∀ d,k≤d→ ∀ A W (xs ys:Array Value) (x y:β),ad.rep A W xs.toList x→ad.rep A W ys.toList y→ (Op.eqFields d xs ys fW.toList).run P W= .ok (decide (x=y)) W):j1 P t β (k + 1) where
 run d hd A W u v x y an a9:=by
  obtain⟨d,rfl⟩:∃ e,d=e + 1:=⟨d - 1,by omega⟩
  obtain⟨xs,rfl⟩:∃ cs,u= .agg cs:=by simpa [shaped,bh] using an.1
  obtain⟨ys,rfl⟩:∃ cs,v= .agg cs:=by simpa [shaped,bh] using a9.1
  have a8:P.fieldsOf t=fW:=by simp [Program.fieldsOf,hu]
  rw [run_equalIn_struct W d t xs ys (by rw [a8]; exact hu) hp,a8]
  exact h d (by omega) A W xs ys x y (by simpa [Value.cells] using an.2) (by simpa [Value.cells] using a9.2)
theorem HS {P:Program} {W:World} (fW:Array Field) (h:fW.all (fun f=>(P.info? f.type).isSome)=true):
 (fW.mapM (m:=Sem) fun f=>do pure (f.offset,← Go.sizeOf f.type)).run P W= .ok (fW.map fun f=>(f.offset,P.cellsOf f.type)) W:=by
 obtain⟨l⟩:=fW
 have key:∀ (l:List Field),l.all (fun f=>(P.info? f.type).isSome)=true→ (l.mapM (m:=Sem) fun f=>do pure (f.offset,← Go.sizeOf f.type)).run P W= .ok (l.map fun f=>(f.offset,P.cellsOf f.type)) W:=by
  intro l
  induction l with
  | nil=>intro _; rfl
  | cons f r bI=>
    intro h
    simp only [List.all_cons,Bool.and_eq_true] at h
    obtain⟨i,al⟩:=Option.isSome_iff_exists.1 h.1
    rw [List.mapM_cons]
    simp only [Sem.run_bind,Go.sizeOf,typeInfo,run_program,Result.andThen_ok,al,Sem.run_pure]
    have:=bI h.2
    simp only [Sem.run_bind,Go.sizeOf,typeInfo] at this
    rw [this]
    simp [Program.cellsOf,al]
 have cJ:l.all (fun f=>(P.info? f.type).isSome)=true:=by simpa using h
 rw [List.mapM_toArray]
 simp only [Sem.run_map,key l cJ,Result.andThen_ok]
 simp
theorem O1 (ds:List Value) (off:Nat):∀ (j:Nat) (cs:Array Value),off + j + ds.length≤cs.size→
 (ds.zipIdx j).foldl (fun cs (c,j)=>cs.setIfInBounds (off + j) c) cs=(cs.toList.take (off + j) ++ ds ++ cs.toList.drop (off + j + ds.length)).toArray:=by
 induction ds with
 | nil=>intro j cs _; simp
 | cons v r bI=>
   intro j cs h
   simp only [List.length_cons] at h
   rw [List.zipIdx_cons,List.foldl_cons,bI (j + 1) _ (by simp; omega)]
   simp only [Array.toList_setIfInBounds]
   have:=list_seg_step cs.toList (off + j) v r (by simp; omega)
   rw [show off + (j + 1)=off + j + 1 by omega]
   simp only [List.length_cons]
   rw [this]
theorem AV {place:Nat→Option (Nat × Nat)} {cs:Array Value} {i off sz:Nat} {v:Value} {rest:List (Nat × Value)} (hp:place i=some (off,sz)) (aY:v.cells.size=sz) (hle:off + sz≤cs.size):
 Instr.fill place cs ((i,v) :: rest)=Instr.fill place (fm cs.toList off v.cells.toList).toArray rest:=by
 simp only [Instr.fill,hp]
 rw [if_neg (by simp [aY]; omega)]
 have:=O1 v.cells.toList off 0 cs (by simp [aY]; omega)
 simp only [Nat.add_zero] at this
 congr 1
 rw [← Array.foldl_toList]
 have dR:(v.cells.zipIdx).toList=v.cells.toList.zipIdx:=by simp
 rw [dR,this]
 simp [fm]
section
variable {c:cU} {E:List (Nat × I)} {L:List aH} {ops:Array Oper} {Q:Exit→Act→World→Prop}
variable {d:Option Tmp} {ty:TypeId} {pos:String} {af:Array Edge} {g:Option (Nat × Bool)} {x y:Operand} {t t2:TypeId}
inductive oQ (c:cU) (E:List (Nat × I)) (L:List aH) (place:Nat→Option (Nat × Nat)) {β:Type} [ad β]:β→List (Nat × Operand)→β→Prop
 | nil {b} :oQ c E L place b [] b
 | cons {b eu b':β} {γ:Type} [ad γ] {v:γ} {i:Nat} {x:Operand} {r:List (Nat × Operand)} (l:aL β γ):place i=some (l.off,ad.size γ)→ba c E L x (.of v)→l.set b v=eu→oQ c E L place eu r b'→oQ c E L place b ((i,x) :: r) b'
theorem oQ.run {place:Nat→Option (Nat × Nat)} {β:Type} [ad β] {b b':β} {bl:List (Nat × Operand)} (h:oQ c E L place b bl b'):∀ a W,bC c E L a W→ ∀ cs:Array Value,ad.rep (aJ L ++ c.bP) W cs.toList b→
 ∃ dk,Instr.fill place cs (bl.map fun(i,x)=>(i,a.eval x))=some dk∧ad.rep (aJ L ++ c.bP) W dk.toList b':=by
 induction h with
 | nil=>intro a W s cs aS; exact⟨cs,rfl,aS⟩
 | @cons b eu b' γ _ v i x r l J ab aC _ bI=>
   intro a W s cs aS
   subst aC
   have aY:=ab a W s
   have en:(a.eval x).cells.size=ad.size γ:=by have:=ad.len aY.2; simpa using this
   have aq:cs.toList.length=ad.size β:=ad.len aS
   have eQ:=l.fC
   rw [List.map_cons,AV J en (by simp at aq; omega)]
   refine bI a W s _ ?_
   have:=l.jO aS aY.2
   simpa [fm,ad.len aY.2] using this
structure gX (P:Program) (t:TypeId) (pl:Array (Nat × Nat)):Prop where
 at_:∃ fW,P.underlying t=some (.struct fW)∧fW.all (fun f=>(P.info? f.type).isSome)=true∧ (fW.map fun f=>(f.offset,P.cellsOf f.type))=pl
theorem cC {β:Type} [ad β] {z b:β} {bl:List (Nat × Operand)} {pl:Array (Nat × Nat)} (bh:ad.agg β=true) (zI:gX c.P t pl) (fN:cx c.P t z)
 (a8:oQ c E L (pl[·]?) z bl b):bX c E L ⟨d,.build t bl.toArray,ty,pos,af,g⟩ (.of b):= .pure fun a W s=>by
 obtain⟨fW,hu,hs,rfl⟩:=zI.at_
 obtain⟨i,dB,J,ab,aC⟩:=fN.zero
 obtain⟨dk,aU,aZ⟩:=a8.run a W s dB.cells (aC _ _).2
 refine⟨.agg dk,?_,by simp [shaped,bh],by simpa [Value.cells] using aZ⟩
 have hm:(bl.toArray.map fun(x:Nat × Operand)=>(x.1,a.eval x.2)).toList=bl.map fun(i,x)=>(i,a.eval x):=by simp
 simp only [execOp,Instr.build,Sem.run_bind,zeroValue,typeInfo,run_program,Result.andThen_ok,J,ab,Sem.run_pure,run_underlying hu,HS fW hs]
 rw [hm,aU]
 rfl
theorem Qb {β:Type} [ad β] {z b:β} {bl:List (Nat × Operand)} {n e sz:Nat} (bh:ad.agg β=true) (hu:c.P.underlying t=some (.array n e)) (hs:(c.P.info? e).map (·.size)=some sz) (fN:cx c.P t z)
 (a8:oQ c E L (fun i=>some (i * sz,sz)) z bl b):bX c E L ⟨d,.build t bl.toArray,ty,pos,af,g⟩ (.of b):= .pure fun a W s=>by
 obtain⟨i,dB,J,ab,aC⟩:=fN.zero
 obtain⟨fG,dJ,en⟩:∃ fG,c.P.info? e=some fG∧fG.size=sz:=by
  cases al:c.P.info? e with
  | none=>simp [al] at hs
  | some fG=>exact⟨fG,rfl,by simpa [al] using hs⟩
 obtain⟨dk,aU,aZ⟩:=a8.run a W s dB.cells (aC _ _).2
 refine⟨.agg dk,?_,by simp [shaped,bh],by simpa [Value.cells] using aZ⟩
 have hm:(bl.toArray.map fun(x:Nat × Operand)=>(x.1,a.eval x.2)).toList=bl.map fun(i,x)=>(i,a.eval x):=by simp
 simp only [execOp,Instr.build,Sem.run_bind,zeroValue,typeInfo,run_program,Result.andThen_ok,J,ab,Sem.run_pure,run_underlying hu,Go.sizeOf,dJ,en]
 rw [hm,aU]
 rfl
end
def mv {α:Type} [ad α] (A:List Nat) (W:World) (v:Value) (xs:List α):Prop:=
 (v= .slice none 0 0∧xs= [])∨
 ∃ b off cap cur T g9,v= .slice (some ⟨b,off,none⟩) xs.length cap∧b ∉ A∧W.heap[b]? =some (.cells cur T g9)∧xs.length≤cap∧xs.length≤maxLen∧off + xs.length * ad.size α≤cur.size∧
   fJ A W ((cur.toList.drop off).take (xs.length * ad.size α)) xs
theorem mv.mono {α:Type} [ad α] {A W cH W' v} {xs:List α} (e:Ext A W cH W') (h:mv A W v xs):mv cH W' v xs:=by
 rcases h with h | ⟨b,off,cap,cur,T,g9,J,ab,aC,aU,aZ,bn,cE⟩
 ·exact .inl h
 ·have cq:b < W.heap.size:=(Array.getElem?_eq_some_iff.1 aC).1
  exact .inr ⟨b,off,cap,cur,T,g9,J,fun hm=>ab (e.new b hm cq),by rw [e.block b cq ab]; exact aC,aU,aZ,bn,cE.mono e⟩
instance WX {α:Type} [ad α]:ad (List α) where
 size:=1
 agg:=false
 rep A W cs xs:= ∃ v,cs= [v]∧mv A W v xs
 len h:=by obtain⟨v,rfl,_⟩:=h; rfl
 one h:=by
  obtain⟨v,rfl,h⟩:=h
  intro u hu
  rw [List.mem_singleton.1 hu]
  rcases h with⟨rfl,_⟩ | ⟨b,off,cap,cur,T,g9,rfl,_⟩ <;> rfl
 flat _:=rfl
 mono e h:=let⟨v,J,ab⟩:=h; ⟨v,J,ab.mono e⟩
theorem mv.one {α:Type} [ad α] {A W v} {xs:List α} (h:mv A W v xs):v.oneCell'=true:=by
 rcases h with⟨rfl,_⟩ | ⟨b,off,cap,cur,T,g9,rfl,_⟩ <;> rfl
theorem ln {α:Type} [ad α] {A W v} {xs:List α} :(I.of xs).holds A W v↔mv A W v xs:=by
 constructor
 ·rintro ⟨J,u,ab,aC⟩
  have:v=u:=na J ab
  rw [this]; exact aC
 ·intro h
  exact⟨h.one,v,by rw [nb h.one],h⟩
def aA {α:Type} [Inhabited α] (xs:List α) (k:Nat):α:=xs[k]?.getD default
theorem eB {α:Type} [Inhabited α] (xs:List α) {k:Nat} (h:k < xs.length):aA xs k=xs[k]:=by simp [aA,h]
def sv {α:Type} (xs:List α) (lo al:Int):Option (List α):=if 0≤lo∧lo≤al∧al≤xs.length then some ((xs.drop lo.toNat).take (al.toNat - lo.toNat)) else none
theorem O2 {α:Type} {xs r:List α} {lo al:Int} (h:sv xs lo al=some r):∃ a b:Nat,lo=a∧al=b∧a≤b∧b≤xs.length∧r=(xs.drop a).take (b - a):=by
 unfold sv at h
 split at h
 ·rename_i ar
  simp only [Option.some.injEq] at h
  exact⟨lo.toNat,al.toNat,by omega,by omega,by omega,by omega,h.symm⟩
 ·cases h
def fT {α:Type} (bytes:Nat) (xs ys:List α):Option (List α):=if (xs.length + ys.length) * bytes≤140737488355328∧xs.length + ys.length≤maxLen then some (xs ++ ys) else none
theorem IP {α:Type} {bytes:Nat} {xs ys r:List α} (h:fT bytes xs ys=some r):(xs.length + ys.length) * bytes≤140737488355328∧xs.length + ys.length≤maxLen∧r=xs ++ ys:=by
 unfold fT at h
 split at h
 ·rename_i ar; simp only [Option.some.injEq] at h; exact⟨ar.1,ar.2,h.symm⟩
 ·cases h
section
variable {c:cU} {E:List (Nat × I)} {L:List aH} {ops:Array Oper} {Q:Exit→Act→World→Prop}
variable {d:Option Tmp} {ty:TypeId} {pos:String} {af:Array Edge} {g:Option (Nat × Bool)} {x y:Operand} {t t2:TypeId}
theorem look_nil {α:Type} [ad α]:ba c E L (.const (.slice none 0 0)) (.of ([]:List α)):=fun _ _ _=>ln.2 (.inl ⟨rfl,rfl⟩)
theorem mv.len {α:Type} [ad α] {A W v} {xs:List α} (h:mv A W v xs):∃ a cap,v= .slice a xs.length cap:=by
 rcases h with⟨rfl,rfl⟩ | ⟨b,off,cap,cur,T,g9,rfl,_⟩
 ·exact⟨none,0,rfl⟩
 ·exact⟨_,_,rfl⟩
theorem eJ {α:Type} [ad α] {xs:List α} {e:TypeId} (hu:c.P.underlying t=some (.slice e)) (an:ba c E L x (.of xs)):bX c E L ⟨d,.call ⟨.builtin .len,#[x],#[t]⟩,ty,pos,af,g⟩ (.of (xs.length:Int)):= .pure fun a W s=>by
 obtain⟨b,cap,J⟩:=(ln.1 (an a W s)).len
 exact⟨.int .i64 xs.length,by simp [execOp,resolve,invoke,builtin,Builtin.len_,J,run_underlying hu,goInt],of_int.2 rfl⟩
theorem oK {α:Type} [ad α] [Inhabited α] {xs:List α} {e:TypeId} {i:Int} {k:Nat} (hu:c.P.underlying t=some (.slice e)) (e5:bt c.P e α) (an:ba c E L x (.of xs)) (a9:ba c E L y (.of i)) (av:k < xs.length∧i=k):
 bX c E L ⟨d,.indexAddr t x y,ty,pos,af,g⟩ (.ptr (aA xs k)):= .pure fun a W s=>by
 obtain⟨bn,rfl⟩:=av
 have aZ:=of_int.1 (a9 a W s)
 rcases ln.1 (an a W s) with⟨_,rfl⟩ | ⟨b,off,cap,cur,T,g9,J,ab,aC,aU,cE,dW,fl⟩
 ·simp at bn
 ·obtain⟨fG,dJ,en⟩:=e5.info
  have hle:(k + 1) * ad.size α≤xs.length * ad.size α:=Nat.mul_le_mul_right _ bn
  rw [Nat.succ_mul] at hle
  refine⟨.pointer (some ⟨b,off + k * ad.size α,none⟩),?_,b,off + k * ad.size α,cur,T,g9,rfl,ab,aC,by omega,?_⟩
  ·simp [execOp,Instr.indexAt,asIntOf,run_underlying hu,J,aZ,bn,Go.sizeOf,typeInfo,dJ,en,iw]
  ·have:=fl.2 k bn
   rw [r9 _ _ _ _ _ hle] at this
   rw [eB xs bn]
   exact this
theorem oB {P:Program} {W:World} {v:Value} {k:IntKind} {n m:Nat} {code:BoundsCode} (h:n≤m) (aY:v= .int k n):(Instr.sliceBound v m code).run P W= .ok n W:=by
 subst aY
 have bJ:(n:Int)≤ (m:Int):=by omega
 simp [Instr.sliceBound,asIntOf,h]
theorem Q3 {α:Type} [ad α] {A W} {xs:List α} {b off cap:Nat} {cur:Array Value} {T:TypeId} {g9:Nat × Nat} {lo al:Nat} (ab:b ∉ A) (aC:W.heap[b]? =some (.cells cur T g9)) (aU:xs.length≤cap) (cE:xs.length≤maxLen)
 (dW:off + xs.length * ad.size α≤cur.size) (fl:fJ A W ((cur.toList.drop off).take (xs.length * ad.size α)) xs) (h:lo≤al) (cJ:al≤xs.length):
 mv A W (.slice (some (if cap=lo then⟨b,off,none⟩ else⟨b,off + lo * ad.size α,none⟩)) (al - lo) (cap - lo)) ((xs.drop lo).take (al - lo)):=by
 have aq:((xs.drop lo).take (al - lo)).length=al - lo:=by simp; omega
 have hm:al * ad.size α≤xs.length * ad.size α:=Nat.mul_le_mul_right _ cJ
 have oc:lo * ad.size α≤al * ad.size α:=Nat.mul_le_mul_right _ h
 have hd:(al - lo) * ad.size α=al * ad.size α - lo * ad.size α:=Nat.sub_mul _ _ _
 by_cases e:cap=lo
 ·subst e
  have bJ:al=cap:=by omega
  subst bJ
  refine .inr ⟨b,off,al - al,cur,T,g9,by simp,ab,aC,by simp,by simp,by simp; omega,?_⟩
  simp only [Nat.sub_self,List.take_zero,List.length_nil,Nat.zero_mul]
  exact⟨by simp,fun i al=>by simp at al⟩
 ·rw [if_neg e]
  refine .inr ⟨b,off + lo * ad.size α,cap - lo,cur,T,g9,by rw [aq],ab,aC,by omega,by omega,by rw [aq]; omega,?_⟩
  rw [aq]
  refine⟨by simp only [aq,List.length_take,List.length_drop]; simp; omega,fun i iD=> ?_⟩
  rw [aq] at iD
  have iS:=fl.2 (lo + i) (by omega)
  have hle:(lo + i + 1) * ad.size α≤xs.length * ad.size α:=Nat.mul_le_mul_right _ (by omega)
  have BW:(i + 1) * ad.size α≤ (al - lo) * ad.size α:=Nat.mul_le_mul_right _ (by omega)
  rw [Nat.succ_mul] at hle BW
  rw [r9 _ _ _ _ _ hle] at iS
  rw [r9 _ _ _ _ _ BW]
  have:((xs.drop lo).take (al - lo))[i]'(by rw [aq]; exact iD)=xs[lo + i]:=by simp
  rw [this]
  rw [show off + lo * ad.size α + i * ad.size α=off + (lo + i) * ad.size α by rw [Nat.add_mul]; omega]
  exact iS
inductive rR (c:cU) (E:List (Nat × I)) (L:List aH):Option Operand→Int→Int→Prop
 | none {n} :rR c E L .none n n
 | some {x i n} :ba c E L x (.of (i:Int))→rR c E L (.some x) i n
theorem Ju {α:Type} [ad α] {xs r:List α} {e:TypeId} {lo al:Option Operand} {i j:Int} (hu:c.P.underlying t=some (.slice e)) (e5:bt c.P e α) (an:ba c E L x (.of xs)) (hi:rR c E L lo i 0) (eb:rR c E L al j xs.length)
 (h:sv xs i j=some r):bX c E L ⟨d,.slice t x lo al none,ty,pos,af,g⟩ (.of r):= .pure fun a W s=>by
 obtain⟨m,n,rfl,rfl,vF,aO,rfl⟩:=O2 h
 obtain⟨fG,dJ,en⟩:=e5.info
 rcases ln.1 (an a W s) with⟨J,rfl⟩ | ⟨b,off,cap,cur,T,g9,J,ab,aC,aU,cE,dW,fl⟩
 ·have rF:n=0:=by simpa using aO
  have hB:m=0:=by omega
  subst rF
  subst hB
  refine⟨.slice none 0 0,?_,ln.2 (.inl ⟨rfl,by simp⟩)⟩
  have au:(match lo.map a.eval with | some v=>Instr.sliceBound v 0 .sliceB | none=>pure 0:Sem Nat).run c.P W= .ok 0 W:=by
   cases hi with
   | none=>rfl
   | some aq=>exact oB (Nat.le_refl _) (of_int.1 (aq a W s))
  have iu:(match al.map a.eval,(none:Option Value) with | some v,some _=>Instr.sliceBound v 0 .slice3B | some v,none=>Instr.sliceBound v 0 .sliceAcap | none,none=>pure 0 | none,some _=>stuck "Slice: max without high" :Sem Nat).run c.P W= .ok 0 W:=by
   cases eb with
   | none=>rfl
   | some aq=>exact oB (Nat.le_refl _) (of_int.1 (aq a W s))
  cases hi <;> cases eb
  all_goals
   simp only [execOp,Instr.sliceAt,Instr.slice,Instr.sliceBounds,J,Sem.run_bind,run_underlying hu,Result.andThen_ok,Option.map_none,Option.map_some,Option.isSome_none,Bool.false_eq_true,if_false,if_true,Sem.run_pure] at au iu ⊢
   try simp only [au,iu,Result.andThen_ok,Go.sizeOf,typeInfo,Sem.run_bind,run_program,dJ,Sem.run_pure]
   try simp [dJ]
 ·refine⟨.slice (some (if cap=m then⟨b,off,none⟩ else⟨b,off + m * ad.size α,none⟩)) (n - m) (cap - m),?_,ln.2 (Q3 ab aC aU cE dW fl vF aO)⟩
  have au:∀ v,v=Value.int .i64 m→ (Instr.sliceBound v n .sliceB).run c.P W= .ok m W:=fun v aY=>oB vF aY
  have iu:∀ v,v=Value.int .i64 n→ (Instr.sliceBound v cap .sliceAcap).run c.P W= .ok n W:=fun v aY=>oB (by omega) aY
  have LN:(if cap=m then(some ⟨b,off,none⟩:Option Addr) else(some (Addr.add ⟨b,off,none⟩ (m * ad.size α))))=some (if cap=m then⟨b,off,none⟩ else⟨b,off + m * ad.size α,none⟩):=by
   split <;> simp [iw]
  generalize eQ:(n:Int)=MQ at eb
  generalize y8:(m:Int)=MR at hi
  generalize y9:(xs.length:Int)=MS at eb
  generalize Mg:(0:Int)=MT at hi
  cases hi with
  | none=>
    have hB:m=0:=by omega
    cases eb with
    | none=>
      have mi:n=xs.length:=by omega
      subst mi
      subst hB
      simp [execOp,Instr.sliceAt,Instr.slice,Instr.sliceBounds,J,run_underlying hu,Go.sizeOf,typeInfo,dJ,en,iw]
    | some aq=>
      have aZ:=of_int.1 (aq a W s)
      rw [← eQ] at aZ
      have bn:=iu _ aZ
      subst hB
      simp [execOp,Instr.sliceAt,Instr.slice,Instr.sliceBounds,J,run_underlying hu,Go.sizeOf,typeInfo,dJ,en,iw,bn]
  | some aq=>
    have aZ:=of_int.1 (aq a W s)
    rw [← y8] at aZ
    have bn:=au _ aZ
    cases eb with
    | none=>
      have mi:n=xs.length:=by omega
      subst mi
      simp only [execOp,Instr.sliceAt,Instr.slice,Instr.sliceBounds,J,Sem.run_bind,run_underlying hu,Result.andThen_ok,Option.map_none,Option.map_some,Option.isSome_none,Bool.false_eq_true,if_false,if_true,Sem.run_pure,bn,Go.sizeOf,typeInfo,run_program,dJ,en]
      rw [← LN]
    | some ko=>
      have Mh:=of_int.1 (ko a W s)
      rw [← eQ] at Mh
      have VB:=iu _ Mh
      simp only [execOp,Instr.sliceAt,Instr.slice,Instr.sliceBounds,J,Sem.run_bind,run_underlying hu,Result.andThen_ok,Option.map_none,Option.map_some,Option.isSome_none,Bool.false_eq_true,if_false,if_true,Sem.run_pure,bn,VB,Go.sizeOf,typeInfo,run_program,dJ,en]
      rw [← LN]
end
end Gv
namespace Gv
open Go
set_option linter.unusedVariables false
set_option linter.unusedSimpArgs false
def aV:Option Nat→Nat→Nat→Value
 | some p,n,cap=> .slice (some ⟨p,0,none⟩) n cap
 | none,_,_=> .slice none 0 0
theorem O3 {L:List aH} {i:Nat} {cp:dn} :∀ k∈aJ (L.set i ⟨none,cp⟩),∃ j e,j≠i∧L[j]? =some e∧e.key=some k:=by
 intro k av
 obtain⟨e,he,rC⟩:=jR.1 av
 obtain⟨j,aF⟩:=List.mem_iff_getElem?.1 he
 rw [List.getElem?_set] at aF
 split at aF
 ·split at aF
  ·simp only [Option.some.injEq] at aF; subst aF; cases rC
  ·cases aF
 ·rename_i dv
  exact⟨j,e,fun h=>dv h.symm,aF,rC⟩
theorem ua {L:List aH} {i:Nat} {cp:dn} :aJ (L.set i ⟨none,cp⟩) |>.Sublist (aJ L):=by
 induction L generalizing i with
 | nil=>simp [aJ]
 | cons x r bI=>
   cases i with
   | zero=>
     cases av:x.key with
     | none=>simp [aJ,av]
     | some p=>simp [aJ,av]
   | succ i=>
     cases av:x.key with
     | none=>simpa [aJ,av] using bI
     | some p=>simpa [aJ,av] using bI
theorem bC.kill {c E L a W} (h:bC c E L a W) (i:Nat):bC c E (L.set i ⟨none,.dead⟩) a W:=by
 have kH:=ua (L:=L) (i:=i) (cp:= .dead)
 have av:∀ k∈aJ (L.set i ⟨none,.dead⟩),k∈aJ L:=fun k av=>kH.subset av
 have gn:Ext (aJ L ++ c.bP) W (aJ (L.set i ⟨none,.dead⟩) ++ c.bP) W:= .drop fun k hm=>by
  rcases List.mem_append.1 hm with hm | hm
  ·exact List.mem_append.2 (.inl (av k hm))
  ·exact List.mem_append.2 (.inr hm)
 exact
 {defers:=h.defers
  size:=h.size
  env:=fun t τ aq=>let⟨v,J,ab⟩:=h.env t τ aq; ⟨v,J,τ.mono gn ab⟩
  dd:=h.dd
  own:=fun e he=>by
   obtain⟨j,aF⟩:=List.mem_iff_getElem?.1 he
   rw [List.getElem?_set] at aF
   split at aF
   ·split at aF
    ·simp only [Option.some.injEq] at aF; subst aF; trivial
    ·cases aF
   ·have J:=h.own e (List.mem_of_getElem? aF)
    unfold aH.ok at *
    split at J
    ·obtain⟨o',bm,ct⟩:=J
     exact⟨o',bm,dn.mono _ gn ct⟩
    ·exact J
  nodup:=h.nodup.sublist kH
  lt:=fun k hm=>h.lt k (av k hm)
  fs:=fun k hm=>h.fs k (av k hm)
  er:=fun k hm=>⟨(h.er k hm).1,fun ab=>(h.er k hm).2 (av k ab)⟩ }
theorem bC.xg {c E L a W} (h:bC c E L a W) {i p:Nat} {cp:dn} (al:L[i]? =some ⟨some p,cp⟩):p ∉ aJ (L.set i ⟨none,.dead⟩) ++ c.bP:=by
 intro hm
 rcases List.mem_append.1 hm with hm | hm
 ·obtain⟨j,e,dv,aF,rC⟩:=O3 p hm
  exact dv (Ei h.nodup aF al rC rfl)
 ·exact(h.er p hm).2 (jR.2 ⟨_,List.mem_of_getElem? al,rfl⟩)
theorem Db {α:Type} [ad α] {A W} {cs:Array Value} {xs:List α} {cap:Nat} (h:cs.size=cap * ad.size α) (aO:xs.length≤cap) (aS:fJ A W (cs.toList.take (xs.length * ad.size α)) xs):
 0 + xs.length * ad.size α≤cs.size∧fJ A W ((cs.toList.drop 0).take (xs.length * ad.size α)) xs:=by
 refine⟨?_,by simpa using aS⟩
 rw [h,Nat.zero_add]; exact Nat.mul_le_mul_right _ aO
section
variable {c:cU} {E:List (Nat × I)} {L:List aH} {ops:Array Oper} {Q:Exit→Act→World→Prop}
variable {d:Option Tmp} {ty:TypeId} {pos:String} {af:Array Edge} {g:Option (Nat × Bool)} {x y:Operand} {t t2:TypeId}
theorem bC.freeze {a:Act} {W:World} {α:Type} [ad α] {i s cap T:Nat} {key:Option Nat} {xs:List α} (h:bC c E L a W) (aq:look E s=some (.eq (aV key xs.length cap))) (au:L[i]? =some ⟨key,.row T xs cap⟩):
 bC c ((s,.of xs) :: E) (L.set i ⟨none,.dead⟩) a W:=by
 have av:=h.kill i
 refine { av with env:=fun t τ dQ=> ?_ }
 simp only [look] at dQ
 by_cases e:Nat.beq s t=true
 ·rw [e] at dQ
  simp only [cond_true,Option.some.injEq] at dQ
  subst dQ
  have:=eF.1 e
  subst this
  obtain⟨v,J,ab⟩:=h.env s _ aq
  refine⟨v,J,ln.2 ?_⟩
  have kq:v=aV key xs.length cap:=ab
  subst kq
  have bm:=h.own _ (List.mem_of_getElem? au)
  cases key with
  | none=>exact .inl ⟨rfl,bm.1⟩
  | some p=>
    obtain⟨o,dV,cs,rfl,en,aO,nE,aS⟩:=bm
    obtain⟨aC,aU⟩:=Db en aO aS
    refine .inr ⟨p,0,cap,cs,T,(0,0),rfl,h.xg au,dV,aO,by omega,aC,?_⟩
    have kH:=ua (L:=L) (i:=i) (cp:= .dead)
    exact aU.mono (.drop fun k hm=>by
     rcases List.mem_append.1 hm with hm | hm
     ·exact List.mem_append.2 (.inl (kH.subset hm))
     ·exact List.mem_append.2 (.inr hm))
 ·simp only [Bool.not_eq_true] at e
  rw [e] at dQ
  exact av.env t τ dQ
theorem ah.freeze {l:List Oper} {α:Type} [ad α] {key:Option Nat} {xs:List α} {cap T:Nat} (i s:Nat) (aq:look E s=some (.eq (aV key xs.length cap))) (au:L[i]? =some ⟨key,.row T xs cap⟩)
 (k:ah c ops Q l ((s,.of xs) :: E) (L.set i ⟨none,.dead⟩)):ah c ops Q l E L:=fun a W st=>k a W (st.freeze aq au)
theorem ag.freeze {x:Exit} {α:Type} [ad α] {key:Option Nat} {xs:List α} {cap T:Nat} (i s:Nat) (aq:look E s=some (.eq (aV key xs.length cap))) (au:L[i]? =some ⟨key,.row T xs cap⟩)
 (k:ag c Q x ((s,.of xs) :: E) (L.set i ⟨none,.dead⟩)):ag c Q x E L:=fun a W st=>k a W (st.freeze aq au)
theorem ai.freeze {code:Code} {α:Type} [ad α] {key:Option Nat} {xs:List α} {cap T:Nat} (i s:Nat) (aq:look E s=some (.eq (aV key xs.length cap))) (au:L[i]? =some ⟨key,.row T xs cap⟩)
 (k:ai c Q code ((s,.of xs) :: E) (L.set i ⟨none,.dead⟩)):ai c Q code E L:=fun a W st=>k a W (st.freeze aq au)
theorem bC.RO {a:Act} {W:World} {α:Type} [ad α] (T:TypeId) (h:bC c E L a W):bC c E (⟨none,.row T ([]:List α) 0⟩ :: L) a W:=
 {h with
  own:=fun e he=>by
   rcases List.mem_cons.1 he with rfl | he
   ·exact⟨rfl,rfl⟩
   ·exact h.own e he }
theorem ah.own {l:List Oper} {α:Type} [ad α] (T:TypeId) (k:ah c ops Q l E (⟨none,.row T ([]:List α) 0⟩ :: L)):ah c ops Q l E L:=fun a W st=>k a W (st.RO T)
theorem qO:ba c E L (.const (.slice none 0 0)) (.eq (aV none 0 0)):=fun _ _ _=>rfl
theorem su {key:Option Nat} {n cap:Nat} {e i T:Nat} {α:Type} [ad α] {xs:List α} (hu:c.P.underlying t=some (.slice e)) (an:ba c E L x (.eq (aV key n cap))) (aO:n=xs.length) (au:L[i]? =some ⟨key,.row T xs cap⟩):bX c E L ⟨d,.call ⟨.builtin .len,#[x],#[t]⟩,ty,pos,af,g⟩ (.of (n:Int)):= .pure fun a W s=>by
 subst aO
 have J:a.eval x=_:=an a W s
 have bm:=s.own _ (List.mem_of_getElem? au)
 cases key with
 | none=>
   have:xs= []:=bm.1
   subst this
   exact⟨.int .i64 0,by simp [execOp,resolve,invoke,builtin,Builtin.len_,J,aV,run_underlying hu,goInt],of_int.2 rfl⟩
 | some p=>exact⟨.int .i64 xs.length,by simp [execOp,resolve,invoke,builtin,Builtin.len_,J,aV,run_underlying hu,goInt],of_int.2 rfl⟩
theorem fJ.one {α:Type} [ad α] {A W} {cs:List Value} {xs:List α} (h:fJ A W cs xs):∀ u∈cs,u.oneCell'=true:=by
 intro u hu
 obtain⟨j,aF⟩:=List.mem_iff_getElem?.1 hu
 have cq:=(List.getElem?_eq_some_iff.1 aF).1
 have J:=h.1
 by_cases hs:ad.size α=0
 ·rw [hs,Nat.mul_zero] at J; omega
 ·have hp:0 < ad.size α:=Nat.pos_of_ne_zero hs
  have al:j / ad.size α < _:=(Nat.div_lt_iff_lt_mul hp).2 (by rw [J] at cq; exact cq)
  refine ad.one (h.2 _ al) u (List.mem_iff_getElem?.2 ⟨j % ad.size α,?_⟩)
  rw [List.getElem?_take,if_pos (Nat.mod_lt _ hp),List.getElem?_drop,Nat.mul_comm,Nat.div_add_mod]
  exact aF
theorem qI {α:Type} [ad α] {A W} {cs ds:List Value} {xs ys:List α} (h:fJ A W cs xs) (cJ:fJ A W ds ys):fJ A W (cs ++ ds) (xs ++ ys):=by
 refine⟨by rw [List.length_append,h.1,cJ.1,List.length_append,Nat.add_mul],fun i al=> ?_⟩
 rw [List.length_append] at al
 by_cases cq:i < xs.length
 ·have J:=h.2 i cq
  have hle:(i + 1) * ad.size α≤xs.length * ad.size α:=Nat.mul_le_mul_right _ cq
  rw [Nat.succ_mul] at hle
  have kN:=h.1
  rw [List.drop_append_of_le_length (by omega),List.take_append_of_le_length (by simp; omega)]
  rw [List.getElem_append_left cq]
  exact J
 ·have J:=cJ.2 (i - xs.length) (by omega)
  have e:i * ad.size α=cs.length + (i - xs.length) * ad.size α:=by
   rw [h.1,← Nat.add_mul]; congr 1; omega
  rw [e,List.drop_append,List.drop_of_length_le (by omega),List.nil_append,show cs.length + (i - xs.length) * ad.size α - cs.length=(i - xs.length) * ad.size α by omega]
  rw [List.getElem_append_right (by omega)]
  exact J
theorem mv.cells {α:Type} [ad α] {A W v} {ys:List α} (h:mv A W v ys):
 (v= .slice none 0 0∧ys= [])∨ ∃ (b off cap:Nat) (news:List Value),v= .slice (some ⟨b,off,none⟩) ys.length cap∧news.length=ys.length * ad.size α∧ (∀ (j:Nat) (u:Value),news[j]? =some u→W.cell? ((⟨b,off,none⟩:Addr).add j)=some u)∧
  (∀ u∈news,u.oneCell'=true)∧fJ A W news ys:=by
 rcases h with h | ⟨b,off,cap,cur,T,g9,J,ab,aC,aU,aZ,bn,cE⟩
 ·exact .inl h
 ·refine .inr ⟨b,off,cap,_,J,cE.1,fun j u hu=> ?_,fun u hu=> ?_,cE⟩
  ·rw [List.getElem?_take] at hu
   split at hu
   ·rw [iw,cell_of_row W b (off + j) cur T g9 aC]
    rw [List.getElem?_drop] at hu
    simpa using hu
   ·cases hu
  ·exact cE.one u hu
theorem bC.grow {a:Act} {W:World} (h:bC c E L a W) {i:Nat} {kR:aH} (al:L[i]? =some kR) {o:Obj} {cp:dn} (ar:cp.holds (aJ L ++ c.bP) W o):
 bC c E (L.set i ⟨some W.heap.size,cp⟩) a (W.alloc o):=by
 have J:=h.alloc ar
 refine J.sub (fun e he=> ?_) ?_
 ·obtain⟨j,aF⟩:=List.mem_iff_getElem?.1 he
  rw [List.getElem?_set] at aF
  split at aF
  ·split at aF
   ·simp only [Option.some.injEq] at aF; subst aF; simp
   ·cases aF
  ·exact List.mem_cons_of_mem _ (List.mem_of_getElem? aF)
 ·have yI:W.heap.size ∉ aJ L:=fun hm=>Nat.lt_irrefl _ (h.lt _ hm)
  have key:∀ (L:List aH) (i:Nat) (q:Nat),q ∉ aJ L→ (aJ L).Nodup→ (aJ (L.set i ⟨some q,cp⟩)).Nodup∧ ∀ k∈aJ (L.set i ⟨some q,cp⟩),k=q∨k∈aJ L:=by
   intro L
   induction L with
   | nil=>intro i q _ aO; exact⟨by simpa using aO,by simp [aJ]⟩
   | cons x r bI=>
     intro i q hq aO
     cases an:x.key with
     | none=>
       have gC:q ∉ aJ r:=by simpa [aJ,an] using hq
       have ql:(aJ r).Nodup:=by simpa [aJ,an] using aO
       cases i with
       | zero=>exact⟨by simp only [List.set_cons_zero,aJ]; exact List.nodup_cons.2 ⟨gC,ql⟩,fun k av=>by
        simp only [List.set_cons_zero,aJ,List.mem_cons] at av; rcases av with rfl | av
        ·exact .inl rfl
        ·exact .inr (by simpa [aJ,an] using av)⟩
       | succ i=>
         obtain⟨J,ab⟩:=bI i q gC ql
         exact⟨by simpa [aJ,an] using J,fun k av=>by have:=ab k (by simpa [aJ,an] using av); simpa [aJ,an] using this⟩
     | some p=>
       simp only [aJ,an,List.mem_cons,not_or] at hq
       simp only [aJ,an] at aO
       obtain⟨hp,ql⟩:=List.nodup_cons.1 aO
       cases i with
       | zero=>exact⟨by simp only [List.set_cons_zero,aJ]; exact List.nodup_cons.2 ⟨hq.2,ql⟩,fun k av=>by
        simp only [List.set_cons_zero,aJ,List.mem_cons] at av; rcases av with rfl | av
        ·exact .inl rfl
        ·exact .inr (by simp [aJ,an,av])⟩
       | succ i=>
         obtain⟨J,ab⟩:=bI i q hq.2 ql
         refine⟨?_,fun k av=> ?_⟩
         ·simp only [List.set_cons_succ,aJ,an]
          refine List.nodup_cons.2 ⟨fun hm=> ?_,J⟩
          rcases ab p hm with e | qm
          ·exact hq.1 e.symm
          ·exact hp qm
         ·simp only [List.set_cons_succ,aJ,an,List.mem_cons] at av
          rcases av with rfl | av
          ·exact .inr (by simp [aJ,an])
          ·rcases ab k av with e | qm
           ·exact .inl e
           ·exact .inr (by simp [aJ,an,qm])
  exact(key L i _ yI h.nodup).1
theorem DZ {α:Type} [ad α] {A W} {cs ds:List Value} {xs:List α} {T cap:Nat} (h:fJ A W cs xs) (dR:ds.length=(cap - xs.length) * ad.size α) (aO:xs.length≤cap) (hm:cap≤maxLen) {arr:Array Value} (bh:arr.toList=cs ++ ds):
 (dn.row T xs cap).holds A W (.cells arr T (0,0)):=by
 refine⟨arr,rfl,?_,aO,hm,?_⟩
 ·have:arr.size=(cs ++ ds).length:=by rw [← bh]; simp
  rw [this,List.length_append,h.1,dR,← Nat.add_mul]; congr 1; omega
 ·rw [bh,← h.1,List.take_left]; exact h
theorem ah.app {α:Type} [ad α] {rest:List Oper} {a6 i e bytes cap:Nat} {key:Option Nat} {xs ys r:List α} {z:α} (hu:c.P.underlying t=some (.slice e)) (e5:bt c.P e α) (fN:cx c.P e z)
 (te:(c.P.info? e).map (·.bytes)=some bytes) (hs:ba c E L x (.eq (aV key xs.length cap))) (au:L[i]? =some ⟨key,.row e xs cap⟩) (a9:ba c E L y (.of ys)) (h:fT bytes xs ys=some r) (aO:Nat.blt a6 c.n=true)
 (k:∀ n7 cap',ah c ops Q rest ((a6,.eq (aV n7 r.length cap')) :: E) (L.set i ⟨n7,.row e r cap'⟩)):
 ah c ops Q (⟨some a6,.call ⟨.builtin .append,#[x,y],#[t,t]⟩,ty,pos,af,none⟩ :: rest) E L:=fun a W s=>by
 obtain⟨s8,ob,rfl⟩:=IP h
 obtain⟨fG,dB,dJ,dR,o5⟩:=fN.zero
 have lz:fG.size=ad.size α:=by
  obtain⟨i2,J,ab⟩:=e5.info
  rw [dJ] at J; cases J; exact ab
 have Ej:fG.bytes=bytes:=by simpa [dJ] using te
 have tf:dB.cells.size=ad.size α:=by have:=ad.len (o5 [] W).2; simpa using this
 subst Ej
 have J:a.eval x=_:=hs a W s
 have bm:=s.own _ (List.mem_of_getElem? au)
 have j7:a6 < c.n:=by simpa using aO
 have rN:=(ln.1 (a9 a W s)).cells
 have oc:maxLen=9223372036854775807:=rfl
 have main:∃ n7 cap' W',(Builtin.append_ #[t,t] ty #[a.eval x,a.eval y]).run c.P W= .ok (aV n7 (xs ++ ys).length cap') W'∧bC c E (L.set i ⟨n7,.row e (xs ++ ys) cap'⟩) a W':=by
  cases key with
  | none=>
    obtain⟨VC,VD⟩:xs= []∧cap=0:=bm
    subst VC
    subst VD
    have vc:L.set i ⟨none,.row e ([]:List α) 0⟩=L:=by
     obtain⟨cq,he⟩:=List.getElem?_eq_some_iff.1 au
     rw [← he]; exact List.set_getElem_self cq
    rcases rN with⟨aY,rfl⟩ | ⟨b,off,cp,news,aY,tg,BF,Ce,ff⟩
    ·refine⟨none,0,W,?_,by simpa [vc] using s⟩
     simp [J,aY,aV,Builtin.append_,run_underlying hu,Go.sizeOf,typeInfo,dJ,Builtin.lenOf,Builtin.firstCells]
    ·by_cases hm:ys.length=0
     ·have:ys= []:=List.eq_nil_of_length_eq_zero hm
      subst this
      refine⟨none,0,W,?_,by simpa [vc] using s⟩
      simp [J,aY,aV,Builtin.append_,run_underlying hu,Go.sizeOf,typeInfo,dJ,Builtin.lenOf,Builtin.firstCells,loadCells,loadCellsFrom]
     ·simp only [List.length_nil,Nat.zero_add] at s8 ob
      have aS:=run_append_nil (P:=c.P) W t ty e fG dB hu dJ dR ⟨b,off,none⟩ ys.length cp news (by rw [lz]; exact tg) BF (by omega) (by omega) (by omega)
      refine⟨some W.heap.size,grownCap W ys.length 0 e,_,by rw [J,aY]; simpa [aV] using aS,?_⟩
      have za:=grownCap_ge W ys.length 0 e
      have hle:=grownCap_le_maxLen W ys.length 0 e ob
      have:=(s.world (Fr.drew W)).grow au (o:= .cells (news.toArray ++ Builtin.zeroCells dB.cells (grownCap W ys.length 0 e - ys.length)) e) (cp:= .row e ([] ++ ys) (grownCap W ys.length 0 e))
       (DZ (T:=e) (ff.mono (Ext.dd (Fr.drew W))) (ds:=(Builtin.zeroCells dB.cells (grownCap W ys.length 0 e - ys.length)).toList) (by rw [Array.length_toList,size_zeroCells,tf]) za hle (by simp))
      simpa using this
  | some p=>
    obtain⟨iI,dV,cs,rfl,en,VE,nE,Cf⟩:=bm
    have F7:a.eval x= .slice (some ⟨p,0,none⟩) xs.length cap:=J
    rcases rN with⟨aY,rfl⟩ | ⟨b,off,cp,news,aY,tg,BF,Ce,ff⟩
    ·refine⟨some p,cap,W,?_,?_⟩
     ·simp [F7,aY,aV,Builtin.append_,run_underlying hu,Go.sizeOf,typeInfo,dJ,Builtin.lenOf,Builtin.firstCells,storeCells,VE]
     ·have:L.set i ⟨some p,.row e (xs ++ []) cap⟩=L:=by
       obtain⟨cq,he⟩:=List.getElem?_eq_some_iff.1 au
       rw [List.append_nil,← he]; exact List.set_getElem_self cq
      rw [this]; exact s
    ·by_cases u9:xs.length + ys.length≤cap
     ·have LO:xs.length * fG.size + news.length≤cs.size:=by rw [lz,tg,en,← Nat.add_mul]; exact Nat.mul_le_mul_right _ u9
      have aS:=run_append_room (P:=c.P) W t ty e fG hu dJ p xs.length cap cs dV ⟨b,off,none⟩ ys.length cp news (by rw [lz]; exact tg) BF Ce u9 LO
      refine⟨some p,cap,_,by rw [F7,aY]; simpa [aV] using aS,?_⟩
      refine s.store au dV ⟨_,rfl,?_,by simpa using u9,nE,?_⟩
      ·simp only [List.size_toArray,List.length_append,List.length_take,List.length_drop,Array.length_toList]; omega
      ·have aq:(cs.toList.take (xs.length * fG.size)).length=xs.length * ad.size α:=by rw [lz]; exact Cf.1
       have vo:=qI Cf ff
       rw [lz]
       have hlen:(xs ++ ys).length * ad.size α=(cs.toList.take (xs.length * ad.size α) ++ news).length:=by rw [vo.1]
       have MU:((cs.toList.take (xs.length * ad.size α) ++ news ++ cs.toList.drop (xs.length * ad.size α + news.length)).toArray).toList.take ((xs ++ ys).length * ad.size α)=cs.toList.take (xs.length * ad.size α) ++ news:=by
        rw [hlen]; exact List.take_left
       rw [List.append_assoc] at MU
       rw [MU]
       exact vo
     ·have holds:∀ (j:Nat) u,(cs.toList.take (xs.length * ad.size α))[j]? =some u→W.cell? ((⟨p,0,none⟩:Addr).add j)=some u:=by
       intro j u mW
       rw [List.getElem?_take] at mW
       split at mW
       ·rw [iw,Nat.zero_add,cell_of_row W p j cs e (0,0) dV]; simpa using mW
       ·cases mW
      have aS:=run_append_grow (P:=c.P) W t ty e fG dB hu dJ dR ⟨p,0,none⟩ xs.length cap _ (by rw [lz]; exact Cf.1) holds ⟨b,off,none⟩ ys.length cp news (by rw [lz]; exact tg) BF (by omega) (by omega) (growslice_fits (by omega) s8)
      have za:=grownCap_ge W (xs.length + ys.length) cap e
      have hle:=grownCap_le_maxLen W (xs.length + ys.length) cap e ob
      refine⟨some W.heap.size,grownCap W (xs.length + ys.length) cap e,_,by rw [F7,aY]; simpa [aV] using aS,?_⟩
      have vo:=(qI Cf ff).mono (Ext.dd (Fr.drew W))
      have:=(s.world (Fr.drew W)).grow au (o:= .cells ((cs.toList.take (xs.length * ad.size α)).toArray ++ news.toArray ++ Builtin.zeroCells dB.cells (grownCap W (xs.length + ys.length) cap e - (xs.length + ys.length))) e)
       (cp:= .row e (xs ++ ys) (grownCap W (xs.length + ys.length) cap e))
       (DZ (T:=e) vo (ds:=(Builtin.zeroCells dB.cells (grownCap W (xs.length + ys.length) cap e - (xs.length + ys.length))).toList) (by rw [Array.length_toList,size_zeroCells,tf,List.length_append]) (by rw [List.length_append]; exact za) hle (by simp))
      simpa using this
 obtain⟨n7,cap',W',jU,j0⟩:=main
 refine hH rfl (R:=fun v gY=>v=aV n7 (xs ++ ys).length cap'∧gY=W') (.lr ?_ ⟨rfl,rfl⟩) fun v gY ⟨aY,hw⟩=> ?_
 ·simp only [execOp,resolve,invoke,builtin,Sem.run_bind,Sem.run_pure,Result.andThen_ok]
  have az:(#[x,y]:Array Operand).map a.eval= #[a.eval x,a.eval y]:=by simp
  rw [az,jU]
  rfl
 ·subst aY
  subst hw
  exact k n7 cap' _ _ (j0.put j7 rfl)
inductive l2 (c:cU) (E:List (Nat × I)) (L:List aH) {α:Type} [ad α]:List α→List (Nat × Operand)→List α→Prop
 | nil {b} :l2 c E L b [] b
 | cons {b b':List α} {v:α} {i:Nat} {x:Operand} {r:List (Nat × Operand)} :i < b.length→ba c E L x (.of v)→l2 c E L (b.set i v) r b'→l2 c E L b ((i,x) :: r) b'
theorem l2.run {α:Type} [ad α] {b b':List α} {bl:List (Nat × Operand)} (h:l2 c E L b bl b'):∀ a W,bC c E L a W→ ∀ cs:Array Value,fJ (aJ L ++ c.bP) W cs.toList b→
 ∃ dk,Instr.fill (fun i=>some (i * ad.size α,ad.size α)) cs (bl.map fun(i,x)=>(i,a.eval x))=some dk∧fJ (aJ L ++ c.bP) W dk.toList b'∧b'.length=b.length:=by
 induction h with
 | nil=>intro a W s cs aS; exact⟨cs,rfl,aS,rfl⟩
 | @cons b b' v i x r al ab _ bI=>
   intro a W s cs aS
   have aY:=ab a W s
   have en:(a.eval x).cells.size=ad.size α:=by have:=ad.len aY.2; simpa using this
   have aq:=aS.1
   have hle:(i + 1) * ad.size α≤b.length * ad.size α:=Nat.mul_le_mul_right _ al
   rw [Nat.succ_mul] at hle
   rw [List.map_cons,AV rfl en (by simp at aq; omega)]
   obtain⟨dk,aC,aU,aZ⟩:=bI a W s (fm cs.toList (i * ad.size α) (a.eval x).cells.toList).toArray (by
    have:=Dx aS al aY.2
    simpa [fm,ad.len aY.2] using this)
   exact⟨dk,aC,aU,by rw [aZ,List.length_set]⟩
theorem xa {α:Type} [ad α] {A W} {z:α} {dB:Value} (h:(I.of z).holds A W dB) (n:Nat) (hs:ad.size α≠0):fJ A W ((Array.range (n * ad.size α)).map (dB.cells[· % dB.cells.size]!)).toList (List.replicate n z):=by
 have aq:dB.cells.size=ad.size α:=by have:=ad.len h.2; simpa using this
 have hp:0 < ad.size α:=Nat.pos_of_ne_zero hs
 refine⟨by simp,fun i al=> ?_⟩
 have iD:i < n:=by simpa using al
 have hle:(i + 1) * ad.size α≤n * ad.size α:=Nat.mul_le_mul_right _ iD
 rw [Nat.succ_mul] at hle
 have:((((Array.range (n * ad.size α)).map (dB.cells[· % dB.cells.size]!)).toList.drop (i * ad.size α)).take (ad.size α))=dB.cells.toList:=by
  apply List.ext_getElem?
  intro j
  rw [List.getElem?_take]
  split
  ·rename_i aF
   rw [List.getElem?_drop]
   have cq:i * ad.size α + j < n * ad.size α:=by omega
   have yM:(i * ad.size α + j) % ad.size α=j:=by rw [Nat.mul_comm,Nat.mul_add_mod]; exact Nat.mod_eq_of_lt aF
   simp only [Array.getElem?_toList,Array.getElem?_map,Array.getElem?_range,cq,if_true,Option.map_some,aq,yM]
   rw [getElem!_pos dB.cells j (by omega)]
   simp [aq,aF]
  ·rename_i aF
   symm
   simp only [Array.getElem?_toList]
   exact Array.getElem?_eq_none (by omega)
 rw [this]
 simpa using h.2
theorem iZ {α:Type} [ad α] {e n:Nat} {z:α} {r:List α} {bl:List (Nat × Operand)} (hu:c.P.underlying t=some (.slice e)) (e5:bt c.P e α) (fN:cx c.P e z) (hs:Nat.beq (ad.size α) 0=false) (aO:Nat.ble (n * ad.size α) 16777216=true)
 (a8:l2 c E L (List.replicate n z) bl r):bX c E L ⟨d,.buildSlice t n bl.toArray,ty,pos,af,g⟩ (.of r):=fun a W s=>by
 obtain⟨fG,dB,dJ,dR,o5⟩:=fN.zero
 have lz:fG.size=ad.size α:=by
  obtain⟨i2,J,ab⟩:=e5.info
  rw [dJ] at J; cases J; exact ab
 have eP:ad.size α≠0:=fun h=>by rw [h] at hs; cases hs
 have oi:=xa (o5 (aJ L ++ c.bP) W) n eP
 obtain⟨dk,aC,aU,aZ⟩:=a8.run a W s _ oi
 have hlen:r.length=n:=by rw [aZ]; simp
 have hm:(bl.toArray.map fun(x:Nat × Operand)=>(x.1,a.eval x.2)).toList=bl.map fun(i,x)=>(i,a.eval x):=by simp
 have UT:=Nat.le_of_ble_eq_true aO
 refine .lr (v:= .slice (some ⟨W.heap.size,0,none⟩) n n) (W':=W.alloc (.cells dk e)) ?_ ⟨Fr.alloc W _,ln.2 ?_⟩
 ·simp only [execOp,Instr.buildSlice,Sem.run_bind,run_underlying hu,Result.andThen_ok,Go.sizeOf,typeInfo,run_program,dJ,Sem.run_pure,lz]
  rw [if_neg (by omega)]
  try simp only [Sem.run_pure,Result.andThen_ok,Sem.run_bind]
  by_cases bJ:n * ad.size α=0
  ·have rF:n=0:=by
    rcases Nat.mul_eq_zero.1 bJ with h | h
    ·exact h
    ·exact absurd h eP
   subst rF
   simp only [Nat.zero_mul,if_true,Sem.run_pure,Result.andThen_ok]
   try simp only [Nat.zero_mul] at aC
   have kR:((Array.range 0).map (fun x=>(#[]:Array Value)[x % (#[]:Array Value).size]!))=((Array.range 0).map (dB.cells[· % dB.cells.size]!)):=by simp
   simp only [pure_bind]
   rw [kR,hm,aC]
   simp [newRow]
  ·simp only [bJ,if_false,Sem.run_bind,zeroValue,typeInfo,run_program,Result.andThen_ok,dJ,dR,Sem.run_pure]
   rw [hm,aC]
   simp [newRow]
 ·have gn:Ext (aJ L ++ c.bP) W (aJ L ++ c.bP) (W.alloc (.cells dk e)):=Ext.dd (Fr.alloc W _)
  refine .inr ⟨W.heap.size,0,n,dk,e,(0,0),by rw [hlen],fun vp=>Nat.lt_irrefl _ (s.Bd _ vp),Kj W _,by omega,?_,?_,?_⟩
  ·have:r.length * 1≤n * ad.size α:=by rw [hlen]; exact Nat.mul_le_mul_left _ (by omega)
   have:maxLen=9223372036854775807:=rfl
   omega
  ·have:=aU.1; simp at this; omega
  ·have bn:=aU.1
   rw [List.drop_zero,← bn,List.take_length]
   exact aU.mono gn
end
end Gv
namespace Gv
open Go
set_option linter.unusedVariables false
set_option linter.unusedSimpArgs false
theorem A4 {cs:List Value} {o s:Nat} {u:Value} (h:u∈cs.drop o):u∈ (cs.drop o).take s∨u∈cs.drop (o + s):=by
 rw [← List.take_append_drop s (cs.drop o)] at h
 rcases List.mem_append.1 h with h | h
 ·exact .inl h
 ·rw [List.drop_drop] at h; exact .inr h
theorem JL {cs:List Value} {n o:Nat} {u:Value} {p:Prop} (aq:cs.length=n) (bm:o=n) (h:u∈cs.drop o):p:=by
 rw [List.drop_of_length_le (by omega)] at h; cases h
theorem RP {cs ds:List Value} {o s n:Nat} (aq:cs.length=n) (hd:ds.length=s) (h:o + s≤n):(cs.take o ++ ds ++ cs.drop (o + s)).length=n:=by
 simp only [List.length_append,List.length_take,List.length_drop]; omega
theorem JM {cs ds:List Value} {o s n:Nat} (aq:cs.length=n) (hd:ds.length=s) (h:o + s≤n):((cs.take o ++ ds ++ cs.drop (o + s)).drop o).take s=ds:=by
 have J:(cs.take o).length=o:=by simp; omega
 rw [List.append_assoc,List.drop_append,J,List.drop_of_length_le (by omega),List.nil_append,Nat.sub_self,List.drop_zero,List.take_append_of_le_length (by omega),List.take_of_length_le (by omega)]
theorem Dy {cs ds:List Value} {o s n cB s2:Nat} (aq:cs.length=n) (hd:ds.length=s) (h:o + s≤n) (dv:cB + s2≤o∨o + s≤cB):((cs.take o ++ ds ++ cs.drop (o + s)).drop cB).take s2=(cs.drop cB).take s2:=by
 apply List.ext_getElem?
 intro i
 simp only [List.getElem?_take,List.getElem?_drop]
 split
 ·rename_i al
  simp only [List.getElem?_append,List.length_append,List.length_take,List.getElem?_take,List.getElem?_drop]
  have J:min o cs.length=o:=by omega
  rw [J,hd]
  rcases dv with ab | ab
  ·rw [if_pos (by omega),if_pos (by omega),if_pos (by omega)]
  ·rw [if_neg (by omega)]; congr 1; omega
 ·rfl
structure rG (P:Type) where
 size:Nat
 rep:List Nat→World→List Value→Nat→P→Prop
 one:∀ {A W cs o x n},rep A W cs o x→cs.length=n→o + size=n→ ∀ u∈cs.drop o,u.oneCell'=true
 mono:∀ {A W cH W' cs o x},Ext A W cH W'→rep A W cs o x→rep cH W' cs o x
 pY:∀ {A W cs o x n ds p s},rep A W cs o x→cs.length=n→ds.length=s→p + s≤n→p + s≤o→rep A W (cs.take p ++ ds ++ cs.drop (p + s)) o x
@[reducible] def g5 (B:Type) [ad B]:rG B where
  size:=ad.size B
  rep A W cs o x:=ad.rep A W ((cs.drop o).take (ad.size B)) x
  one h aq bm u hu:=by
   rcases A4 (s:=ad.size B) hu with J | bJ
   ·exact ad.one h u J
   ·exact JL aq bm bJ
  mono e h:=ad.mono e h
  pY h aq hd aO hp:=by rw [Dy aq hd aO (.inr hp)]; exact h
@[reducible] def c2 (B:Type) [ad B] {P:Type} (S:rG P):rG (B × P) where
  size:=ad.size B + S.size
  rep A W cs o x:=ad.rep A W ((cs.drop o).take (ad.size B)) x.1∧S.rep A W cs (o + ad.size B) x.2
  one h aq bm u hu:=by
   rcases A4 (s:=ad.size B) hu with J | bJ
   ·exact ad.one h.1 u J
   ·exact S.one h.2 aq (by omega) u bJ
  mono e h:=⟨ad.mono e h.1,S.mono e h.2⟩
  pY h aq hd aO hp:=⟨by rw [Dy aq hd aO (.inr hp)]; exact h.1,S.pY h.2 aq hd aO (by omega)⟩
@[reducible] def ad.str {T P:Type} (S:rG P) (to:T→P) (N:Nat) (j7:S.size=N:=by rfl):ad T where
  size:=N
  agg:=true
  rep A W cs x:=cs.length=N∧S.rep A W cs 0 (to x)
  len h:=h.1
  one h:=fun u hu=>S.one h.2 h.1 (by omega) u (by simpa using hu)
  flat h:=by cases h
  mono e h:=⟨h.1,S.mono e h.2⟩
structure zb {P:Type} (S:rG P) (G:Type) [ad G] where
 off:Nat
 get:P→G
 set:P→G→P
 fC:off + ad.size G≤S.size
 hI:∀ {A W cs o b},S.rep A W cs o b→ad.rep A W ((cs.drop (o + off)).take (ad.size G)) (get b)
 jO:∀ {A W cs n o b ds g},cs.length=n→o + S.size≤n→S.rep A W cs o b→ad.rep A W ds g→S.rep A W (cs.take (o + off) ++ ds ++ cs.drop (o + off + ad.size G)) o (set b g)
def hL {B:Type} [ad B]:zb (g5 B) B where
 off:=0
 get b:=b
 set _ g:=g
 fC:=by show 0 + ad.size B≤ad.size B; omega
 hI h:=h
 jO aq bm _ b0:=by
  have h:=JM aq (ad.len b0) bm
  show ad.rep _ _ ((List.drop _ _).take _) _
  rw [Nat.add_zero,h]; exact b0
def df {B:Type} [ad B] {P:Type} {S:rG P} :zb (c2 B S) B where
 off:=0
 get b:=b.1
 set b g:=(g,b.2)
 fC:=by show 0 + ad.size B≤ad.size B + S.size; omega
 hI h:=h.1
 jO {A W cs n o b ds g} aq bm h b0:=by
  have bm:o + (ad.size B + S.size)≤n:=bm
  refine⟨?_,S.pY h.2 aq (ad.len b0) (by omega) (by omega)⟩
  rw [Nat.add_zero,JM aq (ad.len b0) (by omega)]; exact b0
def bu {B:Type} [ad B] {P:Type} {S:rG P} {G:Type} [ad G] (l:zb S G):zb (c2 B S) G where
 off:=ad.size B + l.off
 get b:=l.get b.2
 set b g:=(b.1,l.set b.2 g)
 fC:=by have:=l.fC; show ad.size B + l.off + ad.size G≤ad.size B + S.size; omega
 hI h:=by rw [← Nat.add_assoc]; exact l.hI h.2
 jO {A W cs n o b ds g} aq bm h b0:=by
  have bm:o + (ad.size B + S.size)≤n:=bm
  have al:=l.fC
  have ab:=l.jO aq (by omega) h.2 b0
  rw [Nat.add_assoc o] at ab
  exact⟨by rw [Dy aq (ad.len b0) (by omega) (.inl (by omega))]; exact h.1,ab⟩
def aL.str {T P G:Type} [ad G] {S:rG P} {to:T→P} {N:Nat} (l:zb S G) (off:Nat) (get:T→G) (set:T→G→T) (j7:S.size=N:=by rfl) (bm:l.off=off:=by rfl) (J:∀ b,l.get (to b)=get b:=by intro b; rfl) (ab:∀ b g,l.set (to b) g=to (set b g):=by intro b g; rfl): @aL T G (ad.str S to N j7) _:=
 @aL.mk T G (ad.str S to N j7) _ off get set (by have:=l.fC; show off + ad.size G≤N; omega)
  (fun {A W cs b} h=>by have:=l.hI h.2; rw [Nat.zero_add,bm,J] at this; exact this)
  (fun {A W cs b ds g} h b0=>by
   have aC:=l.jO h.1 (by omega) h.2 b0
   rw [Nat.zero_add,bm,ab] at aC
   have aU:=l.fC
   exact⟨RP h.1 (ad.len b0) (by omega),aC⟩)
class a5 (α:Type) [ad α] [Inhabited α] where
 cells:List Value
 ok:∀ A W,ad.rep A W cells (default:α)
instance:a5 Bool:=⟨[.bool false],fun _ _=>rfl⟩
instance:a5 Int:=⟨[.int .i64 0],fun _ _=>rfl⟩
instance:a5 (BitVec 64):=⟨[.int .u64 0],fun _ _=>rfl⟩
instance:a5 (BitVec 32):=⟨[.int .u32 0],fun _ _=>rfl⟩
instance:a5 (BitVec 16):=⟨[.int .u16 0],fun _ _=>rfl⟩
instance:a5 (BitVec 8):=⟨[.int .u8 0],fun _ _=>rfl⟩
instance:a5 ByteArray:=⟨[.string ByteArray.empty],fun _ _=>rfl⟩
instance {α:Type} [ad α]:a5 (List α):=⟨[.slice none 0 0],fun _ _=>⟨_,rfl,.inl ⟨rfl,rfl⟩⟩⟩
theorem I8 {α:Type} [ad α] {A W} {G9:List Value} {z:α} (h:ad.rep A W G9 z):∀ n,fJ A W (List.replicate n G9).flatten (List.replicate n z)
 | 0=>⟨by simp,fun i al=>by simp at al⟩
 | n + 1=>by
   have J:=I8 h n
   have ab:fJ A W G9 [z]:=⟨by simp [ad.len h],fun i al=>by
    have:i=0:=by simpa using al
    subst this
    rw [Nat.zero_mul,List.drop_zero,← ad.len h,List.take_length]; exact h⟩
   have:=qI ab J
   simpa [List.replicate_succ] using this
instance {α:Type} [ad α] [Inhabited α] [a5 α] {n:Nat} :a5 (Vector α n):=⟨(List.replicate n (a5.cells α)).flatten,fun A W=>by
 have:=I8 (a5.ok (α:=α) A W) n
 show fJ A W _ (Vector.replicate n default).toList
 simpa using this⟩
def Fz (α:Type) [ad α] [Inhabited α] [a5 α]:Value:=if ad.agg α=true then .agg (a5.cells α).toArray else(a5.cells α).headD undef
theorem cx.of {P:Program} {t:TypeId} {α:Type} [ad α] [Inhabited α] [a5 α] (h:(P.info? t).bind (·.zero)=some (Fz α)):cx P t (default:α) where
 zero:=by
  cases al:P.info? t with
  | none=>simp [al] at h
  | some i=>
    refine⟨i,Fz α,rfl,by simpa [al] using h,fun A W=> ?_⟩
    have ok:=a5.ok (α:=α) A W
    unfold Fz
    cases bh:ad.agg α with
    | true=>simp only [if_true]; exact⟨by simp [shaped,bh],by simpa [Value.cells] using ok⟩
    | false=>
      have J:=ad.len ok
      rw [ad.flat bh] at J
      obtain⟨v,aY⟩:=List.length_eq_one_iff.1 J
      have aC:v.oneCell'=true:=ad.one ok v (by rw [aY]; simp)
      simp only [Bool.false_eq_true,if_false,aY,List.headD_cons]
      exact⟨by simp [shaped,bh,aC],by rw [nb aC]; rw [aY] at ok; exact ok⟩
theorem bt.of {P:Program} {t:TypeId} {α:Type} [ad α] {d:TypeDesc} (bh:(match d with | .struct _ | .array _ _=>true | _=>false)=ad.agg α) (hu:P.underlying t=some d) (hs:(P.info? t).map (·.size)=some (ad.size α)):bt P t α:=⟨hs,d,hu,bh⟩
theorem b8.of {P:Program} {s f o:Nat} {fW:Array Field} {fd:Field} {γ:Type} [ad γ] (hu:P.underlying s=some (.struct fW)) (a8:fW[f]? =some fd) (bm:fd.offset=o) (dN:bt P fd.type γ) (hs:Nat.beq (ad.size γ) 0=false):b8 P s f o:=by
 obtain⟨i,J,ab⟩:=dN.info
 exact⟨fW,fd,i,hu,a8,bm,J,fun h=>by rw [← ab,h] at hs; cases hs⟩
theorem pd.of {P:Program} {t n e s:Nat} {γ:Type} [ad γ] (hu:P.underlying t=some (.array n e)) (dN:bt P e γ) (hs:ad.size γ=s):pd P t n s:=by
 obtain⟨i,J,ab⟩:=dN.info
 exact⟨e,i,hu,J,by rw [ab,hs]⟩
theorem bind_some {α β:Type} {m:Option α} {f:α→Option β} {r:β} (h:m.bind f=some r):∃ y,m=some y∧f y=some r:=Option.bind_eq_some_iff.1 h
theorem ht {α:Type} {b:Bool} {p q:Option α} {r:α} (hb:b=true) (h:cond b p q=some r):p=some r:=by rw [hb] at h; exact h
theorem hv {α:Type} {b:Bool} {p q:Option α} {r:α} (hb:b=false) (h:cond b p q=some r):q=some r:=by rw [hb] at h; exact h
theorem aI {α:Type} {a b:α} (h:some a=some b):a=b:=Option.some.inj h
def dt {α:Type} [Inhabited α] (b want:Bool) (m:Option α):Option α:=if b=want then m else some default
theorem ib {α:Type} [Inhabited α] {b want:Bool} {m:Option α} {y:α} (h:dt b want m=some y) (hb:b=want):m=some y:=by unfold dt at h; rw [if_pos hb] at h; exact h
def ep:Nat:=2 ^ 80
theorem bC.nv {c E L a W} (h:bC c E L a W) (n:Nat):bC c E (L.drop n) a W:=
 h.sub (fun e he=>List.mem_of_mem_drop he) (by
   have:(aJ (L.drop n)).Sublist (aJ L):=by
    induction L generalizing n with
    | nil=>simp
    | cons x r bI=>
      cases n with
      | zero=>simp
      | succ n=>
        have aS:∀ n,(aJ (r.drop n)).Sublist (aJ r):=by
         intro n
         have key:∀ (r:List aH) n,(aJ (r.drop n)).Sublist (aJ r):=by
          intro r
          induction r with
          | nil=>intro n; simp
          | cons y r Mi=>
            intro n
            cases n with
            | zero=>simp
            | succ n=>
              simp only [List.drop_succ_cons]
              cases av:y.key with
              | none=>simpa [aJ,av] using Mi n
              | some p=>simp only [aJ,av]; exact(Mi n).cons _
         exact key r n
        simp only [List.drop_succ_cons]
        cases av:x.key with
        | none=>simpa [aJ,av] using aS n
        | some p=>simp only [aJ,av]; exact(aS n).cons _
   exact h.nodup.sublist this)
section
variable {c:cU} {E:List (Nat × I)} {L:List aH} {ops:Array Oper} {Q:Exit→Act→World→Prop}
theorem ai.dt {γ:Type} {x:Operand} {b:Bool} {y z:Code} (E':γ→List (Nat × I)) (ay:γ→List aH) (aq:ba c E L x (.of b)) (rS:∀ g,ag c Q .normal (E' g) (ay g))
 (b9:(∀ g,ag c Q .normal (E' g) (ay g))→b=true→ai c Q y E L) (a8:(∀ g,ag c Q .normal (E' g) (ay g))→b=false→ai c Q z E L):ai c Q (.cond x y z) E L:=
 ai.cond aq (b9 rS) (a8 rS)
theorem ag.meet {x:Exit} {E':List (Nat × I)} {ay:List aH} (n:Nat) (au:L.drop n=ay) (h:gP E E') (k:ag c Q x E' ay):ag c Q x E L:=fun a W s=>k a W (by rw [← au]; exact(s.nv n).less h.look)
def vG {σ ε γ δ:Type} (c:cU) (E:σ→γ→List (Nat × I)) (L:σ→γ→List aH) (xs:ε→Exit) (fc:ε→δ→List (Nat × I)) (Lx:ε→δ→List aH):σ ⊕ ε→Exit→Act→World→Prop
 | .inl s,x,a,W=>x= .normal∧ ∃ g,bC c (E s g) (L s g) a W
 | .inr e,x,a,W=>x≠ .normal∧x=xs e∧ ∃ g,bC c (fc e g) (Lx e g) a W
theorem ag.RQ {σ ε γ δ:Type} {E':σ→γ→List (Nat × I)} {ay:σ→γ→List aH} {xs:ε→Exit} {fc:ε→δ→List (Nat × I)} {Lx:ε→δ→List aH} {s:σ} (g:γ) (n:Nat)
 (au:L.drop n=ay s g) (h:gP E (E' s g)):ag c (vG c E' ay xs fc Lx (.inl s)) .normal E L:=fun a W st=>⟨rfl,g,by rw [← au]; exact(st.nv n).less h.look⟩
theorem ag.RR {σ ε γ δ:Type} {E':σ→γ→List (Nat × I)} {ay:σ→γ→List aH} {xs:ε→Exit} {fc:ε→δ→List (Nat × I)} {Lx:ε→δ→List aH} {e:ε} {x:Exit} (g:δ) (n:Nat)
 (an:x=xs e) (aO:x≠ .normal) (au:L.drop n=Lx e g) (h:gP E (fc e g)):ag c (vG c E' ay xs fc Lx (.inr e)) x E L:=fun a W st=>⟨aO,an,g,by rw [← au]; exact(st.nv n).less h.look⟩
theorem ai.uY {σ ε γ δ:Type} {body:Code} {N:Nat} {b:σ→Option (σ ⊕ ε)} {b2:σ} {e:ε} (aq:ej N b b2=some e)
 (E':σ→γ→List (Nat × I)) (ay:σ→γ→List aH) (xs:ε→Exit) (fc:ε→δ→List (Nat × I)) (Lx:ε→δ→List aH) (g0:γ) (au:L=ay b2 g0) (aK:gP E (E' b2 g0))
 (pU:∀ s r,b s=some r→ ∀ g,ai c (vG c E' ay xs fc Lx r) body (E' s g) (ay s g))
 (mG:∀ g,ag c Q (xs e) (fc e g) (Lx e g)):ai c Q (.loop body) E L:=fun a W st=>by
 subst au
 exact IL b (fun s a W=> ∃ g,bC c (E' s g) (ay s g) a W) (fun e x a W=>x=xs e∧ ∃ g,bC c (fc e g) (Lx e g) a W)
  (fun s r hs a W ⟨g,jG⟩=>wpIn_mono (pU s r hs g a W jG) (fun x a W h=>by
   cases r with
   | inl bV=>exact h
   | inr e'=>exact⟨h.1,h.2⟩)) Q e (fun x a W ⟨an,g,hs⟩=>by subst an; exact mG g a W hs) aq ⟨g0,st.less aK.look⟩
end
end Gv
namespace Gv
open Go
set_option linter.unusedVariables false
set_option linter.unusedSimpArgs false
theorem bX.as {c E L o} {α:Type} [ad α] {a b:α} (h:bX c E L o (.of a)) (e:a=b):bX c E L o (.of b):=by subst e; exact h
def I.n9 {α β:Type} [ad α] [ad β] (P:Program) (F:α→Option β):I where
 holds A W v:= ∃ f fst cap,v= .func (.func f) fst cap∧bQ P f∧ ∀ cH W',Ext A W cH W'→ (∀ k∈cH,k < W'.heap.size)→ ∀ x r m0,F x=some r→ (I.of x).holds cH W' m0→
  Calls P f (fst ++ #[m0] ++ cap) W' fun e zc=> ∃ v,e= .returned v∧Fr [] W' zc∧ (I.of r).holds cH zc v
 mono e h:=let⟨f,fst,cap,J,ab,aC⟩:=h; ⟨f,fst,cap,J,ab,fun cH W' e'=>aC cH W' (e.trans e')⟩
def I.vx {α β γ:Type} [ad α] [ad β] [ad γ] (P:Program) (F:α→β→Option γ):I where
 holds A W v:= ∃ f fst cap,v= .func (.func f) fst cap∧bQ P f∧ ∀ cH W',Ext A W cH W'→ (∀ k∈cH,k < W'.heap.size)→ ∀ x y r m0 vN,F x y=some r→ (I.of x).holds cH W' m0→ (I.of y).holds cH W' vN→
  Calls P f (fst ++ #[m0,vN] ++ cap) W' fun e zc=> ∃ v,e= .returned v∧Fr [] W' zc∧ (I.of r).holds cH zc v
 mono e h:=let⟨f,fst,cap,J,ab,aC⟩:=h; ⟨f,fst,cap,J,ab,fun cH W' e'=>aC cH W' (e.trans e')⟩
section
variable {c:cU} {E:List (Nat × I)} {L:List aH} {d:Option Tmp} {ty:TypeId} {pos:String} {af:Array Edge} {g:Option (Nat × Bool)}
theorem I5 {α β:Type} [ad α] [ad β] {F:α→Option β} {f:FuncId} (dO:bQ c.P f) (h:∀ x r,F x=some r→bx c.P f [.of x] (.of r)):ba c E L (.func f) (.n9 c.P F):=fun a W s=>
 ⟨f,#[],#[],rfl,dO,fun cH W' _ fE x r m0 m1 an=>by simpa using h x r m1 cH W' [m0] fE (.cons an .nil)⟩
theorem xf {α β γ:Type} [ad α] [ad β] [ad γ] {F:α→β→Option γ} {f:FuncId} (dO:bQ c.P f) (h:∀ x y r,F x y=some r→bx c.P f [.of x,.of y] (.of r)):ba c E L (.func f) (.vx c.P F):=fun a W s=>
 ⟨f,#[],#[],rfl,dO,fun cH W' _ fE x y r m0 vN m1 an a9=>by simpa using h x y r m1 cH W' [m0,vN] fE (.cons an (.cons a9 .nil))⟩
theorem ux {α β:Type} [ad α] [ad β] {F:α→Option β} {ow x:Operand} {ats:Array TypeId} {zJ:α} {r:β} (a8:ba c E L ow (.n9 c.P F)) (an:ba c E L x (.of zJ)) (h:F zJ=some r):
 bX c E L ⟨d,.call ⟨.value ow,#[x],ats⟩,ty,pos,af,g⟩ (.of r):=fun a W s=>by
 obtain⟨f,fst,cap,J,dO,ab⟩:=a8 a W s
 refine .sh (f:=f) (args:=fst ++ #[a.eval x] ++ cap) (W':=W) ?_ (ab _ W (Ext.refl _ _) s.Bd _ _ _ h (an a W s))
 simp [execOp,resolve,Deferred.ofValue,J,invoke,dO.run]
theorem Dv {α β γ:Type} [ad α] [ad β] [ad γ] {F:α→β→Option γ} {ow x y:Operand} {ats:Array TypeId} {zJ:α} {MV:β} {r:γ} (a8:ba c E L ow (.vx c.P F)) (an:ba c E L x (.of zJ)) (a9:ba c E L y (.of MV)) (h:F zJ MV=some r):
 bX c E L ⟨d,.call ⟨.value ow,#[x,y],ats⟩,ty,pos,af,g⟩ (.of r):=fun a W s=>by
 obtain⟨f,fst,cap,J,dO,ab⟩:=a8 a W s
 refine .sh (f:=f) (args:=fst ++ #[a.eval x,a.eval y] ++ cap) (W':=W) ?_ (ab _ W (Ext.refl _ _) s.Bd _ _ _ _ _ h (an a W s) (a9 a W s))
 simp [execOp,resolve,Deferred.ofValue,J,invoke,dO.run]
end
end Gv
namespace Gv
open Go Go.ChangeShapes Go.WideShapes Go.RowKit
set_option linter.unusedVariables false
structure Arg (P:Program) (t:TypeId) (α:Type) [ad α]:Prop where
 cells:P.cellsOf t=ad.size α
 read:∀ {H:Type} {enc:TypeId × Value→H} {W:World} {n:Nat} {cs:List Value} {x:DataW H × List MemPlace},DataW.trod enc P W 0 (fun _=>true) true n t cs=some x→ ∃ a:α,ad.rep [] W cs a
 form:∀ {W:World} {b:Nat} {v:Value},Value.okWide P W .any b t v→shaped (ad.agg α) v
variable {P:Program} {t e:TypeId}
theorem PO (hu:P.underlying t=some .bool) {H:Type} {enc:TypeId × Value→H} {W:World} {n:Nat} {cs:List Value} {x:DataW H × List MemPlace} (h:DataW.trod enc P W 0 (fun _=>true) true n t cs=some x):
 ∃ b:Bool,cs= [.bool b]:=by
 cases n with
 | zero=>simp [DataW.trod] at h
 | succ n=>
   unfold DataW.trod at h
   rw [hu] at h
   split at h <;> first | exact⟨_,rfl⟩ | (simp at h)
   all_goals simp_all
theorem Arg.bool (hu:P.underlying t=some .bool) (ar:P.cellsOf t=1):Arg P t Bool where
 cells:=ar
 read {H enc W n cs x} h:=by
  obtain⟨b,rfl⟩:=PO hu h
  exact⟨b,rfl⟩
 form {W b v} h:=by
  unfold Value.okWide Cell.okWide at h
  simp only [hu] at h
  unfold Cell.ok at h
  rw [hu] at h
  cases v <;> first | rfl | simp at h
theorem xh {k:IntKind} (hu:P.underlying t=some (.int k)) {H:Type} {enc:TypeId × Value→H} {W:World} {n:Nat} {cs:List Value} {x:DataW H × List MemPlace} (h:DataW.trod enc P W 0 (fun _=>true) true n t cs=some x):
 ∃ z:Int,cs= [.int k z]∧k.min≤z∧z≤k.max:=by
 cases n with
 | zero=>simp [DataW.trod] at h
 | succ n=>
   unfold DataW.trod at h
   rw [hu] at h
   split at h <;> simp_all [Lit.wf]
theorem xi {k:IntKind} (hu:P.underlying t=some (.int k)) {W:World} {b:Nat} {v:Value} (h:Value.okWide P W .any b t v):v.oneCell'=true:=by
 unfold Value.okWide Cell.okWide at h
 simp only [hu] at h
 unfold Cell.ok at h
 rw [hu] at h
 cases v <;> first | rfl | simp at h
theorem Arg.int (hu:P.underlying t=some (.int .i64)) (ar:P.cellsOf t=1):Arg P t Int where
 cells:=ar
 read h:=by obtain⟨z,rfl,_⟩:=xh hu h; exact⟨z,rfl⟩
 form h:=xi hu h
theorem Arg.u64 (hu:P.underlying t=some (.int .u64)) (ar:P.cellsOf t=1):Arg P t (BitVec 64) where
 cells:=ar
 read h:=by
  obtain⟨z,rfl,J,ab⟩:=xh hu h
  simp [IntKind.min,IntKind.max,IntKind.signed,IntKind.bits] at J ab
  exact⟨BitVec.ofInt 64 z,by show [_]= [_]; simp; omega⟩
 form h:=xi hu h
theorem Arg.u32 (hu:P.underlying t=some (.int .u32)) (ar:P.cellsOf t=1):Arg P t (BitVec 32) where
 cells:=ar
 read h:=by
  obtain⟨z,rfl,J,ab⟩:=xh hu h
  simp [IntKind.min,IntKind.max,IntKind.signed,IntKind.bits] at J ab
  exact⟨BitVec.ofInt 32 z,by show [_]= [_]; simp; omega⟩
 form h:=xi hu h
theorem Arg.u16 (hu:P.underlying t=some (.int .u16)) (ar:P.cellsOf t=1):Arg P t (BitVec 16) where
 cells:=ar
 read h:=by
  obtain⟨z,rfl,J,ab⟩:=xh hu h
  simp [IntKind.min,IntKind.max,IntKind.signed,IntKind.bits] at J ab
  exact⟨BitVec.ofInt 16 z,by show [_]= [_]; simp; omega⟩
 form h:=xi hu h
theorem Arg.u8 (hu:P.underlying t=some (.int .u8)) (ar:P.cellsOf t=1):Arg P t (BitVec 8) where
 cells:=ar
 read h:=by
  obtain⟨z,rfl,J,ab⟩:=xh hu h
  simp [IntKind.min,IntKind.max,IntKind.signed,IntKind.bits] at J ab
  exact⟨BitVec.ofInt 8 z,by show [_]= [_]; simp; omega⟩
 form h:=xi hu h
theorem Qj (hs:(∃ fW,P.underlying t=some (.struct fW))∨ (∃ n e,P.underlying t=some (.array n e))) {W:World} {b:Nat} {v:Value} (h:Value.okWide P W .any b t v):shaped true v:=by
 unfold Value.okWide at h
 rcases hs with⟨fW,hu⟩ | ⟨n,e,hu⟩ <;> rw [hu] at h <;> exact⟨h.choose,h.choose_spec.1⟩
theorem Arg.arr {α:Type} [ad α] [Inhabited α] {n:Nat} (hu:P.underlying t=some (.array n e)) (he:Arg P e α) (ar:P.cellsOf t=n * ad.size α):Arg P t (Vector α n) where
 cells:=ar
 read {H enc W m cs x} h:=by
  obtain⟨xs,q,_,_,aq,hlen,a8⟩:=DataW.trod_array hu h
  have aS:∀ i,i < n→ ∃ a:α,ad.rep [] W ((cs.drop (i * ad.size α)).take (ad.size α)) a:=by
   intro i al
   have J:=a8 i al
   rw [List.getElem?_eq_getElem (by omega)] at J
   rw [← he.cells]
   exact he.read J
  refine⟨Vector.ofFn fun i=>(aS i.1 i.2).choose,by rw [aq,ar]; simp,fun i al=> ?_⟩
  have iD:i < n:=by simpa using al
  have:=(aS i iD).choose_spec
  simpa using this
 form h:=Qj (.inr ⟨_,_,hu⟩) h
theorem IQ {H:Type} {enc:TypeId × Value→H} {W W':World} (aq:laidOutB P=true) {sp:Nat→Bool} :∀ {gE:List TypeId} {vs:List Value} {ds:List (DataW H)} {bl:List MemPlace},
 (∀ t∈gE,P.readableRec t=true∧t < P.types.size)→DataW.TrodAll enc P W 0 (fun _=>true) true gE vs ds bl→ (∀ p∈bl,W.sameAt W' p)→ (∀ p∈bl,sp p.block=true)→DataW.TrodAll enc P W' 0 sp true gE vs ds bl
 | [],_,_,_,_,h,_,_=>by
   obtain⟨rfl,rfl,rfl⟩:=trodAll_nil h
   exact rfl
 | _ :: _,_,_,_,b9,h,hs,hp=>by
   obtain⟨v,F8,d,F9,p,q,rfl,rfl,rfl,J,ab⟩:=trodAll_cons h
   have bJ:=b9 _ (List.mem_cons_self ..)
   exact⟨p,q,WideElems.Trod_stays aq bJ.1 bJ.2 J (fun x an=>hs x (by simp [an])) (fun x an=>hp x (by simp [an])),
    IQ aq (fun t y4=>b9 t (List.mem_cons_of_mem _ y4)) ab (fun x an=>hs x (by simp [an])) (fun x an=>hp x (by simp [an])),rfl⟩
theorem Fr.below {W W':World} (h:Fr [] W W'):Below W.heap.size W W':=⟨h.os,h.tape,h.output,h.size,fun k av=>h.block k av (by simp)⟩
theorem Qk {H:Type} {enc:TypeId × Value→H} {f:Func} {s:ChangeSpec} {W W':World} {args:Array Value} {ds gs:List (DataW H)} {before:List MemPlace} {e0:TypeId}
 (aq:laidOutB P=true) (hp:∀ t∈f.params.toList,P.readableRec t=true∧t < P.types.size) (aS:f.resultTypes= #[e0]) (hb:P.underlying e0=some .bool) (aY:s.vars= [])
 (hs:s.fn H ds= { results:= [.lit (.bool true)],args:=ds })
 (vO:DataW.Whole enc P f.params.toList s.vars false W args.toList ds gs before) (m1:Fr [] W W'):
 s.post enc P f false true false false W args (.bool true) W':=by
 have VF:=vO
 obtain⟨p,q,fE,Ha,rfl,dR,aO⟩:=VF
 rw [aY] at Ha
 obtain⟨rfl,rfl⟩:=trodVars_none Ha
 have cq:∀ x∈p,x.block < W.heap.size:=fun x an=>vO.lt x (by simpa using an)
 have zd:=m1.below
 have TE:∀ x∈p,W.sameAt W' x:=fun x an=>zd.same (cq x an)
 have UU:∀ (b:Nat) (sp:Nat→Bool) (hd:Bool),DataW.TrodAll enc P W' b sp hd f.resultTypes.toList ((Value.bool true).resultList f.resultTypes.size) [.lit (.bool true)] []:=by
  intro b sp hd
  rw [aS]
  exact⟨[],[],shut_bool hb true,rfl,rfl⟩
 refine⟨ds,[],p ++ [],[],p,[],vO,?_,?_,?_,World.keptBut_mono (fun x an=> ?_) (zd.frame fun _=>False),fun h=>by cases h⟩
 ·rw [List.append_nil,hs]; exact UU _ _ _
 ·rw [List.append_nil,hs]; exact IQ aq hp fE TE (fun x an=>by simpa using cq x an)
 ·rw [List.append_nil,hs,aY]; rfl
 ·exact an.elim
end Gv
namespace Gv
open Go Go.ChangeShapes Go.WideShapes Go.RowKit
set_option linter.unusedVariables false
set_option linter.unusedSimpArgs false
theorem Ql {P:Program} {fits:TypeId→Bool} {d:Nat} {e:TypeId} {count off n:Nat} (h:rowAt P fits d e count off n=true):off≤count * P.cellsOf e:=by
 cases d with
 | zero=>cases h
 | succ d=>
   unfold rowAt at h
   simp only at h
   split at h
   ·cases h
   ·rename_i hs
    have hp:0 < P.cellsOf e:=Nat.pos_of_ne_zero hs
    have Xe:=Nat.div_add_mod off (P.cellsOf e)
    rw [Bool.or_eq_true] at h
    rcases h with h | h
    ·simp only [Bool.and_eq_true,beq_iff_eq,decide_eq_true_eq] at h
     have:P.cellsOf e * (off / P.cellsOf e)≤P.cellsOf e * count:=Nat.mul_le_mul_left _ (by omega)
     rw [Nat.mul_comm count]; omega
    ·simp only [Bool.and_eq_true,decide_eq_true_eq] at h
     have hm:=Nat.mod_lt off hp
     have:P.cellsOf e * (off / P.cellsOf e + 1)≤P.cellsOf e * count:=Nat.mul_le_mul_left _ (by omega)
     rw [Nat.mul_add] at this
     rw [Nat.mul_comm count]; omega
theorem IS {P:Program} :∀ {d:Nat} {e:TypeId} {count off:Nat} {u:TypeId} {n:Nat},liesAt P d e count off u n=true→off≤count * P.cellsOf e
 | 0,_,_,_,_,_,h=>by cases h
 | d + 1,e,count,off,u,n,h=>by
   unfold liesAt at h
   rw [Bool.or_eq_true] at h
   rcases h with h | h
   ·exact Ql h
   ·split at h
    ·exact IS h
    ·cases h
structure rn (P:Program) (t:TypeId) (α:Type) [ad α]:Prop where
 top:∀ {H:Type} {enc:TypeId × Value→H} {W:World} {n b:Nat} {v:Value} {x:DataW H × List MemPlace},DataW.trod enc P W 0 (fun _=>true) true n t v.cells.toList=some x→Value.okWide P W .any b t v→ ∃ a:α,(I.of a).holds [] W v
variable {P:Program} {t e:TypeId}
theorem rn.of {α:Type} [ad α] (h:Arg P t α):rn P t α where
 top J ab:=let⟨a,aC⟩:=h.read J; ⟨a,h.form ab,aC⟩
theorem Qm {α:Type} [ad α] (hu:P.underlying t=some (.slice e)) (he:Arg P e α) (dR:Nat.beq (ad.size α) 0=false) {H:Type} {enc:TypeId × Value→H} {W:World} {n b:Nat} {v:Value} {x:DataW H × List MemPlace}
 (h:DataW.trod enc P W 0 (fun _=>true) true n t [v]=some x) (hC:Cell.okWide P W .any b t v):∃ a:List α,(I.of a).holds [] W v:=by
 have im:ad.size α≠0:=fun h=>by rw [h] at dR; cases dR
 rcases DataW.trod_slice hu h with⟨J,_⟩ | ⟨a,len,cap,elems,rest,m,_,J,_,_,Xf,nE,Xg,UW,W1,_⟩
 ·have:=List.singleton_inj.1 J
  subst this
  exact⟨[],ln.2 (.inl ⟨rfl,rfl⟩)⟩
 ·have:=List.singleton_inj.1 J
  subst this
  unfold Cell.okWide at hC
  simp only [hu] at hC
  unfold Cell.ok at hC
  rw [hu] at hC
  obtain⟨_,_,_,Ld,row,cells,vH,UX⟩:=hC
  obtain⟨MW,qt,Xh⟩:=a
  simp only at Ld
  subst Ld
  unfold World.shape? at vH
  cases dV:W.heap[MW]? with
  | none=>rw [dV] at vH; cases vH
  | some iI=>
    rw [dV] at vH
    cases iI <;> simp at vH
    rename_i rH T g9
    obtain⟨MX,en⟩:=vH
    have W5:qt≤rH.size:=by
     have aZ:qt≤_:=IS UX
     have bn:=Nat.div_mul_le_self cells (P.cellsOf row)
     omega
    have TF:=he.cells
    have ff:∀ i,i < len→ ∃ a:α,ad.rep [] W ((rH.toList.drop (qt + i * ad.size α)).take (ad.size α)) a∧qt + (i + 1) * ad.size α≤rH.size:=fun i al=>by
     have aZ:=UW i al
     rw [List.getElem?_eq_getElem (by omega)] at aZ
     obtain⟨dk,bn,cE⟩:=Option.bind_eq_some_iff.1 aZ
     obtain⟨_,aq,ar⟩:=World.cells?_some bn
     rw [TF] at aq ar bn
     have sI:∀ j,j < ad.size α→rH[qt + i * ad.size α + j]? =dk[j]? :=fun j aF=>by
      rw [← ar j aF,iw,iw]
      unfold World.cell?
      simp [dV]
     have heq:(rH.toList.drop (qt + i * ad.size α)).take (ad.size α)=dk:=by
      apply List.ext_getElem?
      intro j
      rw [List.getElem?_take]
      by_cases aF:j < ad.size α
      ·rw [if_pos aF,List.getElem?_drop,Array.getElem?_toList]; exact sI j aF
      ·rw [if_neg aF]; symm; exact List.getElem?_eq_none (by omega)
     obtain⟨a,bh⟩:=he.read cE
     refine⟨a,by rw [heq]; exact bh,?_⟩
     have dW:=sI (ad.size α - 1) (by omega)
     rw [List.getElem?_eq_getElem (show ad.size α - 1 < dk.length by omega)] at dW
     have:=(Array.getElem?_eq_some_iff.1 dW).1
     rw [Nat.add_mul]; omega
    have hex:∃ xs:List α,xs.length=len∧ ∀ i (h:i < xs.length),ad.rep [] W ((rH.toList.drop (qt + i * ad.size α)).take (ad.size α)) xs[i]:=by
     refine⟨List.ofFn fun i:Fin len=>(ff i.1 i.2).choose,by simp,fun i al=> ?_⟩
     have iD:i < len:=by simpa using al
     rw [List.getElem_ofFn]
     exact(ff i iD).choose_spec.1
    obtain⟨xs,y9,Ga⟩:=hex
    have hbound:qt + xs.length * ad.size α≤rH.size:=by
     rw [y9]
     rcases Nat.eq_zero_or_pos len with bJ | bJ
     ·rw [bJ]; omega
     ·have:=(ff (len - 1) (by omega)).choose_spec.2
      rw [show len - 1 + 1=len by omega] at this
      exact this
    refine⟨xs,ln.2 (.inr ⟨MW,qt,cap,rH,T,g9,by rw [y9],by simp,dV,by omega,by omega,hbound,?_,fun i al=> ?_⟩)⟩
    ·rw [List.length_take,List.length_drop]; simp; omega
    ·have hle:(i + 1) * ad.size α≤xs.length * ad.size α:=Nat.mul_le_mul_right _ al
     rw [Nat.succ_mul] at hle
     rw [r9 _ _ _ _ _ hle]
     exact Ga i al
theorem rn.VG {α:Type} [ad α] (hu:P.underlying t=some (.slice e)) (he:Arg P e α) (dR:Nat.beq (ad.size α) 0=false):rn P t (List α) where
 top {H enc W n b v x} h hC:=by
  have vq:Cell.okWide P W .any b t v:=by
   unfold Value.okWide at hC
   simp only [hu] at hC
   exact hC
  have FA:v.oneCell'=true:=by
   unfold Cell.okWide at vq
   simp only [hu] at vq
   unfold Cell.ok at vq
   rw [hu] at vq
   cases v <;> first | rfl | simp at vq
  rw [nb FA] at h
  exact Qm hu he dR h vq
theorem Di {H:Type} {enc:TypeId × Value→H} {W:World} {gE:List TypeId} {vs:List Value} {ds:List (DataW H)} {bl:List MemPlace} {α:Type} [ad α] {b:Nat} (bh:rn P t α)
 (h:DataW.TrodAll enc P W 0 (fun _=>true) true (t :: gE) vs ds bl) (hC:∀ (j:Nat) u v,(t :: gE)[j]? =some u→vs[j]? =some v→Value.okWide P W .any b u v):
 ∃ (a:α) (v:Value) (Gb:List Value) (Mj:List (DataW H)) (lI:List MemPlace) (d:DataW H),vs=v :: Gb∧ds=d :: Mj∧ (I.of a).holds [] W v∧DataW.TrodAll enc P W 0 (fun _=>true) true gE Gb Mj lI∧
   (∀ (j:Nat) u w,gE[j]? =some u→Gb[j]? =some w→Value.okWide P W .any b u w):=by
 obtain⟨v,F8,d,F9,p,q,rfl,rfl,rfl,⟨n,J⟩,ab⟩:=trodAll_cons h
 obtain⟨a,aC⟩:=bh.top J (hC 0 t v rfl rfl)
 exact⟨a,v,F8,F9,q,d,rfl,rfl,aC,ab,fun j u w aF hw=>hC (j + 1) u w (by simpa using aF) (by simpa using hw)⟩
end Gv
namespace Gv
open Go
set_option linter.unusedVariables false
set_option linter.unusedSimpArgs false
theorem Pn {ay L:List aH} (h:ay.Sublist L):(aJ ay).Sublist (aJ L):=by
 induction h with
 | slnil=>simp [aJ]
 | cons e _ bI=>cases av:e.key <;> simp only [aJ,av] <;> first | exact bI | exact bI.cons _
 | cons_cons e _ bI=>cases av:e.key <;> simp only [aJ,av] <;> first | exact bI | exact bI.cons_cons _
theorem aH.qX {e:aH} {A cH W W'} (h:e.ok A W) (x:Ext A W cH W') (hb:∀ p,e.key=some p→W'.heap[p]? =W.heap[p]?):e.ok cH W':=by
 unfold aH.ok at *
 cases av:e.key with
 | none=>rw [av] at h; exact h
 | some p=>
   rw [av] at h
   obtain⟨o,J,ab⟩:=h
   exact⟨o,by rw [hb p av]; exact J,dn.mono _ x ab⟩
def ja (X bP:List Nat) (hY:World) {δ:Type} (ρ:δ→I) (Lo:δ→List aH):Ending→World→Prop:=fun e W'=>
 ∃ v d,e= .returned v∧Fr X hY W'∧ (aJ (Lo d)).Nodup∧ (∀ k∈aJ (Lo d),k < W'.heap.size∧ (k < hY.heap.size→k∈X)∧k ∉ bP)∧ (∀ e∈Lo d,e.ok (aJ (Lo d) ++ bP) W')∧ (ρ d).holds (aJ (Lo d) ++ bP) W' v
def cz (P:Program) (f:FuncId) (τs:List I) (Lin:List aH) {δ:Type} (ρ:δ→I) (Lo:δ→List aH):Prop:=
 ∀ (A:List Nat) (W:World) (vs:List Value),(∀ k∈A,k < W.heap.size∧k ∉ aJ Lin)→ (aJ Lin).Nodup→ (∀ k∈aJ Lin,k < W.heap.size)→ (∀ e∈Lin,e.ok (aJ Lin ++ A) W)→gl (aJ Lin ++ A) W τs vs→
   Calls P f vs.toArray W (ja (aJ Lin) A W ρ Lo)
theorem cz.of {P:Program} {f:FuncId} {fn:Func} {code:Code} {n:Nat} {τs:List I} {Lin:List aH} {δ:Type} {ρ:δ→I} {Lo:δ→List aH} (a8:P.funcs[f]? =some fn) (hb:fn.body=some code) (aO:fn.ntmps=n) (hlen:Nat.ble τs.length n=true)
 (h:∀ W A,ai ⟨P,n,W,aJ Lin,A,none,[]⟩ (bodyPost P fn (ja (aJ Lin) A W ρ Lo)) code (params 0 τs) Lin):cz P f τs Lin ρ Lo:=by
 intro A W vs fE h8 cq hC aY
 refine calls_of_wp a8 hb (wpIn_wide.1 (h W A _ _ ?_))
 have aq:=aY.length
 have hle:τs.length≤n:=Nat.le_of_ble_eq_true hlen
 exact
 {defers:=rfl
  size:=by simp [aO,aq]; omega
  env:=fun t τ ko=>by
   obtain⟨_,v,ab,aC⟩:=sc aY 0 t τ ko
   refine⟨v,?_,aC⟩
   have cq:t < vs.length:=(List.getElem?_eq_some_iff.1 ab).1
   rw [Array.getElem?_append_left (by simpa using cq)]
   simpa using ab
  dd:= .refl _ _
  own:=hC
  nodup:=h8
  lt:=cq
  fs:=fun k av _=>av
  er:=fE }
section
variable {c:cU} {E:List (Nat × I)} {L:List aH} {ops:Array Oper} {Q:Exit→Act→World→Prop}
variable {d:Option Tmp} {ty:TypeId} {pos:String} {af:Array Edge} {g:Option (Nat × Bool)} {x y:Operand} {t t2:TypeId}
def ze (c:cU) (E:List (Nat × I)) (L:List aH) (r:ResultVar) (τ:I):Prop:=
 ∀ a W,bC c E L a W→ ∃ v,(sw a.tmps r).run c.P W= .ok v W∧τ.holds (aJ L ++ c.bP) W v
theorem fP {t:Nat} {τ:I} (h:look E t=some τ):ze c E L (.tmp t) τ:=fun a W s=>by
 obtain⟨v,J,ab⟩:=s.env t τ h
 exact⟨v,by simp [sw,J],ab⟩
theorem nq {t:Nat} {ty:TypeId} {i p:Nat} {α:Type} [ad α] {x:α} (dN:bt c.P ty α) (h:look E t=some (.eq (.pointer (some ⟨p,0,none⟩)))) (au:L[i]? =some ⟨some p,.var x⟩):ze c E L (.cell t ty) (.of x):=fun a W s=>by
 obtain⟨v,J,ab⟩:=s.env t _ h
 subst ab
 obtain⟨iI,dV,cs,T,rfl,ff⟩:=s.own _ (List.mem_of_getElem? au)
 have aq:cs.toList.length=ad.size α:=ad.len ff
 have en:cs.size=ad.size α:=by simpa using aq
 obtain⟨v,aC,aU⟩:=r5 (A:=aJ L ++ c.bP) (off:=0) dN dV (by omega) (by rw [List.drop_zero,← aq,List.take_length]; exact ff)
 exact⟨v,by simp [sw,J,asAddr,aC],aU⟩
theorem bC.ends {a:Act} {W:World} (s:bC c E L a W) {δ:Type} {ρ:δ→I} {Lo:δ→List aH} (a6:δ) (hs:(Lo a6).Sublist L) {v:Value} (aY:(ρ a6).holds (aJ L ++ c.bP) W v):ja c.X c.bP c.hY ρ Lo (.returned v) W:=by
 have kH:=Pn hs
 have av:∀ k∈aJ (Lo a6),k∈aJ L:=fun k av=>kH.subset av
 have gn:Ext (aJ L ++ c.bP) W (aJ (Lo a6) ++ c.bP) W:= .drop fun k hm=>by
  rcases List.mem_append.1 hm with hm | hm
  ·exact List.mem_append.2 (.inl (av k hm))
  ·exact List.mem_append.2 (.inr hm)
 exact⟨v,a6,rfl,s.dd,s.nodup.sublist kH,fun k hm=>⟨s.lt k (av k hm),s.fs k (av k hm),fun bh=>(s.er k bh).2 (av k hm)⟩,
  fun e he=>aH.qX (s.own e (hs.subset he)) gn fun _ _=>rfl,I.mono _ gn aY⟩
theorem ag.gR {fn:Func} {r:ResultVar} {τ:I} {δ:Type} {ρ:δ→I} {Lo:δ→List aH} (a6:δ) (hs:(Lo a6).Sublist L) (aS:fn.results= #[r]) (th:ρ a6=τ) (h:ze c E L r τ) (hA:c.ds= []:=by rfl):ag c (bodyPost c.P fn (ja c.X c.bP c.hY ρ Lo)) .ret E L:=fun a W s=>by
 subst th
 obtain⟨v,J,ab⟩:=h a W s
 exact⟨s.uz hA,v,by simp [uu,aS,J],s.ends a6 hs ab⟩
theorem ag.pM {fn:Func} {r iV:ResultVar} {τ oh:I} {δ:Type} {ρ:δ→I} {Lo:δ→List aH} (a6:δ) (hs:(Lo a6).Sublist L) (aS:fn.results= #[r,iV]) (th:ρ a6= .cF [τ,oh]) (h:ze c E L r τ) (ab:ze c E L iV oh) (hA:c.ds= []:=by rfl):ag c (bodyPost c.P fn (ja c.X c.bP c.hY ρ Lo)) .ret E L:=fun a W s=>by
 obtain⟨v,aC,aU⟩:=h a W s
 obtain⟨v2,aZ,bn⟩:=ab a W s
 exact⟨s.uz hA,.tuple #[v,v2],by simp [uu,aS,aC,aZ],s.ends a6 hs (by rw [th]; exact⟨_,rfl,.cons aU (.cons bn .nil)⟩)⟩
theorem qJ:∀ {L:List aH} {i:Nat} {e:aH},L[i]? =some e→L.Perm (e :: L.eraseIdx i)
 | [],i,e,h=>by simp at h
 | x :: r,0,e,h=>by simp only [List.getElem?_cons_zero,Option.some.injEq] at h; subst h; exact .refl _
 | x :: r,i + 1,e,h=>by
   simp only [List.getElem?_cons_succ] at h
   exact((qJ h).cons x).trans (.swap e x _)
theorem bC.b6 {a:Act} {W:World} (s:bC c E L a W) {i:Nat} {e:aH} (h:L[i]? =some e):bC c E (e :: L.eraseIdx i) a W:=s.perm (qJ h)
theorem ah.b6 {l:List Oper} (i:Nat) {e:aH} (h:L[i]? =some e) (k:ah c ops Q l E (e :: L.eraseIdx i)):ah c ops Q l E L:=fun a W s=>k a W (s.b6 h)
theorem ag.b6 {z:Exit} (i:Nat) {e:aH} (h:L[i]? =some e) (k:ag c Q z E (e :: L.eraseIdx i)):ag c Q z E L:=fun a W s=>k a W (s.b6 h)
theorem bC.after {a:Act} {W W':World} {Lin Lr:List aH} (s:bC c E (Lin ++ Lr) a W) {Lo:List aH} (a8:Fr (aJ Lin) W W') (h8:(aJ Lo).Nodup)
 (av:∀ k∈aJ Lo,k < W'.heap.size∧ (k < W.heap.size→k∈aJ Lin)∧k ∉ aJ Lr ++ c.bP) (hC:∀ e∈Lo,e.ok (aJ Lo ++ (aJ Lr ++ c.bP)) W'):bC c E (Lo ++ Lr) a W':=by
 have gn:Ext (aJ (Lin ++ Lr) ++ c.bP) W (aJ (Lo ++ Lr) ++ c.bP) W':=
  ⟨a8.size,fun k cq bh=>a8.block k cq fun hm=>bh (by rw [eA]; simp [hm]),fun k hm cq=>by
   rw [eA] at hm ⊢
   simp only [List.mem_append] at hm ⊢
   rcases hm with(hm | hm) | hm
   ·exact .inl (.inl ((av k hm).2.1 cq))
   ·exact .inl (.inr hm)
   ·exact .inr hm⟩
 have kI:=s.nodup
 rw [eA] at kI
 obtain⟨lJ,o6,oj⟩:=List.nodup_append.1 kI
 have Mk:∀ k∈aJ Lr,k < W.heap.size∧k ∉ aJ Lin:=fun k hm=>⟨s.lt k (by rw [eA]; exact List.mem_append.2 (.inr hm)),fun h=>oj k h k hm rfl⟩
 exact
 {defers:=s.defers
  size:=s.size
  env:=fun t τ aq=>let⟨v,J,ab⟩:=s.env t τ aq; ⟨v,J,τ.mono gn ab⟩
  dd:=⟨a8.os.trans s.dd.os,a8.tape.trans s.dd.tape,a8.output.trans s.dd.output,Nat.le_trans s.dd.size a8.size,fun k cq an=>
   (a8.block k (Nat.lt_of_lt_of_le cq s.dd.size) fun hm=>an (s.fs k (by rw [eA]; exact List.mem_append.2 (.inl hm)) cq)).trans (s.dd.block k cq an)⟩
  own:=fun e he=>by
   rcases List.mem_append.1 he with he | he
   ·have:=hC e he
    refine aH.qX this (.drop fun k hm=> ?_) fun _ _=>rfl
    rw [eA] at hm
    simp only [List.mem_append] at hm ⊢
    rcases hm with(hm | hm) | hm
    ·exact .inl hm
    ·exact .inr (.inl hm)
    ·exact .inr (.inr hm)
   ·exact aH.qX (s.own e (List.mem_append.2 (.inr he))) gn fun p hp=>by
     have:=Mk p (jR.2 ⟨e,he,hp⟩)
     exact a8.block p this.1 this.2
  nodup:=by
   rw [eA]
   exact List.nodup_append.2 ⟨h8,o6,fun k J j ab e=>by subst e; exact(av k J).2.2 (List.mem_append.2 (.inl ab))⟩
  lt:=fun k hm=>by
   rw [eA] at hm
   rcases List.mem_append.1 hm with hm | hm
   ·exact(av k hm).1
   ·exact Nat.lt_of_lt_of_le (Mk k hm).1 a8.size
  fs:=fun k hm bJ=>by
   rw [eA] at hm
   have cq:k < W.heap.size:=Nat.lt_of_lt_of_le bJ s.dd.size
   rcases List.mem_append.1 hm with hm | hm
   ·exact s.fs k (by rw [eA]; exact List.mem_append.2 (.inl ((av k hm).2.1 cq))) bJ
   ·exact s.fs k (by rw [eA]; exact List.mem_append.2 (.inr hm)) bJ
  er:=fun k hm=>by
   obtain⟨J,ab⟩:=s.er k hm
   refine⟨Nat.lt_of_lt_of_le J a8.size,fun h=> ?_⟩
   rw [eA] at h ab
   rcases List.mem_append.1 h with h | h
   ·exact(av k h).2.2 (List.mem_append.2 (.inr hm))
   ·exact ab (List.mem_append.2 (.inr h)) }
theorem hf.Km {xs:List Operand} {τs:List I} (h:hf c E L xs τs) {a:Act} {W:World} (s:bC c E L a W):gl (aJ L ++ c.bP) W τs (xs.map a.eval):=h.holds a W s
theorem w5 {a:Act} {W:World} {f:FuncId} {xs:List Operand} {ats:Array TypeId} {τs:List I} {Lin Lr:List aH} {δ:Type} {ρ:δ→I} {Lo:δ→List aH} (dO:bQ c.P f) (h:cz c.P f τs Lin ρ Lo)
 (s:bC c E (Lin ++ Lr) a W) (an:gl (aJ (Lin ++ Lr) ++ c.bP) W τs (xs.map a.eval)):
 fK c.P ⟨d,.call ⟨.value (.func f),xs.toArray,ats⟩,ty,pos,af,g⟩ a W fun v W'=> ∃ a6,bC c E (Lo a6 ++ Lr) a W'∧ (ρ a6).holds (aJ (Lo a6 ++ Lr) ++ c.bP) W' v:=by
 have kI:=s.nodup
 rw [eA] at kI
 obtain⟨lJ,o6,oj⟩:=List.nodup_append.1 kI
 have lA:Ext (aJ (Lin ++ Lr) ++ c.bP) W (aJ Lin ++ (aJ Lr ++ c.bP)) W:= .drop fun k hm=>by
  rw [eA]
  simp only [List.mem_append] at hm ⊢
  rcases hm with hm | hm | hm
  ·exact .inl (.inl hm)
  ·exact .inl (.inr hm)
  ·exact .inr hm
 have fE:∀ k∈aJ Lr ++ c.bP,k < W.heap.size∧k ∉ aJ Lin:=fun k hm=>by
  rcases List.mem_append.1 hm with hm | hm
  ·exact⟨s.lt k (by rw [eA]; exact List.mem_append.2 (.inr hm)),fun h=>oj k h k hm rfl⟩
  ·obtain⟨J,ab⟩:=s.er k hm
   exact⟨J,fun h=>ab (by rw [eA]; exact List.mem_append.2 (.inl h))⟩
 have cq:∀ k∈aJ Lin,k < W.heap.size:=fun k hm=>s.lt k (by rw [eA]; exact List.mem_append.2 (.inl hm))
 refine .sh (f:=f) (args:=(xs.map a.eval).toArray) (W':=W) (by simp [execOp,resolve,Deferred.ofValue,Act.eval,invoke,dO.run]) ?_
 refine(h (aJ Lr ++ c.bP) W (xs.map a.eval) fE lJ cq (fun e he=>aH.qX (s.own e (List.mem_append.2 (.inl he))) lA fun _ _=>rfl) (an.mono lA)).mono fun e W' ⟨v,a6,he,a8,J,ab,aC,aU⟩=> ?_
 refine⟨v,he,a6,s.after a8 J ab aC,(ρ a6).mono (.drop fun k hm=> ?_) aU⟩
 rw [eA] at hm
 simp only [List.mem_append] at hm ⊢
 rcases hm with(hm | hm) | hm
 ·exact .inl hm
 ·exact .inr (.inl hm)
 ·exact .inr (.inr hm)
theorem ah.lu {rest:List Oper} {a6:Nat} {f:FuncId} {xs:List Operand} {ats:Array TypeId} {τs:List I} {Lin Lr:List aH} {δ:Type} {ρ:δ→I} {Lo:δ→List aH} (dO:bQ c.P f) (h:cz c.P f τs Lin ρ Lo)
 (an:hf c E (Lin ++ Lr) xs τs) (aO:Nat.blt a6 c.n=true) (k:∀ q,ah c ops Q rest ((a6,ρ q) :: E) (Lo q ++ Lr)):
 ah c ops Q (⟨some a6,.call ⟨.value (.func f),xs.toArray,ats⟩,ty,pos,af,none⟩ :: rest) E (Lin ++ Lr):=fun a W s=>
 hH rfl (w5 dO h s (an.holds a W s)) fun v W' ⟨q,bV,aY⟩=>k q _ _ (bV.put (by simpa using aO) aY)
end
end Gv
namespace Gv
open Go
set_option linter.unusedVariables false
set_option linter.unusedSimpArgs false
def gI {α:Type} (xs:List α) (k:Nat) (v:α):List α:=xs.set k v
section
variable {c:cU} {E:List (Nat × I)} {L:List aH} {ops:Array Oper} {Q:Exit→Act→World→Prop}
variable {d:Option Tmp} {ty:TypeId} {pos:String} {af:Array Edge} {g:Option (Nat × Bool)} {x y:Operand} {t t2:TypeId}
theorem bC.rowAt {a:Act} {W:World} (s:bC c E L a W) {i:Nat} {key:Option Nat} {T cap:Nat} {α:Type} [ad α] {xs:List α} (au:L[i]? =some ⟨key,.row T xs cap⟩) (an:0 < xs.length):
 ∃ p cs,key=some p∧W.heap[p]? =some (.cells cs T (0,0))∧cs.size=cap * ad.size α∧xs.length≤cap∧cap≤maxLen∧fJ (aJ L ++ c.bP) W (cs.toList.take (xs.length * ad.size α)) xs:=by
 have bm:=s.own _ (List.mem_of_getElem? au)
 cases key with
 | none=>have:xs= []:=bm.1; subst this; simp at an
 | some p=>
   obtain⟨o,dV,cs,rfl,J,ab,aC,aU⟩:=bm
   exact⟨p,cs,rfl,dV,J,ab,aC,aU⟩
theorem rb {e i k T cap:Nat} {key:Option Nat} {α:Type} [ad α] {xs:List α} {z:Int} (hu:c.P.underlying t=some (.slice e)) (e5:bt c.P e α) (an:ba c E L x (.eq (aV key xs.length cap))) (a9:ba c E L y (.of z))
 (au:L[i]? =some ⟨key,.row T xs cap⟩) (av:k < xs.length∧z=k):bX c E L ⟨d,.indexAddr t x y,ty,pos,af,g⟩ (.eq (.pointer (some ⟨key.getD 0,k * ad.size α,none⟩))):= .pure fun a W s=>by
 obtain⟨bn,rfl⟩:=av
 obtain⟨p,cs,rfl,_⟩:=s.rowAt au (by omega)
 have J:a.eval x=_:=an a W s
 have aZ:=of_int.1 (a9 a W s)
 obtain⟨fG,dJ,en⟩:=e5.info
 exact⟨_,by simp [execOp,Instr.indexAt,asIntOf,run_underlying hu,J,aZ,bn,Go.sizeOf,typeInfo,dJ,en,iw,aV]; rfl,by simp [I.eq]⟩
theorem uQ {k n s:Nat} (h:k < n):k * s + s≤n * s:=by rw [← Nat.succ_mul]; exact Nat.mul_le_mul_right _ h
theorem JB {i k T cap o:Nat} {key:Option Nat} {α γ:Type} [ad α] [Inhabited α] [ad γ] {xs:List α} (l:aL α γ) {r:γ} (dN:bt c.P t γ) (an:ba c E L x (.eq (.pointer (some ⟨key.getD 0,o,none⟩))))
 (au:L[i]? =some ⟨key,.row T xs cap⟩) (av:k < xs.length) (bm:o=k * ad.size α + l.off) (aS:l.get (aA xs k)=r):bX c E L ⟨d,.load t x,ty,pos,af,g⟩ (.of r):= .pure fun a W s=>by
 subst bm; subst aS
 obtain⟨p,cs,rfl,dV,J,ab,aC,aU⟩:=s.rowAt au (by omega)
 have eQ:=uQ (s:=ad.size α) av
 have aq:=l.fC
 have hle:xs.length * ad.size α≤cap * ad.size α:=Nat.mul_le_mul_right _ ab
 have ff:=l.hI (aU.2 k av)
 rw [r9 _ _ _ _ _ l.fC,List.drop_take,List.take_take,Nat.min_eq_left (by omega)] at ff
 rw [eB xs av]
 obtain⟨v,aZ,bn⟩:=r5 (A:=aJ L ++ c.bP) dN dV (off:=k * ad.size α + l.off) (by omega) ff
 have cE:a.eval x=_:=an a W s
 simp only [Option.getD_some] at cE
 exact⟨v,by simp [execOp,Instr.loadAt,Instr.sureAddr,cE,aZ],bn⟩
theorem ah.uM {rest:List Oper} {i k T cap o:Nat} {key:Option Nat} {α γ:Type} [ad α] [Inhabited α] [ad γ] {xs r:List α} {v:γ} (l:aL α γ) (dN:bt c.P t γ) (an:ba c E L x (.eq (.pointer (some ⟨key.getD 0,o,none⟩)))) (a9:ba c E L y (.of v))
 (au:L[i]? =some ⟨key,.row T xs cap⟩) (av:k < xs.length) (bm:o=k * ad.size α + l.off) (aS:gI xs k (l.set (aA xs k) v)=r)
 (k':ah c ops Q rest E (L.set i ⟨key,.row T r cap⟩)):ah c ops Q (⟨none,.store t x y,ty,pos,af,none⟩ :: rest) E L:=fun a W s=>by
 subst bm; subst aS
 obtain⟨p,cs,rfl,dV,J,ab,aC,aU⟩:=s.rowAt au (by omega)
 have eQ:=uQ (s:=ad.size α) av
 have aq:=l.fC
 have hle:xs.length * ad.size α≤cap * ad.size α:=Nat.mul_le_mul_right _ ab
 have aY:=a9 a W s
 have Gc:(a.eval y).cells.toList.length=ad.size γ:=ad.len aY.2
 have aZ:=wM (A:=aJ L ++ c.bP) dN dV (off:=k * ad.size α + l.off) (by omega) aY
 have cE:a.eval x=_:=an a W s
 simp only [Option.getD_some] at cE
 refine hH rfl (R:=fun v W'=>W'=W.setRow p (fm cs.toList (k * ad.size α + l.off) (a.eval y).cells.toList).toArray) (.uG ?_ rfl) fun u W' hw=> ?_
 ·simp [execOp,Instr.storeAt,Instr.sureAddr,cE,aZ]
 ·subst hw
  refine k' _ _ (s.store au dV ?_)
  have kN:cs.toList.length=cap * ad.size α:=by simpa using J
  have kM:(fm cs.toList (k * ad.size α + l.off) (a.eval y).cells.toList).length=cs.toList.length:=by
   simp only [fm,List.length_append,List.length_take,List.length_drop,Gc]; omega
  refine⟨_,rfl,by simpa [kN] using kM,by simpa [gI] using ab,aC,?_⟩
  have ax:=aU.2 k av
  have a1:=l.jO ax aY.2
  have br:=Dx aU av a1
  have tg:(cs.toList.take (xs.length * ad.size α)).length=xs.length * ad.size α:=by rw [List.length_take]; omega
  rw [IN _ _ _ _ _ _ l.fC (by omega)] at br
  have hlen:(gI xs k (l.set (aA xs k) v)).length=xs.length:=by simp [gI]
  rw [hlen,List.toList_toArray]
  have e:(fm cs.toList (k * ad.size α + l.off) (a.eval y).cells.toList).take (xs.length * ad.size α)=
   (cs.toList.take (xs.length * ad.size α)).take (k * ad.size α + l.off) ++ (a.eval y).cells.toList ++ (cs.toList.take (xs.length * ad.size α)).drop (k * ad.size α + l.off + ad.size γ):=by
   have az:(cs.toList.take (k * ad.size α + l.off)).length=k * ad.size α + l.off:=by rw [List.length_take]; omega
   have aX:(cs.toList.take (k * ad.size α + l.off) ++ (a.eval y).cells.toList).length=k * ad.size α + l.off + ad.size γ:=by rw [List.length_append,az,Gc]
   rw [fm,Gc,List.take_append,aX,List.take_of_length_le (by omega),List.take_take,Nat.min_eq_left (by omega),List.drop_take]
  rw [e,show gI xs k (l.set (aA xs k) v)=xs.set k (l.set xs[k] v) by rw [gI,eB xs av]]
  exact br
def hT (key:Option Nat) (lo n cap size:Nat):Value:=match key with
 | some p=> .slice (some (if cap=lo then⟨p,0,none⟩ else⟨p,lo * size,none⟩)) n (cap - lo)
 | none=> .slice none 0 0
theorem w7 {key:Option Nat} {n cap size:Nat} :hT key 0 n cap size=aV key n cap:=by
 cases key <;> simp [hT,aV]
theorem AU {i T cap:Nat} {key:Option Nat} {α:Type} [ad α] {xs:List α} {e:TypeId} {lo al:Option Operand} {m n:Nat} {zK zL:Int} (hu:c.P.underlying t=some (.slice e)) (e5:bt c.P e α) (an:ba c E L x (.eq (aV key xs.length cap)))
 (au:L[i]? =some ⟨key,.row T xs cap⟩) (hi:rR c E L lo zK 0) (eb:rR c E L al zL xs.length) (hm:zK=m) (aO:zL=n) (h:m≤n∧n≤xs.length):
 bX c E L ⟨d,.slice t x lo al none,ty,pos,af,g⟩ (.eq (hT key m (n - m) cap (ad.size α))):= .pure fun a W s=>by
 subst hm; subst aO
 obtain⟨vF,mi⟩:=h
 obtain⟨fG,dJ,en⟩:=e5.info
 have J:a.eval x=_:=an a W s
 have bm:=s.own _ (List.mem_of_getElem? au)
 cases key with
 | none=>
   have hW:xs= []:=bm.1
   subst hW
   have rF:n=0:=by simpa using mi
   have hB:m=0:=by omega
   subst rF
   subst hB
   refine⟨.slice none 0 0,?_,rfl⟩
   have au:(match lo.map a.eval with | some v=>Instr.sliceBound v 0 .sliceB | none=>pure 0:Sem Nat).run c.P W= .ok 0 W:=by
    cases hi with
    | none=>rfl
    | some aq=>exact oB (Nat.le_refl _) (of_int.1 (aq a W s))
   have iu:(match al.map a.eval,(none:Option Value) with | some v,some _=>Instr.sliceBound v 0 .slice3B | some v,none=>Instr.sliceBound v 0 .sliceAcap | none,none=>pure 0 | none,some _=>stuck "Slice: max without high" :Sem Nat).run c.P W= .ok 0 W:=by
    cases eb with
    | none=>rfl
    | some aq=>exact oB (Nat.le_refl _) (of_int.1 (aq a W s))
   cases hi <;> cases eb
   all_goals
    simp only [aV,execOp,Instr.sliceAt,Instr.slice,Instr.sliceBounds,J,Sem.run_bind,run_underlying hu,Result.andThen_ok,Option.map_none,Option.map_some,Option.isSome_none,Bool.false_eq_true,if_false,if_true,Sem.run_pure] at au iu ⊢
    try simp only [au,iu,Result.andThen_ok,Go.sizeOf,typeInfo,Sem.run_bind,run_program,dJ,Sem.run_pure]
    try simp [dJ]
 | some p=>
   obtain⟨o,dV,cs,rfl,ax,a1,br,cr⟩:=bm
   refine⟨_,?_,rfl⟩
   simp only [hT]
   have au:∀ v,v=Value.int .i64 m→ (Instr.sliceBound v n .sliceB).run c.P W= .ok m W:=fun v aY=>oB vF aY
   have iu:∀ v,v=Value.int .i64 n→ (Instr.sliceBound v cap .sliceAcap).run c.P W= .ok n W:=fun v aY=>oB (by omega) aY
   generalize eQ:(n:Int)=MQ at eb
   generalize y8:(m:Int)=MR at hi
   generalize y9:(xs.length:Int)=MS at eb
   generalize Mg:(0:Int)=MT at hi
   cases hi with
   | none=>
     have hB:m=0:=by omega
     cases eb with
     | none=>
       have mi:n=xs.length:=by omega
       subst mi
       subst hB
       simp [execOp,Instr.sliceAt,Instr.slice,Instr.sliceBounds,J,aV,run_underlying hu,Go.sizeOf,typeInfo,dJ,en,iw]
     | some ct=>
       subst eQ
       subst hB
       simp [execOp,Instr.sliceAt,Instr.slice,Instr.sliceBounds,J,aV,run_underlying hu,Go.sizeOf,typeInfo,dJ,en,iw,iu _ (of_int.1 (ct a W s))]
   | some aq=>
     subst y8
     cases eb with
     | none=>
       have mi:n=xs.length:=by omega
       subst mi
       simp [execOp,Instr.sliceAt,Instr.slice,Instr.sliceBounds,J,aV,run_underlying hu,Go.sizeOf,typeInfo,dJ,en,iw,au _ (of_int.1 (aq a W s))]
       split <;> rfl
     | some ct=>
       subst eQ
       simp [execOp,Instr.sliceAt,Instr.slice,Instr.sliceBounds,J,aV,run_underlying hu,Go.sizeOf,typeInfo,dJ,en,iw,au _ (of_int.1 (aq a W s)),iu _ (of_int.1 (ct a W s))]
       split <;> rfl
theorem bC.again {a:Act} {W:World} (s:bC c E L a W) {i:Nat} {key:Option Nat} {cp cp':dn} (au:L[i]? =some ⟨key,cp⟩) (h:∀ A W o,cp.holds A W o→cp'.holds A W o) (aO:cp.l7→cp'.l7):bC c E (L.set i ⟨key,cp'⟩) a W:=by
 have gq:aJ (L.set i ⟨key,cp'⟩)=aJ L:=uO (e:=⟨key,cp⟩) (cp:=cp') au
 exact
 {defers:=s.defers
  size:=s.size
  env:=fun t τ aq=>by rw [gq]; exact s.env t τ aq
  dd:=s.dd
  own:=fun e he=>by
   rw [gq]
   obtain⟨j,aF⟩:=List.mem_iff_getElem?.1 he
   rw [List.getElem?_set] at aF
   split at aF
   ·split at aF
    ·simp only [Option.some.injEq] at aF
     subst aF
     have bm:=s.own _ (List.mem_of_getElem? au)
     cases key with
     | none=>exact aO bm
     | some p=>obtain⟨o,J,ab⟩:=bm; exact⟨o,J,h _ _ _ ab⟩
    ·cases aF
   ·exact s.own e (List.mem_of_getElem? aF)
  nodup:=by rw [gq]; exact s.nodup
  lt:=by rw [gq]; exact s.lt
  fs:=by rw [gq]; exact s.fs
  er:=by rw [gq]; exact s.er }
theorem Dz {T cap n:Nat} {α:Type} [ad α] {xs:List α} (aO:n≤xs.length) {A W o} (h:(dn.row T xs cap).holds A W o):(dn.row T (xs.take n) cap).holds A W o:=by
 obtain⟨cs,rfl,J,ab,aC,aU⟩:=h
 have aq:(xs.take n).length=n:=by rw [List.length_take]; omega
 have hle:n * ad.size α≤xs.length * ad.size α:=Nat.mul_le_mul_right _ aO
 have BW:xs.length * ad.size α≤cap * ad.size α:=Nat.mul_le_mul_right _ ab
 refine⟨cs,rfl,J,by omega,aC,?_⟩
 rw [aq]
 have kN:cs.toList.length=cap * ad.size α:=by simpa using J
 refine⟨by rw [List.length_take,aq]; omega,fun i al=> ?_⟩
 have iD:i < n:=by omega
 have eQ:=uQ (s:=ad.size α) iD
 have:=aU.2 i (by omega)
 rw [List.drop_take,List.take_take,Nat.min_eq_left (by omega)] at this ⊢
 rw [List.getElem_take]
 exact this
theorem ah.SG {l:List Oper} {i T cap n:Nat} {key:Option Nat} {α:Type} [ad α] {xs r:List α} (a6:Nat) (aq:look E a6=some (.eq (hT key 0 (n - 0) cap (ad.size α)))) (au:L[i]? =some ⟨key,.row T xs cap⟩) (aO:n≤xs.length) (aS:xs.take n=r)
 (k:ah c ops Q l ((a6,.eq (aV key r.length cap)) :: E) (L.set i ⟨key,.row T r cap⟩)):ah c ops Q l E L:=fun a W s=>by
 subst aS
 have hlen:(xs.take n).length=n:=by rw [List.length_take]; omega
 have bV:=s.again au (fun _ _ _ h=>Dz aO h) (cp':= .row T (xs.take n) cap) (fun⟨J,ab⟩=>⟨by rw [J]; simp,ab⟩)
 refine k a W { bV with env:=fun t τ dQ=> ?_ }
 simp only [look] at dQ
 by_cases e:Nat.beq a6 t=true
 ·rw [e] at dQ
  simp only [cond_true,Option.some.injEq] at dQ
  subst dQ
  have:=eF.1 e
  subst this
  obtain⟨v,J,ab⟩:=s.env a6 _ aq
  refine⟨v,J,?_⟩
  have kq:v=_:=ab
  rw [Nat.sub_zero,w7] at kq
  rw [hlen]
  exact kq
 ·simp only [Bool.not_eq_true] at e
  rw [e] at dQ
  exact bV.env t τ dQ
end
end Gv
namespace Gv
open Go
set_option linter.unusedVariables false
set_option linter.unusedSimpArgs false
def mF {α:Type} [Inhabited α] (xs:List α) (lo n:Nat):List α:=xs.take lo ++ List.replicate n default ++ xs.drop (lo + n)
theorem IT {α:Type} [ad α] {A W} {cs ds:List Value} {xs ys:List α} {lo:Nat} (h:fJ A W cs xs) (cJ:fJ A W ds ys) (av:lo + ys.length≤xs.length):
 fJ A W (cs.take (lo * ad.size α) ++ ds ++ cs.drop (lo * ad.size α + ds.length)) (xs.take lo ++ ys ++ xs.drop (lo + ys.length)):=by
 have aq:=h.1
 have hle:lo * ad.size α≤xs.length * ad.size α:=Nat.mul_le_mul_right _ (by omega)
 have t1:fJ A W (cs.take (lo * ad.size α)) (xs.take lo):=by
  have e:(xs.take lo).length=lo:=by rw [List.length_take]; omega
  refine⟨by rw [List.length_take,e]; omega,fun i al=> ?_⟩
  have iD:i < lo:=by omega
  have:=h.2 i (by omega)
  have eQ:=uQ (s:=ad.size α) iD
  rw [List.drop_take,List.take_take,Nat.min_eq_left (by omega),List.getElem_take]
  exact this
 have t3:fJ A W (cs.drop (lo * ad.size α + ds.length)) (xs.drop (lo + ys.length)):=by
  have e:lo * ad.size α + ds.length=(lo + ys.length) * ad.size α:=by rw [cJ.1,Nat.add_mul]
  rw [e]
  refine⟨by rw [List.length_drop,List.length_drop,aq,← Nat.sub_mul],fun i al=> ?_⟩
  rw [List.length_drop] at al
  have:=h.2 (lo + ys.length + i) (by omega)
  rw [List.drop_drop,← Nat.add_mul,List.getElem_drop]
  exact this
 exact qI (qI t1 cJ) t3
section
variable {c:cU} {E:List (Nat × I)} {L:List aH} {ops:Array Oper} {Q:Exit→Act→World→Prop}
variable {d:Option Tmp} {ty:TypeId} {pos:String} {af:Array Edge} {g:Option (Nat × Bool)} {x y:Operand} {t t2:TypeId}
theorem ah.clear {rest:List Oper} {i e T cap lo n:Nat} {key:Option Nat} {α:Type} [ad α] [Inhabited α] {xs r:List α} (hu:c.P.underlying t=some (.slice e)) (e5:bt c.P e α) (fN:cx c.P e (default:α)) (en:Nat.beq (ad.size α) 0=false)
 (an:ba c E L x (.eq (hT key lo n cap (ad.size α)))) (au:L[i]? =some ⟨key,.row T xs cap⟩) (aO:lo + n≤xs.length) (aS:mF xs lo n=r)
 (k:ah c ops Q rest E (L.set i ⟨key,.row T r cap⟩)):ah c ops Q (⟨none,.call ⟨.builtin .clear,#[x],#[t]⟩,ty,pos,af,none⟩ :: rest) E L:=fun a W s=>by
 subst aS
 have J:a.eval x=_:=an a W s
 have bm:=s.own _ (List.mem_of_getElem? au)
 have lA:∀ cp,L.set i ⟨key,cp⟩=L.set i ⟨key,cp⟩:=fun _=>rfl
 by_cases bJ:n=0∨key=none
 ·have hW:mF xs lo n=xs:=by
   rcases bJ with bJ | bJ
   ·subst bJ; simp [mF]
   ·subst bJ
    have:xs= []:=bm.1
    subst this
    have:n=0:=by simp at aO; omega
    subst this; simp [mF]
  have jU:(execOp a.eval ⟨none,.call ⟨.builtin .clear,#[x],#[t]⟩,ty,pos,af,none⟩).run c.P W= .ok (.value (.tuple #[])) W:=by
   rcases bJ with bJ | bJ
   ·subst bJ
    cases key <;> simp [execOp,resolve,invoke,builtin,Builtin.clear_,J,hT,run_underlying hu]
   ·subst bJ
    simp [execOp,resolve,invoke,builtin,Builtin.clear_,J,hT,run_underlying hu]
  refine hH rfl (R:=fun v W'=>W'=W) (.lr jU rfl) fun v W' hw=> ?_
  subst hw
  rw [hW] at k
  have:L.set i ⟨key,.row T xs cap⟩=L:=by
   apply List.ext_getElem?
   intro j
   rw [List.getElem?_set]
   split
   ·rename_i eW; subst eW
    have:=(List.getElem?_eq_some_iff.1 au).1
    rw [if_pos this,au]
   ·rfl
  rw [this] at k
  exact k _ _ s
 ·have rF:0 < n:=by
   rcases Nat.eq_zero_or_pos n with h | h
   ·exact absurd (.inl h) bJ
   ·exact h
  obtain⟨p,cs,rfl,dV,ax,a1,br,cr⟩:=s.rowAt au (by omega)
  obtain⟨fG,dB,dJ,dR,Gd⟩:=fN.zero
  have Cg:=Gd (aJ L ++ c.bP) W
  have VH:dB.cells.toList.length=ad.size α:=ad.len Cg.2
  have im:ad.size α≠0:=fun h=>by rw [h] at en; cases en
  have zf:=xa Cg n im
  have tf:dB.cells.size=ad.size α:=by simpa using VH
  have Ge:Builtin.zeroCells dB.cells n=(Array.range (n * ad.size α)).map (dB.cells[· % dB.cells.size]!):=by rw [Builtin.zeroCells,tf]
  rw [← Ge] at zf
  generalize jH:(Builtin.zeroCells dB.cells n).toList=D at zf
  have Xi:D.length=n * ad.size α:=by rw [zf.1]; simp
  have hi:cap≠lo:=by omega
  have hle:(lo + n) * ad.size α≤cap * ad.size α:=Nat.mul_le_mul_right _ (by omega)
  rw [Nat.add_mul] at hle
  have j0:=run_storeCells_at (P:=c.P) p (lo * ad.size α) _ D 0 cs W dV (by omega) zf.one
  have jU:(execOp a.eval ⟨none,.call ⟨.builtin .clear,#[x],#[t]⟩,ty,pos,af,none⟩).run c.P W= .ok (.value (.tuple #[])) (W.setRow p (fm cs.toList (lo * ad.size α) D).toArray):=by
   obtain⟨m,rfl⟩:∃ m,n=m + 1:=⟨n - 1,by omega⟩
   simp only [Nat.add_zero] at j0
   simp [execOp,resolve,invoke,builtin,Builtin.clear_,J,hT,run_underlying hu,hi,zeroValue,typeInfo,run_program,dJ,dR,jH,j0,fm]
  refine hH rfl (R:=fun v W'=>W'=W.setRow p (fm cs.toList (lo * ad.size α) D).toArray) (.lr jU rfl) fun v W' hw=> ?_
  subst hw
  refine k _ _ (s.store au dV ?_)
  have kN:cs.toList.length=cap * ad.size α:=by simpa using ax
  have hlen:(mF xs lo n).length=xs.length:=by simp [mF]; omega
  have tg:(cs.toList.take (xs.length * ad.size α)).length=xs.length * ad.size α:=by
   rw [List.length_take]
   have:xs.length * ad.size α≤cap * ad.size α:=Nat.mul_le_mul_right _ a1
   omega
  have UY:(lo + n) * ad.size α≤xs.length * ad.size α:=Nat.mul_le_mul_right _ aO
  rw [Nat.add_mul] at UY
  have W6:xs.length * ad.size α≤cap * ad.size α:=Nat.mul_le_mul_right _ a1
  refine⟨_,rfl,?_,by rw [hlen]; exact a1,br,?_⟩
  ·simp only [List.size_toArray,fm,List.length_append,List.length_take,List.length_drop]; omega
  ·rw [hlen,List.toList_toArray]
   have g7:=IT (lo:=lo) cr zf (by simpa using aO)
   have e:(fm cs.toList (lo * ad.size α) D).take (xs.length * ad.size α)=(cs.toList.take (xs.length * ad.size α)).take (lo * ad.size α) ++ D ++ (cs.toList.take (xs.length * ad.size α)).drop (lo * ad.size α + D.length):=by
    have az:(cs.toList.take (lo * ad.size α)).length=lo * ad.size α:=by rw [List.length_take]; omega
    have aX:(cs.toList.take (lo * ad.size α) ++ D).length=lo * ad.size α + D.length:=by rw [List.length_append,az]
    rw [fm,List.take_append,aX,List.take_of_length_le (by omega),List.take_take,Nat.min_eq_left (by omega),List.drop_take]
   rw [e]
   simpa [mF] using g7
theorem bC.share {a:Act} {W:World} (s:bC c E L a W) {i eM p:Nat} {α:Type} [ad α] {z:α} (aq:look E eM=some (.eq (.pointer (some ⟨p,0,none⟩)))) (au:L[i]? =some ⟨some p,.var z⟩):bC c ((eM,.ptr z) :: E) (L.set i ⟨none,.dead⟩) a W:=by
 have av:=s.kill i
 refine { av with env:=fun t τ dQ=> ?_ }
 simp only [look] at dQ
 by_cases e:Nat.beq eM t=true
 ·rw [e] at dQ
  simp only [cond_true,Option.some.injEq] at dQ
  subst dQ
  have:=eF.1 e
  subst this
  obtain⟨v,J,ab⟩:=s.env eM _ aq
  have kq:v=_:=ab
  subst kq
  obtain⟨o,dV,cs,T,rfl,aS⟩:=s.own _ (List.mem_of_getElem? au)
  have hlen:cs.toList.length=ad.size α:=ad.len aS
  refine⟨_,J,p,0,cs,T,(0,0),rfl,s.xg au,dV,by simp at hlen; omega,?_⟩
  rw [List.drop_zero,← hlen,List.take_length]
  have kH:=ua (L:=L) (i:=i) (cp:= .dead)
  exact ad.mono (.drop fun k hm=>by
   rcases List.mem_append.1 hm with hm | hm
   ·exact List.mem_append.2 (.inl (kH.subset hm))
   ·exact List.mem_append.2 (.inr hm)) aS
 ·simp only [Bool.not_eq_true] at e
  rw [e] at dQ
  exact av.env t τ dQ
theorem ah.share {l:List Oper} {p:Nat} {α:Type} [ad α] {z:α} (i eM:Nat) (aq:look E eM=some (.eq (.pointer (some ⟨p,0,none⟩)))) (au:L[i]? =some ⟨some p,.var z⟩) (k:ah c ops Q l ((eM,.ptr z) :: E) (L.set i ⟨none,.dead⟩)):ah c ops Q l E L:=
 fun a W s=>k a W (s.share aq au)
theorem ai.share {code:Code} {p:Nat} {α:Type} [ad α] {z:α} (i eM:Nat) (aq:look E eM=some (.eq (.pointer (some ⟨p,0,none⟩)))) (au:L[i]? =some ⟨some p,.var z⟩) (k:ai c Q code ((eM,.ptr z) :: E) (L.set i ⟨none,.dead⟩)):ai c Q code E L:=
 fun a W s=>k a W (s.share aq au)
theorem uL {α β:Type} [ad α] [ad β] {F:α→Option β} {f:FuncId} {xs:List Operand} {τs:List I} (dO:bQ c.P f) (an:hf c E L xs τs) (h:∀ x r,F x=some r→bx c.P f (.of x :: τs) (.of r)):
 bX c E L ⟨d,.makeFunc (.func f) #[] xs.toArray,ty,pos,af,g⟩ (.n9 c.P F):= .pure fun a W s=>by
 have ct:=an.holds a W s
 refine⟨.func (.func f) #[] (xs.map a.eval).toArray,by simp [execOp,Instr.makeFunc],f,_,_,rfl,dO,fun cH W' e fE x r m0 m1 aY=> ?_⟩
 simpa using h x r m1 cH W' (m0 :: xs.map a.eval) fE (.cons aY (ct.mono e))
def I.Flat (τ:I):Prop:= ∀ A W cH W' v,τ.holds A W v→τ.holds cH W' v
theorem w8 {b:Bool} :(I.of b).Flat:=fun _ _ _ _ _ h=>h
theorem qP {b:Int} :(I.of b).Flat:=fun _ _ _ _ _ h=>h
theorem bX.LD {o:Oper} {τ:I} {T cap:Nat} {key:Option Nat} {α:Type} [ad α] {xs:List α} (i s:Nat) (aq:look E s=some (.eq (aV key xs.length cap))) (au:L[i]? =some ⟨key,.row T xs cap⟩) (a8:τ.Flat)
 (h:bX c ((s,.of xs) :: E) (L.set i ⟨none,.dead⟩) o τ):bX c E L o τ:=fun a W st=>by
 have:=h a W (st.freeze aq au)
 unfold fK at this ⊢
 exact Oper.wp_mono (fun hZ W' ⟨v,J,ab,aC⟩=>⟨v,J,ab,a8 _ _ _ _ _ aC⟩) this
def I.LP {α:Type} (xs:List α):I where
 holds _ _ v:= ∃ b:Bool,v= .bool b∧ (b=true→xs= [])
 mono _ h:=h
theorem Ir {P:Program} {e:TypeId} (W:World) (d:Nat) {t:TypeId} (a:Option Addr) (l cp:Nat) (h:P.underlying t=some (.slice e)):(Op.equalIn (d + 1) t (.slice a l cp) (.slice none 0 0)).run P W= .ok a.isNone W:=by
 cases a <;> simp [Op.equalIn,run_underlying h]
theorem Ex {α:Type} [ad α] {xs:List α} {e:TypeId} (hu:c.P.underlying t=some (.slice e)) (an:ba c E L x (.of xs)):bX c E L ⟨d,.binOp .eql t x (.const (.slice none 0 0)) t2,ty,pos,af,g⟩ (.LP xs):= .pure fun a W s=>by
 have aO:a.eval (.const (.slice none 0 0))= .slice none 0 0:=rfl
 rcases ln.1 (an a W s) with⟨J,rfl⟩ | ⟨b,off,cap,cur,T,g9,J,ab⟩
 ·exact⟨.bool true,by
   simp only [execOp,eqGuard,binOp,J,aO,Op.equal,Op.maxDepth]
   simp [Ir W 9999 none 0 0 hu],true,rfl,fun _=>rfl⟩
 ·exact⟨.bool false,by
   simp only [execOp,eqGuard,binOp,J,aO,Op.equal,Op.maxDepth]
   simp [Ir W 9999 (some ⟨b,off,none⟩) xs.length cap hu],false,rfl,fun h=>by cases h⟩
theorem ai.Ey {α:Type} {y z:Code} {xs:List α} (aq:ba c E L x (.LP xs)) (b9:xs= []→ai c Q y E L) (a8:ai c Q z E L):ai c Q (.cond x y z) E L:=fun a W s=>by
 obtain⟨b,J,ab⟩:=aq a W s
 exact wpIn_cond_split J (fun h=>b9 (ab h) a W s) (fun _=>a8 a W s)
end
def yH (n:Nat) (lo al:Int):Option (Nat × Nat):=if 0≤lo∧lo≤al∧al≤n then some (lo.toNat,al.toNat) else none
theorem uv {n:Nat} {lo al:Int} {y:Nat × Nat} (h:yH n lo al=some y):lo=y.1∧al=y.2∧y.1≤y.2∧y.2≤n:=by
 unfold yH at h
 split at h
 ·rename_i ar
  simp only [Option.some.injEq] at h
  subst h
  simp only
  omega
 ·cases h
end Gv
namespace Gv
open Go
set_option linter.unusedVariables false
set_option linter.unusedSimpArgs false
def bs (c:cU) (ops:Array Oper) (Q:Exit→Act→World→Prop) (f:Nat) (bL:Array Bool) (E:List (Nat × I)) (L:List aH):Prop:=
 ∀ a W,bC c E L a W→wpAnyIn c.F 9 c.P .any ops Q f bL a W
def rT (K:Act→World→Prop) (Q:Exit→Act→World→Prop):Exit→Act→World→Prop
 | .normal,a,W=>K a W
 | x,a,W=>Q x a W
section
variable {c:cU} {E:List (Nat × I)} {L:List aH} {ops:Array Oper} {Q:Exit→Act→World→Prop}
theorem Oper.PQ {F:Fence} {n:Nat} {P:Program} {o:Oper} {a:Act} {K:Act→World→Prop} {r:Result Next} (h:o.uponIn F n P a K (rT K Q) r):o.uponIn F n P a K Q r:=by
 cases r with
 | ok m tu=>
   cases m <;> simp only [Oper.uponIn] at h ⊢ <;>
    first
     | exact h
     | exact⟨h.1,CallsIn.mono h.2 (fun e rA he=>by cases e <;> exact he)⟩
     | exact⟨h.1,RoundIn.mono h.2 (fun e rA he=>by cases e <;> exact he)⟩
 | halt x tu=>cases x <;> simp only [Oper.uponIn] at h ⊢ <;> exact h
theorem H7 {i:Nat} {o:Oper} {K:Act→World→Prop} {a:Act} {W:World} (al:ops[i]? =some o) (h:c.qf ops (rT K Q) [o] a W):wpOpIn c.F 9 c.P ops Q i K a W:=by
 unfold wpOpIn
 simp only [al]
 simp only [cU.qf,wpListIn] at h
 split
 ·rename_i hw
  rw [if_pos hw] at h
  exact⟨h.1,Oper.PQ h.2⟩
 ·rename_i hw
  rw [if_neg hw] at h
  exact h
def yf (c:cU) (ops:Array Oper) (Q:Exit→Act→World→Prop) (f:Nat) (bL:Array Bool) (E:List (Nat × I)) (L:List aH):List Nat→Prop
 | []=>True
 | i :: r=>(∃ o,ops[i]? =some o∧ah c ops (rT (wpAnyIn c.F 9 c.P .any ops Q f (bL.setIfInBounds i true)) Q) [o] E L)∧yf c ops Q f bL E L r
theorem yf.get {f:Nat} {bL:Array Bool} :∀ {vP:List Nat},yf c ops Q f bL E L vP→ ∀ i∈vP,∃ o,ops[i]? =some o∧ah c ops (rT (wpAnyIn c.F 9 c.P .any ops Q f (bL.setIfInBounds i true)) Q) [o] E L
 | _ :: _,h,i,al=>by
   rcases List.mem_cons.1 al with rfl | al
   ·exact h.1
   ·exact yf.get h.2 i al
theorem bs.step {f:Nat} {bL:Array Bool} (vP:List Nat) (aS:Region.ready .any ops bL=vP) (dv:vP.isEmpty=false) (h:yf c ops Q f bL E L vP):bs c ops Q (f + 1) bL E L:=fun a W s=>
 ⟨fun bJ=>(by rw [← aS,bJ] at dv; exact absurd dv (by simp)),fun i al=>(by
  rw [aS] at al
  obtain⟨o,J,ab⟩:=h.get i al
  exact H7 J (ab a W s))⟩
theorem bs.le {f:Nat} {bL:Array Bool} {E':List (Nat × I)} (h:gP E E') (k:bs c ops Q f bL E' L):bs c ops Q f bL E L:=fun a W s=>k a W (s.less h.look)
theorem ag.any {f:Nat} {bL xt:Array Bool} (aq:bL=xt) (k:bs c ops Q f xt E L):ag c (rT (wpAnyIn c.F 9 c.P .any ops Q f bL) Q) .normal E L:=fun a W s=>by
 subst aq
 exact k a W s
theorem bs.cut {γ:Type} (vQ:Nat) (xt:Array Bool) (E':γ→List (Nat × I)) (ay:γ→List aH) {f:Nat} {bL:Array Bool} (J:∀ g,bs c ops Q vQ xt (E' g) (ay g))
 (ab:(∀ g,bs c ops Q vQ xt (E' g) (ay g))→bs c ops Q f bL E L):bs c ops Q f bL E L:=ab J
theorem ai.K6 {qj:Nat} {l:List Oper} (hm:c.P.follows .mixedOrders=true) (n:Nat) (ls:Array Bool) (aO:l.length=n) (Gf:Array.replicate n false=ls) (h:bs c l.toArray Q n ls E L):ai c Q (.region qj l.toArray true) E L:=fun a W s=>by
 subst aO Gf
 refine wpIn_region_any hm ?_
 have:=h a W.drew (s.world (Fr.drew W))
 simpa using this
theorem ag.perm {x:Exit} {ay:List aH} (h:L.Perm ay) (k:ag c Q x E ay):ag c Q x E L:=fun a W s=>k a W (s.perm h)
end
end Gv
namespace Gv
open Go
set_option linter.unusedVariables false
set_option linter.unusedSimpArgs false
section
variable {c:cU} {E:List (Nat × I)} {L:List aH} {ops:Array Oper} {Q:Exit→Act→World→Prop}
variable {d:Option Tmp} {ty:TypeId} {pos:String} {af:Array Edge} {g:Option (Nat × Bool)} {x y:Operand} {t t2:TypeId}
theorem ah.oT {α:Type} [ad α] {rest:List Oper} {a6 e n:Nat} {z:α} {r:List α} {bl:List (Nat × Operand)} (hu:c.P.underlying t=some (.slice e)) (e5:bt c.P e α) (fN:cx c.P e z) (hs:Nat.beq (ad.size α) 0=false) (aO:Nat.ble (n * ad.size α) 16777216=true)
 (a8:l2 c E L (List.replicate n z) bl r) (j7:Nat.blt a6 c.n=true) (k:∀ p,ah c ops Q rest ((a6,.eq (aV p r.length n)) :: E) (⟨p,.row e r n⟩ :: L)):
 ah c ops Q (⟨some a6,.buildSlice t n bl.toArray,ty,pos,af,none⟩ :: rest) E L:=fun a W s=>by
 obtain⟨fG,dB,dJ,dR,o5⟩:=fN.zero
 have lz:fG.size=ad.size α:=by
  obtain⟨i2,J,ab⟩:=e5.info
  rw [dJ] at J; cases J; exact ab
 have eP:ad.size α≠0:=fun h=>by rw [h] at hs; cases hs
 have oi:=xa (o5 (aJ L ++ c.bP) W) n eP
 obtain⟨dk,aC,aU,aZ⟩:=a8.run a W s _ oi
 have hlen:r.length=n:=by rw [aZ]; simp
 have hm:(bl.toArray.map fun(x:Nat × Operand)=>(x.1,a.eval x.2)).toList=bl.map fun(i,x)=>(i,a.eval x):=by simp
 have UT:=Nat.le_of_ble_eq_true aO
 refine hH rfl (R:=fun v W'=>v= .slice (some ⟨W.heap.size,0,none⟩) n n∧W'=W.alloc (.cells dk e)) (.lr (v:= .slice (some ⟨W.heap.size,0,none⟩) n n) (W':=W.alloc (.cells dk e)) ?_ ⟨rfl,rfl⟩) fun v W' ⟨J,ab⟩=> ?_
 ·simp only [execOp,Instr.buildSlice,Sem.run_bind,run_underlying hu,Result.andThen_ok,Go.sizeOf,typeInfo,run_program,dJ,Sem.run_pure,lz]
  rw [if_neg (by omega)]
  try simp only [Sem.run_pure,Result.andThen_ok,Sem.run_bind]
  by_cases bJ:n * ad.size α=0
  ·have rF:n=0:=by
    rcases Nat.mul_eq_zero.1 bJ with h | h
    ·exact h
    ·exact absurd h eP
   subst rF
   simp only [Nat.zero_mul,if_true,Sem.run_pure,Result.andThen_ok]
   try simp only [Nat.zero_mul] at aC
   have kR:((Array.range 0).map (fun x=>(#[]:Array Value)[x % (#[]:Array Value).size]!))=((Array.range 0).map (dB.cells[· % dB.cells.size]!)):=by simp
   simp only [pure_bind]
   rw [kR,hm,aC]
   simp [newRow]
  ·simp only [bJ,if_false,Sem.run_bind,zeroValue,typeInfo,run_program,Result.andThen_ok,dJ,dR,Sem.run_pure]
   rw [hm,aC]
   simp [newRow]
 ·subst J ab
  have yF:n≤maxLen:=by
   have:n * 1≤n * ad.size α:=Nat.mul_le_mul_left _ (by omega)
   have:maxLen=9223372036854775807:=rfl
   omega
  have en:dk.size=n * ad.size α:=by have:=aU.1; rw [hlen] at this; simpa using this
  have bV:=s.alloc (o:= .cells dk e) (cp:= .row e r n) ⟨dk,rfl,en,by omega,yF,by
   have bn:=aU.1
   rw [← bn,List.take_length]
   exact aU⟩
  refine k (some W.heap.size) _ _ (bV.put (τ:= .eq (aV (some W.heap.size) r.length n)) (by simpa using j7) ?_)
  show _=_
  rw [hlen]; rfl
theorem ah.ke {l:List Oper} {key:Option Nat} {n m cap:Nat} (eM:Nat) (aq:look E eM=some (.eq (aV key n cap))) (aO:n=m) (k:ah c ops Q l ((eM,.eq (aV key m cap)) :: E) L):ah c ops Q l E L:=fun a W s=>by
 subst aO
 refine k a W (s.less fun t τ h=> ?_)
 simp only [look] at h
 by_cases e:Nat.beq eM t=true
 ·rw [e] at h
  simp only [cond_true] at h
  have:=eF.1 e
  subst this
  exact⟨τ,by rw [aq,h],fun _ _ _ h=>h⟩
 ·simp only [Bool.not_eq_true] at e
  rw [e] at h
  exact⟨τ,h,fun _ _ _ h=>h⟩
end
theorem ll {α:Type} {xs r:List α} {k:Nat} {v:α} (h:gI xs k v=r):xs.length=r.length:=by rw [← h]; simp [gI]
theorem Im {α:Type} [Inhabited α] {xs r:List α} {lo n:Nat} (aO:lo + n≤xs.length) (h:mF xs lo n=r):xs.length=r.length:=by rw [← h]; simp [mF]; omega
theorem Dk {α:Type} {b:Nat} {r:List α} (h:((fT b [] ([]:List α)).bind fun y=>some y)=some r):r= []:=by
 obtain⟨y,J,ab⟩:=bind_some h
 obtain⟨_,_,aC⟩:=IP J
 rw [aC] at ab
 exact(aI ab).symm
end Gv
