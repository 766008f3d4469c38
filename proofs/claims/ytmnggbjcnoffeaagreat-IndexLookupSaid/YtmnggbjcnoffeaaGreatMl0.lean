/-
  The library of the decompiler, as far as it is needed here. Conditions: none.
-/
import Derived.WalkKit
import Derived.StillTail
import Derived.OwnWalkIn
import Derived.RangeFuncNested
import Derived.RangeFuncLeaves
import Derived.RangeFuncCalls
import Derived.ChangeSame
import Derived.OpenShut
import Derived.Carry
import Derived.DataReads
namespace Gv
open Go
theorem yk (w:World) (o:Obj) (i:Nat) (h:i < w.heap.size):(w.alloc o).heap[i]? =w.heap[i]? :=by
 show(w.heap.push o)[i]? =w.heap[i]?
 rw [Array.getElem?_push,if_neg (Nat.ne_of_lt h)]
theorem EJ (w:World) (o:Obj):(w.alloc o).heap[w.heap.size]? =some o:=by
 show(w.heap.push o)[w.heap.size]? =some o
 simp
structure Fr (X:List Nat) (W W':World):Prop where
 os:W'.os=W.os
 tape:W'.tape=W.tape
 output:W'.output=W.output
 size:W.heap.size≤W'.heap.size
 block:∀ k,k < W.heap.size→k ∉ X→W'.heap[k]? =W.heap[k]?
theorem Fr.refl (X:List Nat) (W:World):Fr X W W:=⟨rfl,rfl,rfl,Nat.le_refl _,fun _ _ _=>rfl⟩
theorem Fr.trans {X:List Nat} {A B C:World} (h:Fr X A B) (k:Fr X B C):Fr X A C:=
 ⟨k.os.trans h.os,k.tape.trans h.tape,k.output.trans h.output,Nat.le_trans h.size k.size,
   fun i au aq=>(k.block i (Nat.lt_of_lt_of_le au h.size) aq).trans (h.block i au aq)⟩
theorem Fr.weaken {X Y:List Nat} {A B:World} (h:Fr X A B) (s:∀ k∈X,k∈Y):Fr Y A B:=
 ⟨h.os,h.tape,h.output,h.size,fun i au aq=>h.block i au fun hm=>aq (s _ hm)⟩
theorem Fr.nil {X:List Nat} {A B:World} (h:Fr [] A B):Fr X A B:=h.weaken (by simp)
theorem Fr.only {X Y:List Nat} {A B:World} (h:Fr X A B) (s:∀ k∈X,k < A.heap.size→k∈Y):Fr Y A B:=
 ⟨h.os,h.tape,h.output,h.size,fun i au aq=>h.block i au fun hm=>aq (s _ hm au)⟩
theorem Fr.alloc {X:List Nat} (W:World) (o:Obj):Fr X W (W.alloc o):=
 ⟨rfl,rfl,rfl,by simp,fun k ax _=>yk W o k ax⟩
theorem Fr.drew {X:List Nat} (W:World):Fr X W W.drew:=⟨rfl,rfl,rfl,Nat.le_refl _,fun _ _ _=>rfl⟩
theorem Fr.setRow {X:List Nat} (W:World) (g:Nat) (cs:Array Value) (h:g∈X):Fr X W (W.setRow g cs):=
 ⟨rfl,rfl,rfl,by simp,fun k _ aq=>setRow_other W g k cs (fun e=>aq (e ▸ h))⟩
structure Ext (A:List Nat) (W:World) (cQ:List Nat) (W':World):Prop where
 size:W.heap.size≤W'.heap.size
 block:∀ k,k < W.heap.size→k ∉ A→W'.heap[k]? =W.heap[k]?
 new:∀ k∈cQ,k < W.heap.size→k∈A
theorem Ext.refl (A:List Nat) (W:World):Ext A W A W:=⟨Nat.le_refl _,fun _ _ _=>rfl,fun _ h _=>h⟩
theorem Ext.trans {A B C:List Nat} {U V W:World} (h:Ext A U B V) (k:Ext B V C W):Ext A U C W:=
 ⟨Nat.le_trans h.size k.size,
  fun i au bn=>(k.block i (Nat.lt_of_lt_of_le au h.size) (fun hb=>bn (h.new i hb au))).trans (h.block i au bn),
  fun i ar au=>h.new i (k.new i ar (Nat.lt_of_lt_of_le au h.size)) au⟩
theorem Ext.Tt {A X:List Nat} {W W':World} (h:Fr X W W') (s:∀ k∈X,k∈A):Ext A W A W':=
 ⟨h.size,fun k ax bn=>h.block k ax fun aq=>bn (s k aq),fun _ h _=>h⟩
theorem Ext.dm {A:List Nat} {W W':World} (h:Fr [] W W'):Ext A W A W':= .Tt h (by simp)
theorem Ext.drop {A cQ:List Nat} {W:World} (s:∀ k∈cQ,k∈A):Ext A W cQ W:=⟨Nat.le_refl _,fun _ _ _=>rfl,fun k h _=>s k h⟩
structure I where
 holds:List Nat→World→Value→Prop
 mono:∀ {A W cQ W' v},Ext A W cQ W'→holds A W v→holds cQ W' v
class ah (α:Type) where
 size:Nat
 agg:Bool
 rep:List Nat→World→List Value→α→Prop
 len:∀ {A W cs x},rep A W cs x→cs.length=size
 one:∀ {A W cs x},rep A W cs x→ ∀ v∈cs,v.oneCell'=true
 flat:agg=false→size=1
 mono:∀ {A W cQ W' cs x},Ext A W cQ W'→rep A W cs x→rep cQ W' cs x
def shaped (b:Bool) (v:Value):Prop:=if b=true then ∃ cs,v= .agg cs else v.oneCell'=true
theorem m7 {v:Value} (h:v.oneCell'=true):v.cells= #[v]:=by cases v <;> first | rfl | simp [Value.oneCell'] at h
def I.of {α:Type} [ah α] (x:α):I where
 holds A W v:=shaped (ah.agg α) v∧ah.rep A W v.cells.toList x
 mono e h:=⟨h.1,ah.mono e h.2⟩
def I.eq (u:Value):I where
 holds _ _ v:=v=u
 mono _ h:=h
def I.cond (c:Prop) (τ:I):I where
 holds A W v:=(c→τ.holds A W v)∧ (¬ c→v=undef)
 mono e h:=⟨fun ar=>τ.mono e (h.1 ar),h.2⟩
def I.any:I where
 holds _ _ _:=True
 mono _ h:=h
inductive fV (A:List Nat) (W:World):List I→List Value→Prop
 | nil:fV A W [] []
 | cons {τ v τs vs} :τ.holds A W v→fV A W τs vs→fV A W (τ :: τs) (v :: vs)
theorem fV.mono {A W cQ W'} (e:Ext A W cQ W'):∀ {τs vs},fV A W τs vs→fV cQ W' τs vs
 | _,_,.nil=> .nil
 | _,_,.cons h r=> .cons (I.mono _ e h) (r.mono e)
theorem fV.length {A W} :∀ {τs vs},fV A W τs vs→vs.length=τs.length
 | _,_,.nil=>rfl
 | _,_,.cons _ r=>by simp [r.length]
def I.cG (τs:List I):I where
 holds A W v:= ∃ vs:Array Value,v= .tuple vs∧fV A W τs vs.toList
 mono e h:=let⟨vs,a2,ch⟩:=h; ⟨vs,a2,ch.mono e⟩
def I.ptr {α:Type} [ah α] (x:α):I where
 holds A W v:= ∃ b off cur T gq,v= .pointer (some ⟨b,off,none⟩)∧b ∉ A∧W.heap[b]? =some (.cells cur T gq)∧off + ah.size α≤cur.size∧ah.rep A W ((cur.toList.drop off).take (ah.size α)) x
 mono e h:=by
  obtain⟨b,off,cur,T,gq,rfl,hb,ch,hs,aU⟩:=h
  have cl:b < _:=(Array.getElem?_eq_some_iff.1 ch).1
  exact⟨b,off,cur,T,gq,rfl,fun hm=>hb (e.new b hm cl),by rw [e.block b cl hb]; exact ch,hs,ah.mono e aU⟩
structure dx where
 holds:List Nat→World→Obj→Prop
 mI:Prop
 mono:∀ {A W cQ W' o},Ext A W cQ W'→holds A W o→holds cQ W' o
def dx.var {α:Type} [ah α] (x:α):dx where
 holds A W o:= ∃ cs T,o= .cells cs T (0,0)∧ah.rep A W cs.toList x
 mI:=False
 mono e h:=let⟨cs,T,bh,aU⟩:=h; ⟨cs,T,bh,ah.mono e aU⟩
def fW {α:Type} [ah α] (A:List Nat) (W:World) (cs:List Value) (xs:List α):Prop:=
 cs.length=xs.length * ah.size α∧ ∀ i (h:i < xs.length),ah.rep A W ((cs.drop (i * ah.size α)).take (ah.size α)) xs[i]
theorem fW.mono {α:Type} [ah α] {A W cQ W'} {cs:List Value} {xs:List α} (e:Ext A W cQ W') (h:fW A W cs xs):fW cQ W' cs xs:=
 ⟨h.1,fun i au=>ah.mono e (h.2 i au)⟩
def dx.row {α:Type} [ah α] (T:TypeId) (xs:List α) (cap:Nat):dx where
 holds A W o:= ∃ cs,o= .cells cs T (0,0)∧cs.size=cap * ah.size α∧xs.length≤cap∧cap≤maxLen∧fW A W (cs.toList.take (xs.length * ah.size α)) xs
 mI:=xs= []∧cap=0
 mono e h:=let⟨cs,aa,ae,aD,aZ,a6⟩:=h; ⟨cs,aa,ae,aD,aZ,a6.mono e⟩
def dx.dead:dx where
 holds _ _ _:=True
 mI:=True
 mono _ h:=h
structure aL where
 key:Option Nat
 cp:dx
def aL.ok (A:List Nat) (W:World) (e:aL):Prop:=
 match e.key with
 | some p=> ∃ o,W.heap[p]? =some o∧e.cp.holds A W o
 | none=>e.cp.mI
def aN:List aL→List Nat
 | []=> []
 | e :: r=>match e.key with
   | some p=>p :: aN r
   | none=>aN r
theorem kh {L:List aL} {k:Nat} :k∈aN L↔ ∃ e∈L,e.key=some k:=by
 induction L with
 | nil=>simp [aN]
 | cons e r b0=>
   cases ax:e.key with
   | none=>simp [aN,ax,b0]
   | some p=>simp [aN,ax,b0,eq_comm]
structure cY where
 P:Program
 n:Nat
 hY:World
 X:List Nat
 bP:List Nat
 rd:Option Nat
 ds:List Nat
def B5 (D:Nat):Deferred:= { target:= .collected D,args:= #[] }
abbrev cY.F (c:cY):Fence:= { fn:=fun _=>True,depth:=none,alive:=false,round:=c.rd }
abbrev cY.wp (c:cY) (y:Code) (Q:Exit→Act→World→Prop):Act→World→Prop:=y.wpIn c.F 9 c.P Q
abbrev cY.oD (c:cY) (ops:Array Oper) (Q:Exit→Act→World→Prop):List Oper→Act→World→Prop:=wpListIn c.F 9 c.P ops Q
def look:List (Nat × I)→Nat→Option I
 | [],_=>none
 | (s,τ) :: r,t=>bif Nat.beq s t then some τ else look r t
structure bC (c:cY) (E:List (Nat × I)) (L:List aL) (a:Act) (W:World):Prop where
 defers:a.defers=c.ds.map B5
 size:a.tmps.size=c.n
 env:∀ t τ,look E t=some τ→ ∃ v,a.tmps[t]? =some v∧τ.holds (aN L ++ c.bP) W v
 dm:Fr c.X c.hY W
 own:∀ e∈L,e.ok (aN L ++ c.bP) W
 nodup:(aN L).Nodup
 lt:∀ k∈aN L,k < W.heap.size
 fI:∀ k∈aN L,k < c.hY.heap.size→k∈c.X
 eB:∀ k∈c.bP,k < W.heap.size∧k ∉ aN L
theorem eO {s t:Nat} :Nat.beq s t=true↔s=t:=by
 constructor
 ·exact Nat.eq_of_beq_eq_true
 ·rintro rfl; exact Nat.beq_refl s
theorem bC.Bu {c E L a W} (h:bC c E L a W):∀ k∈aN L ++ c.bP,k < W.heap.size:=by
 intro k ax
 rcases List.mem_append.1 ax with ax | ax
 ·exact h.lt k ax
 ·exact(h.eB k ax).1
theorem bC.world {c E L a W W'} (h:bC c E L a W) (f:Fr [] W W'):bC c E L a W' where
 defers:=h.defers
 size:=h.size
 env t τ an:=let⟨v,aa,ae⟩:=h.env t τ an; ⟨v,aa,τ.mono (.dm f) ae⟩
 dm:=h.dm.trans f.nil
 own e he:=by
  have aa:=h.own e he
  unfold aL.ok at *
  split at aa
  ·rename_i p hp
   obtain⟨o,bh,ch⟩:=aa
   have cl:=h.lt p (kh.2 ⟨e,he,hp⟩)
   exact⟨o,by rw [f.block p cl (by simp)]; exact bh,dx.mono _ (.dm f) ch⟩
  ·exact aa
 nodup:=h.nodup
 lt k ax:=Nat.lt_of_lt_of_le (h.lt k ax) f.size
 fI:=h.fI
 eB k ax:=⟨Nat.lt_of_lt_of_le (h.eB k ax).1 f.size,(h.eB k ax).2⟩
theorem bC.put {c E L a W} (h:bC c E L a W) {d:Nat} (hd:d < c.n) {v:Value} {τ:I} (a2:τ.holds (aN L ++ c.bP) W v):
 bC c ((d,τ) :: E) L (a.put (some d) v) W where
 defers:=h.defers
 size:=by simp [Act.put,h.size]
 env t lD an:=by
  simp only [look] at an
  simp only [Act.put]
  by_cases e:Nat.beq d t=true
  ·rw [e] at an
   simp only [cond_true,Option.some.injEq] at an
   subst an
   have:=eO.1 e
   subst this
   exact⟨v,by simp [h.size,hd],a2⟩
  ·simp only [Bool.not_eq_true] at e
   rw [e] at an
   simp only [cond_false] at an
   obtain⟨u,aa,ae⟩:=h.env t lD an
   have dn:d≠t:=fun h=>by rw [eO.2 h] at e; cases e
   exact⟨u,by rw [Array.getElem?_setIfInBounds_ne dn]; exact aa,ae⟩
 dm:=h.dm
 own:=h.own
 nodup:=h.nodup
 lt:=h.lt
 fI:=h.fI
 eB:=h.eB
theorem bC.su {c E L a W} (s:bC c E L a W) (h:c.ds= []):a.defers= []:=by rw [s.defers,h]; rfl
theorem bC.less {c E E' L a W} (h:bC c E L a W) (aE:∀ t τ,look E' t=some τ→ ∃ σ,look E t=some σ∧ ∀ A W v,σ.holds A W v→τ.holds A W v):bC c E' L a W:=
 {h with env:=fun t τ an=>let⟨_,aa,ae⟩:=aE t τ an; let⟨v,aD,aZ⟩:=h.env t _ aa; ⟨v,aD,ae _ _ _ aZ⟩ }
theorem bC.alloc {c E L a W} (h:bC c E L a W) {o:Obj} {cp:dx} (ar:cp.holds (aN L ++ c.bP) W o):
 bC c E (⟨some W.heap.size,cp⟩ :: L) a (W.alloc o):=by
 have zi:W.heap.size ∉ aN L:=fun hm=>Nat.lt_irrefl _ (h.lt _ hm)
 have gC:Ext (aN L ++ c.bP) W (aN (⟨some W.heap.size,cp⟩ :: L) ++ c.bP) (W.alloc o):=
  ⟨by simp,fun k ax _=>yk W o k ax,fun k ax cl=>by
   simp only [aN,List.cons_append,List.mem_cons] at ax
   rcases ax with rfl | ax
   ·exact absurd cl (Nat.lt_irrefl _)
   ·exact ax⟩
 exact
 {defers:=h.defers
  size:=h.size
  env:=fun t τ an=>let⟨v,aa,ae⟩:=h.env t τ an; ⟨v,aa,τ.mono gC ae⟩
  dm:=h.dm.trans (Fr.alloc W o)
  own:=fun e he=>by
   rcases List.mem_cons.1 he with rfl | he
   ·exact⟨o,EJ W o,cp.mono gC ar⟩
   ·have aa:=h.own e he
    unfold aL.ok at *
    split at aa
    ·rename_i p hp
     obtain⟨o',bh,ch⟩:=aa
     exact⟨o',by rw [yk W o p (h.lt p (kh.2 ⟨e,he,hp⟩))]; exact bh,dx.mono _ gC ch⟩
    ·exact aa
  nodup:=by simp only [aN]; exact List.nodup_cons.2 ⟨zi,h.nodup⟩
  lt:=fun k ax=>by
   simp only [aN,List.mem_cons] at ax
   rw [World.size_alloc]
   rcases ax with rfl | ax
   ·omega
   ·have:=h.lt k ax; omega
  fI:=fun k ax cl=>by
   simp only [aN,List.mem_cons] at ax
   rcases ax with rfl | ax
   ·have:=h.dm.size; omega
   ·exact h.fI k ax cl
  eB:=fun k ax=>by
   obtain⟨aa,ae⟩:=h.eB k ax
   refine⟨by rw [World.size_alloc]; omega,fun hm=> ?_⟩
   simp only [aN,List.mem_cons] at hm
   rcases hm with rfl | hm
   ·omega
   ·exact ae hm }
theorem bC.sub {c E L L' a W} (h:bC c E L a W) (ao:∀ e∈L',e∈L) (aP:(aN L').Nodup):bC c E L' a W:=by
 have ax:∀ k∈aN L',k∈aN L:=fun k ax=>by
  obtain⟨e,he,ae⟩:=kh.1 ax
  exact kh.2 ⟨e,ao e he,ae⟩
 have gC:Ext (aN L ++ c.bP) W (aN L' ++ c.bP) W:= .drop fun k hm=>by
  rcases List.mem_append.1 hm with hm | hm
  ·exact List.mem_append.2 (.inl (ax k hm))
  ·exact List.mem_append.2 (.inr hm)
 exact
 {defers:=h.defers
  size:=h.size
  env:=fun t τ an=>let⟨v,aa,ae⟩:=h.env t τ an; ⟨v,aa,τ.mono gC ae⟩
  dm:=h.dm
  own:=fun e he=>by
   have aa:=h.own e (ao e he)
   unfold aL.ok at *
   split at aa
   ·obtain⟨o',bh,ch⟩:=aa
    exact⟨o',bh,dx.mono _ gC ch⟩
   ·exact aa
  nodup:=aP
  lt:=fun k hm=>h.lt k (ax k hm)
  fI:=fun k hm=>h.fI k (ax k hm)
  eB:=fun k hm=>⟨(h.eB k hm).1,fun ae=>(h.eB k hm).2 (ax k ae)⟩ }
theorem eH (L R:List aL):aN (L ++ R)=aN L ++ aN R:=by
 induction L with
 | nil=>rfl
 | cons e r b0=>cases ax:e.key <;> simp [aN,ax,b0]
theorem vc {L:List aL} {i:Nat} {e:aL} {cp:dx} (au:L[i]? =some e):aN (L.set i ⟨e.key,cp⟩)=aN L:=by
 induction L generalizing i with
 | nil=>simp at au
 | cons x r b0=>
   cases i with
   | zero=>simp only [List.getElem?_cons_zero,Option.some.injEq] at au; subst au; simp [aN]
   | succ i=>simp only [List.getElem?_cons_succ] at au; simp [aN,b0 au]
theorem EK {L:List aL} (aP:(aN L).Nodup) {i j:Nat} {e f:aL} {p:Nat} (au:L[i]? =some e) (aG:L[j]? =some f) (he:e.key=some p) (ba:f.key=some p):i=j:=by
 induction L generalizing i j with
 | nil=>simp at au
 | cons x r b0=>
   have aU:(aN r).Nodup:=by
    cases aq:x.key with
    | none=>simpa [aN,aq] using aP
    | some q=>simp only [aN,aq] at aP; exact(List.nodup_cons.1 aP).2
   have rC:∀ q,x.key=some q→q ∉ aN r:=fun q aq=>by simp only [aN,aq] at aP; exact(List.nodup_cons.1 aP).1
   cases i with
   | zero=>
     simp only [List.getElem?_cons_zero,Option.some.injEq] at au
     subst au
     cases j with
     | zero=>rfl
     | succ j=>
       simp only [List.getElem?_cons_succ] at aG
       exact absurd (kh.2 ⟨f,List.mem_of_getElem? aG,ba⟩) (rC p he)
   | succ i=>
     simp only [List.getElem?_cons_succ] at au
     cases j with
     | zero=>
       simp only [List.getElem?_cons_zero,Option.some.injEq] at aG
       subst aG
       exact absurd (kh.2 ⟨e,List.mem_of_getElem? au,he⟩) (rC p ba)
     | succ j=>
       simp only [List.getElem?_cons_succ] at aG
       rw [b0 aU au aG]
theorem bC.store {c E L a W} (h:bC c E L a W) {i p:Nat} {cp cp':dx} (au:L[i]? =some ⟨some p,cp⟩) {cs dA:Array Value} {T:TypeId}
 (bh:W.heap[p]? =some (.cells cs T (0,0))) (ar:cp'.holds (aN L ++ c.bP) W (.cells dA T (0,0))):
 bC c E (L.set i ⟨some p,cp'⟩) a (W.setRow p dA):=by
 have gG:aN (L.set i ⟨some p,cp'⟩)=aN L:=vc (cp:=cp') au
 have hp:p∈aN L:=kh.2 ⟨_,List.mem_of_getElem? au,rfl⟩
 have gC:Ext (aN L ++ c.bP) W (aN L ++ c.bP) (W.setRow p dA):=
  ⟨by simp,fun k _ bn=>setRow_other W p k dA (fun e=>bn (e ▸ List.mem_append.2 (.inl hp))),fun _ h _=>h⟩
 exact
 {defers:=h.defers
  size:=h.size
  env:=fun t τ an=>by rw [gG]; exact let⟨v,aa,ae⟩:=h.env t τ an; ⟨v,aa,τ.mono gC ae⟩
  dm:=⟨h.dm.os,h.dm.tape,h.dm.output,by simpa using h.dm.size,fun k ax aq=>by
   rw [setRow_other W p k dA (fun e=>aq (e ▸ h.fI p hp (e ▸ ax)))]
   exact h.dm.block k ax aq⟩
  own:=fun e he=>by
   rw [gG]
   obtain⟨j,aG⟩:=List.mem_iff_getElem?.1 he
   rw [List.getElem?_set] at aG
   split at aG
   ·rename_i eY
    subst eY
    split at aG
    ·simp only [Option.some.injEq] at aG
     subst aG
     exact⟨_,setRow_heap W p cs dA T (0,0) bh,cp'.mono gC ar⟩
    ·cases aG
   ·rename_i eY
    have aa:=h.own e (List.mem_of_getElem? aG)
    unfold aL.ok at *
    split at aa
    ·rename_i q hq
     obtain⟨o',qn,ch⟩:=aa
     have dn:q≠p:=fun e'=>eY (EK h.nodup au aG rfl (e' ▸ hq))
     exact⟨o',by rw [setRow_other W p q dA dn]; exact qn,dx.mono _ gC ch⟩
    ·exact aa
  nodup:=by rw [gG]; exact h.nodup
  lt:=by rw [gG]; simpa using h.lt
  fI:=by rw [gG]; exact h.fI
  eB:=by rw [gG]; simpa using h.eB }
end Gv
namespace Gv
open Go
abbrev ah.scalar {α:Type} (val:α→Value) (h:∀ x,(val x).oneCell'=true):ah α where
 size:=1
 agg:=false
 rep _ _ cs x:=cs= [val x]
 len h:=by rw [h]; rfl
 one aU:=by subst aU; intro v a2; rw [List.mem_singleton.1 a2]; exact h _
 flat _:=rfl
 mono _ h:=h
instance:ah Bool:= .scalar Value.bool fun _=>rfl
instance:ah Int:= .scalar (Value.int .i64) fun _=>rfl
instance:ah (BitVec 64):= .scalar (fun x=>Value.int .u64 (x.toNat:Int)) fun _=>rfl
instance:ah (BitVec 32):= .scalar (fun x=>Value.int .u32 (x.toNat:Int)) fun _=>rfl
instance:ah (BitVec 16):= .scalar (fun x=>Value.int .u16 (x.toNat:Int)) fun _=>rfl
instance:ah (BitVec 8):= .scalar (fun x=>Value.int .u8 (x.toNat:Int)) fun _=>rfl
instance:ah ByteArray:= .scalar Value.string fun _=>rfl
theorem m6 {v u:Value} (h:v.oneCell'=true) (e:v.cells.toList= [u]):v=u:=by
 rw [m7 h] at e
 simpa using e
theorem of_bool {A W v} {b:Bool} :(I.of b).holds A W v↔v= .bool b:=
 ⟨fun h=>m6 h.1 h.2,fun h=>by subst h; exact⟨rfl,rfl⟩⟩
theorem of_int {A W v} {x:Int} :(I.of x).holds A W v↔v= .int .i64 x:=
 ⟨fun h=>m6 h.1 h.2,fun h=>by subst h; exact⟨rfl,rfl⟩⟩
theorem fF {A W v} {x:BitVec 64} :(I.of x).holds A W v↔v= .int .u64 (x.toNat:Int):=
 ⟨fun h=>m6 h.1 h.2,fun h=>by subst h; exact⟨rfl,rfl⟩⟩
theorem BS {A W v} {x:BitVec 8} :(I.of x).holds A W v↔v= .int .u8 (x.toNat:Int):=
 ⟨fun h=>m6 h.1 h.2,fun h=>by subst h; exact⟨rfl,rfl⟩⟩
theorem Kj {A W v} {x:ByteArray} :(I.of x).holds A W v↔v= .string x:=
 ⟨fun h=>m6 h.1 h.2,fun h=>by subst h; exact⟨rfl,rfl⟩⟩
def a7 (c:cY) (E:List (Nat × I)) (L:List aL) (x:Operand) (τ:I):Prop:= ∀ a W,bC c E L a W→τ.holds (aN L ++ c.bP) W (a.eval x)
section
variable {c:cY} {E:List (Nat × I)} {L:List aL}
theorem ad {t:Nat} {τ:I} (h:look E t=some τ):a7 c E L (.tmp t) τ:=fun a W s=>by
 obtain⟨v,aa,ae⟩:=s.env t τ h
 have:a.eval (.tmp t)=v:=by simp [Act.eval,aa]
 rw [this]; exact ae
theorem b3 {t:Nat} {τ:I} {p:Prop} (h:look E t=some (.cond p τ)) (hp:p):a7 c E L (.tmp t) τ:=fun a W s=>(ad h a W s).1 hp
theorem Ex (v:Value):a7 c E L (.const v) (.eq v):=fun _ _ _=>rfl
theorem bD (k:Int):a7 c E L (.const (.int .i64 k)) (.of k):=fun _ _ _=>of_int.2 rfl
theorem fD (b:Bool):a7 c E L (.const (.bool b)) (.of b):=fun _ _ _=>of_bool.2 rfl
theorem fi (x:BitVec 64) {k:Int} (h:(x.toNat:Int)=k):a7 c E L (.const (.int .u64 k)) (.of x):=fun _ _ _=>fF.2 (by rw [h]; rfl)
theorem di (s:ByteArray):a7 c E L (.const (.string s)) (.of s):=fun _ _ _=>Kj.2 rfl
def gh (P:Program) (o:Oper) (a:Act) (W:World) (R:Value→World→Prop):Prop:=
 o.wp P a W (fun iE W'=> ∃ v,iE=a.put o.dst v∧R v W') (fun _ _ _=>False)
theorem CallsIn.Ei {rd:Option Nat} {n:Nat} {P:Program} {f:FuncId} {args:Array Value} {w:World} {R:Ending→World→Prop}
 (h:Calls P f args w R):CallsIn { fn:=fun _=>True,depth:=none,alive:=false,round:=rd } n P f args w R:=
 (callsIn_wide (n:=n)).2 h
theorem RowsIn.RQ {rd:Option Nat} {n:Nat} {P:Program} {row:String} {args:Array Value} {w:World} {R:Value→World→Prop}
 (h:Rows P row args w R):RowsIn { fn:=fun _=>True,depth:=none,alive:=false,round:=rd } n P row args w R:=
 fun c cs _=>let⟨v,tQ,r,s⟩:=h c cs; ⟨v,tQ,r,stepsIn_wide.2 s⟩
theorem gh.wp {P:Program} {o:Oper} {a:Act} {W:World} {R:Value→World→Prop} {next:Act→World→Prop} {Q:Exit→Act→World→Prop}
 (h:gh P o a W R) (ax:∀ v W',R v W'→next (a.put o.dst v) W'):o.wp P a W next Q:=by
 unfold gh Oper.wp at *
 generalize (execOp a.eval o).run P W=r at *
 cases r with
 | ok n W'=>
   cases n <;> simp only [Oper.upon] at h ⊢
   case value v=>obtain⟨u,aa,ae⟩:=h; rw [aa]; exact ax _ _ ae
   case skip=>obtain⟨u,aa,ae⟩:=h; rw [aa]; exact ax _ _ ae
   case defer d=>obtain⟨u,aa,ae⟩:=h; rw [aa]; exact ax _ _ ae
   case enter f args=>
    refine h.mono fun e rJ he=> ?_
    cases e with
    | returned v=>obtain⟨u,aa,ae⟩:=he; simp only at aa ⊢; rw [aa]; exact ax _ _ ae
    | panicked GZ=>exact he.elim
    | outgrown=>obtain⟨_,_,aa⟩:=he; exact aa.elim
   case row row args=>exact h.mono fun v rJ ⟨u,aa,ae⟩=>by rw [aa]; exact ax _ _ ae
 | halt x W'=>cases x <;> simp only [Oper.upon] at h
theorem gh.Qw {P:Program} {o:Oper} {a:Act} {W:World} {R:Value→World→Prop} (h:gh P o a W R):∀ c,o.op≠ .defer c:=by
 intro c bh
 unfold gh Oper.wp execOp at h
 rw [bh] at h
 simp only [Sem.run_bind] at h
 generalize (resolve a.eval c o.type).run P W=r at h
 cases r with
 | ok d W'=>
   simp only [Result.andThen,Sem.run_pure,Oper.upon] at h
   obtain⟨v,aa,_⟩:=h
   have:=congrArg Act.defers aa
   cases hd:o.dst <;> simp [Act.put,hd] at this
 | halt x W'=>cases x <;> simp only [Result.andThen,Oper.upon] at h
theorem gh.wpIn {c:cY} {n:Nat} {o:Oper} {a:Act} {W:World} {R:Value→World→Prop} {next:Act→World→Prop} {Q:Exit→Act→World→Prop}
 (h:gh c.P o a W R) (ax:∀ v W',R v W'→next (a.put o.dst v) W'):o.wpIn c.F n c.P a W next Q:=by
 refine⟨fun _ _=>trivial,?_⟩
 rw [Oper.semAt_eq _ _ _ h.Qw]
 unfold gh Oper.wp at h
 generalize (execOp a.eval o).run c.P W=r at *
 cases r with
 | ok m W'=>
   cases m <;> simp only [Oper.upon,Oper.uponIn] at h ⊢
   case value v=>obtain⟨u,aa,ae⟩:=h; rw [aa]; exact ax _ _ ae
   case skip=>obtain⟨u,aa,ae⟩:=h; rw [aa]; exact ax _ _ ae
   case defer d=>obtain⟨u,aa,ae⟩:=h; rw [aa]; exact ax _ _ ae
   case enter f args=>
    refine⟨fun h=>by simp at h,CallsIn.Ei ?_⟩
    refine h.mono fun e rJ he=> ?_
    cases e with
    | returned v=>obtain⟨u,aa,ae⟩:=he; simp only at aa ⊢; rw [aa]; exact ax _ _ ae
    | panicked GZ=>exact he.elim
    | outgrown=>obtain⟨_,_,aa⟩:=he; exact aa.elim
   case row row args=>
    refine⟨fun h=>by simp at h,RowsIn.RQ ?_⟩
    exact h.mono fun v rJ ⟨u,aa,ae⟩=>by rw [aa]; exact ax _ _ ae
 | halt x W'=>cases x <;> simp only [Oper.upon] at h
theorem OR {c:cY} {n:Nat} {o:Oper} {a:Act} {W W':World} {v:Value} {next:Act→World→Prop} {Q:Exit→Act→World→Prop}
 (h:(execOp a.eval o).run c.P W= .ok (.value v) W') (ax:next (a.put o.dst v) W'):o.wpIn c.F n c.P a W next Q:=
 gh.wpIn (R:=fun u U=>u=v∧U=W') (by unfold gh Oper.wp; rw [h]; exact⟨v,rfl,rfl,rfl⟩) fun u U ⟨aa,ae⟩=>by subst aa; subst ae; exact ax
theorem H5 {c:cY} {n:Nat} {o:Oper} {a:Act} {W W':World} {next:Act→World→Prop} {Q:Exit→Act→World→Prop}
 (h:(execOp a.eval o).run c.P W= .ok .skip W') (ax:next (a.put o.dst undef) W'):o.wpIn c.F n c.P a W next Q:=
 gh.wpIn (R:=fun u U=>u=undef∧U=W') (by unfold gh Oper.wp; rw [h]; exact⟨undef,rfl,rfl,rfl⟩) fun u U ⟨aa,ae⟩=>by subst aa; subst ae; exact ax
theorem Dp {F:Fence} {n:Nat} {P:Program} {md:Region.Mode} {ops:Array Oper} {wj:Exit→Act→World→Prop} :∀ (l:List Oper) (k:Nat) (bO:Array Bool) (a:Act) (w:World),(∀ j,l[j]? =ops[k + j]?)→
 Region.seqB md ops l.length k bO=true→wpListIn F n P ops wj l a w→wpAnyIn F n P md ops wj l.length bO a w
 | [],_,_,_,_,_,iF,h=>⟨by simpa [Region.seqB] using iF,h⟩
 | o :: l,k,bO,a,w,an,iF,h=>by
   have bT:ops[k]? =some o:=by simpa using (an 0).symm
   simp only [List.length_cons,Region.seqB,Bool.and_eq_true,decide_eq_true_eq] at iF
   refine⟨fun aa=>(by rw [iF.1] at aa; cases aa),fun i au=> ?_⟩
   rw [iF.1] at au
   have oE:i=k:=by simpa using au
   subst oE
   have hw:wpOpIn F n P ops wj i (wpListIn F n P ops wj l) a w:=by unfold wpOpIn; simp only [bT]; exact h
   exact wpOpIn_mono (fun iE tQ cX=>Dp l (i + 1) _ iE tQ (fun j=>by have:=an (j + 1); simpa [Nat.add_assoc,Nat.add_comm 1 j] using this) iF.2 cX) hw
theorem gh.lq {P:Program} {o:Oper} {a:Act} {W W':World} {R:Value→World→Prop} {v:Value}
 (h:(execOp a.eval o).run P W= .ok (.value v) W') (aU:R v W'):gh P o a W R:=by
 unfold gh Oper.wp
 rw [h]
 exact⟨v,rfl,aU⟩
theorem gh.u4 {P:Program} {o:Oper} {a:Act} {W W':World} {R:Value→World→Prop}
 (h:(execOp a.eval o).run P W= .ok .skip W') (aU:R undef W'):gh P o a W R:=by
 unfold gh Oper.wp
 rw [h]
 exact⟨undef,rfl,aU⟩
theorem gh.sv {P:Program} {o:Oper} {a:Act} {W W':World} {R:Value→World→Prop} {f:FuncId} {args:Array Value}
 (h:(execOp a.eval o).run P W= .ok (.enter f args) W') (aU:Calls P f args W' fun e rJ=> ∃ v,e= .returned v∧R v rJ):gh P o a W R:=by
 unfold gh Oper.wp
 rw [h]
 exact aU.mono fun e rJ ⟨v,he,ae⟩=>by subst he; exact⟨v,rfl,ae⟩
def bY (c:cY) (E:List (Nat × I)) (L:List aL) (o:Oper) (τ:I):Prop:=
 ∀ a W,bC c E L a W→gh c.P o a W fun v W'=>Fr [] W W'∧τ.holds (aN L ++ c.bP) W' v
theorem bY.pure {o:Oper} {τ:I} (h:∀ a W,bC c E L a W→ ∃ v,(execOp a.eval o).run c.P W= .ok (.value v) W∧τ.holds (aN L ++ c.bP) W v):bY c E L o τ:=
 fun a W s=>let⟨_,aa,ae⟩:=h a W s; .lq aa ⟨.refl _ _,ae⟩
variable {ops:Array Oper} {Q:Exit→Act→World→Prop}
def ai (c:cY) (ops:Array Oper) (Q:Exit→Act→World→Prop) (l:List Oper) (E:List (Nat × I)) (L:List aL):Prop:=
 ∀ a W,bC c E L a W→c.oD ops Q l a W
def ab (c:cY) (Q:Exit→Act→World→Prop) (x:Exit) (E:List (Nat × I)) (L:List aL):Prop:= ∀ a W,bC c E L a W→Q x a W
theorem ai.nil (h:ab c Q .normal E L):ai c ops Q [] E L:=fun a W s=>wpListIn_nil (h a W s)
theorem hI {c:cY} {o:Oper} {rest:List Oper} {a:Act} {W:World} (bx:o.guard=none) {R:Value→World→Prop} (h:gh c.P o a W R)
 (ax:∀ v W',R v W'→c.oD ops Q rest (a.put o.dst v) W'):c.oD ops Q (o :: rest) a W:=
 wpListIn_plain bx fun _ tS=>h.wpIn fun v W' aU=>tS _ _ (ax v W' aU)
theorem ai.v {o:Oper} {rest:List Oper} {d:Nat} {τ:I} (h:bY c E L o τ) (bx:o.guard=none) (hd:o.dst=some d) (aP:Nat.blt d c.n=true)
 (k:ai c ops Q rest ((d,τ) :: E) L):ai c ops Q (o :: rest) E L:=fun a W s=>
 hI bx (h a W s) fun v W' ⟨f,a2⟩=>by
  rw [hd]
  exact k _ _ ((s.world f).put (by simpa using aP) a2)
theorem ai.x {o:Oper} {rest:List Oper} {τ:I} (h:bY c E L o τ) (bx:o.guard=none) (hd:o.dst=none)
 (k:ai c ops Q rest E L):ai c ops Q (o :: rest) E L:=fun a W s=>
 hI bx (h a W s) fun v W' ⟨f,_⟩=>by
  rw [hd]
  exact k _ _ (s.world f)
theorem uS {j g:Nat} {b:Bool} (aG:(ops[j]?).bind (·.dst)=some g) (an:look E g=some (.of b)) {a:Act} {W:World} (s:bC c E L a W):
 yielded ops a.tmps j=some b:=by
 obtain⟨v,aa,ae⟩:=s.env g _ an
 unfold yielded
 rw [aG]
 simp only [Option.bind_some,aa,of_bool.1 ae]
theorem ai.g {o:Oper} {rest:List Oper} {d j g:Nat} {b want:Bool} {τ:I} (h:b=want→bY c E L o τ) (bx:o.guard=some (j,want)) (aG:(ops[j]?).bind (·.dst)=some g)
 (an:look E g=some (.of b)) (hd:o.dst=some d) (aP:Nat.blt d c.n=true)
 (k:ai c ops Q rest ((d,.cond (b=want) τ) :: E) L):ai c ops Q (o :: rest) E L:=fun a W s=>by
 have a9:=uS aG an s
 unfold cY.oD wpListIn
 by_cases hb:b=want
 ·rw [if_pos (by simp [Region.wanted,bx,a9,hb])]
  refine((h hb a W s).wpIn fun v W' ⟨f,a2⟩=> ?_)
  rw [hd]
  exact k _ _ ((s.world f).put (by simpa using aP) ⟨fun _=>a2,fun h=>absurd hb h⟩)
 ·rw [if_neg (by simp [Region.wanted,bx,a9,hb])]
  rw [hd]
  exact⟨fun _ _=>trivial,k _ _ (s.put (by simpa using aP) ⟨fun h=>absurd h hb,fun _=>rfl⟩)⟩
theorem H6 {j g:Nat} {p:Prop} {b:Bool} (aG:(ops[j]?).bind (·.dst)=some g) (an:look E g=some (.cond p (.of b))) {a:Act} {W:World} (s:bC c E L a W):
 (p→yielded ops a.tmps j=some b)∧ (¬ p→yielded ops a.tmps j=none):=by
 obtain⟨v,aa,ae,aD⟩:=s.env g _ an
 unfold yielded
 rw [aG]
 simp only [Option.bind_some,aa]
 exact⟨fun hp=>by simp only [of_bool.1 (ae hp)],fun hp=>by simp only [aD hp]; rfl⟩
theorem ai.gg {o:Oper} {rest:List Oper} {d j g:Nat} {p:Prop} {b want:Bool} {τ:I} (h:p∧b=want→bY c E L o τ) (bx:o.guard=some (j,want)) (aG:(ops[j]?).bind (·.dst)=some g)
 (an:look E g=some (.cond p (.of b))) (hd:o.dst=some d) (aP:Nat.blt d c.n=true)
 (k:ai c ops Q rest ((d,.cond (p∧b=want) τ) :: E) L):ai c ops Q (o :: rest) E L:=fun a W s=>by
 have a9:=H6 aG an s
 unfold cY.oD wpListIn
 by_cases hb:p∧b=want
 ·rw [if_pos (by simp [Region.wanted,bx,a9.1 hb.1,hb.2])]
  refine((h hb a W s).wpIn fun v W' ⟨f,a2⟩=> ?_)
  rw [hd]
  exact k _ _ ((s.world f).put (by simpa using aP) ⟨fun _=>a2,fun h=>absurd hb h⟩)
 ·have hw:Region.wanted o (yielded ops a.tmps)=false:=by
   by_cases hp:p
   ·have: ¬ (b=want):=fun h=>hb ⟨hp,h⟩
    simp [Region.wanted,bx,a9.1 hp,this]
   ·simp [Region.wanted,bx,a9.2 hp]
  rw [if_neg (by simp [hw])]
  refine⟨fun _ _=>trivial,?_⟩
  rw [hd]
  exact k _ _ (s.put (by simpa using aP) ⟨fun h=>absurd h hb,fun _=>rfl⟩)
def sub:List (Nat × I)→List Nat→List (Nat × I)
 | _,[]=> []
 | E,t :: r=>match look E t with
   | some τ=>(t,τ) :: sub E r
   | none=>sub E r
inductive gY (E:List (Nat × I)):List (Nat × I)→Prop
 | nil:gY E []
 | cons {t τ σ r} :look E t=some σ→ (∀ A W v,σ.holds A W v→τ.holds A W v)→gY E r→gY E ((t,τ) :: r)
theorem gY.same {t:Nat} {τ:I} {r:List (Nat × I)} (h:look E t=some τ) (k:gY E r):gY E ((t,τ) :: r):= .cons h (fun _ _ _ h=>h) k
theorem gY.look:∀ {E':List (Nat × I)},gY E E'→ ∀ t τ,Gv.look E' t=some τ→ ∃ σ,Gv.look E t=some σ∧ ∀ A W v,σ.holds A W v→τ.holds A W v
 | _,.nil,t,τ,h=>by simp [Gv.look] at h
 | _,.cons (t:=s) (σ:=σ) aa ae r,t,τ,h=>by
   simp only [Gv.look] at h
   by_cases e:Nat.beq s t=true
   ·rw [e] at h
    simp only [cond_true,Option.some.injEq] at h
    subst h
    rw [eO.1 e] at aa
    exact⟨σ,aa,ae⟩
   ·simp only [Bool.not_eq_true] at e
    rw [e] at h
    exact r.look t τ h
theorem ab.le {x:Exit} {E':List (Nat × I)} (h:gY E E') (k:ab c Q x E' L):ab c Q x E L:=fun a W s=>k a W (s.less h.look)
theorem ai.le {l:List Oper} {E':List (Nat × I)} (h:gY E E') (k:ai c ops Q l E' L):ai c ops Q l E L:=fun a W s=>k a W (s.less h.look)
def ag (c:cY) (Q:Exit→Act→World→Prop) (code:Code) (E:List (Nat × I)) (L:List aL):Prop:= ∀ a W,bC c E L a W→c.wp code Q a W
theorem ag.le {code:Code} {E':List (Nat × I)} (h:gY E E') (k:ag c Q code E' L):ag c Q code E L:=fun a W s=>k a W (s.less h.look)
theorem ag.cj {id:Nat} {l:List Oper} (h:ai c l.toArray Q l E L):ag c Q (.region id l.toArray false) E L:=fun a W s=>wpIn_region_lit (h a W s)
theorem ag.seq {x y:Code} (h:ag c (Exit.then (c.wp y Q) Q) x E L):ag c Q (.seq x y) E L:=fun a W s=>wpIn_seq (h a W s)
theorem ab.next {y:Code} (h:ag c Q y E L):ab c (Exit.then (c.wp y Q) Q) .normal E L:=fun a W s=>h a W s
theorem ab.exit {y:Act→World→Prop} {id:Nat} (h:ab c Q (.exit id) E L):ab c (Exit.then y Q) (.exit id) E L:=fun a W s=>h a W s
theorem ab.ret {y:Act→World→Prop} (h:ab c Q .ret E L):ab c (Exit.then y Q) .ret E L:=fun a W s=>h a W s
theorem ag.block {id:Nat} {x:Code} (h:ag c (Exit.inBlock id Q) x E L):ag c Q (.block id x) E L:=fun a W s=>wpIn_block (h a W s)
theorem ab.dz {id:Nat} (h:ab c Q .normal E L):ab c (Exit.inBlock id Q) .normal E L:=fun a W s=>h a W s
theorem ab.e4 {id:Nat} (h:ab c Q .normal E L):ab c (Exit.inBlock id Q) (.exit id) E L:=fun a W s=>by
 show(if id=id then Q .normal a W else Q (.exit id) a W)
 rw [if_pos rfl]; exact h a W s
theorem ab.RK {id zv:Nat} (dn:Nat.beq zv id=false) (h:ab c Q (.exit zv) E L):ab c (Exit.inBlock id Q) (.exit zv) E L:=fun a W s=>by
 show(if zv=id then Q .normal a W else Q (.exit zv) a W)
 rw [if_neg (fun e=>by rw [e,Nat.beq_refl] at dn; cases dn)]; exact h a W s
theorem ab.c5 {id:Nat} (h:ab c Q .ret E L):ab c (Exit.inBlock id Q) .ret E L:=fun a W s=>h a W s
theorem ag.skip (h:ab c Q .normal E L):ag c Q .skip E L:=fun a W s=>wpIn_skip (h a W s)
theorem ag.exit {id:Nat} (h:ab c Q (.exit id) E L):ag c Q (.exit id) E L:=fun a W s=>wpIn_exit (h a W s)
theorem ag.ret (h:ab c Q .ret E L):ag c Q .ret E L:=fun a W s=>wpIn_ret (h a W s)
theorem ag.cond {x:Operand} {b:Bool} {y z:Code} (an:a7 c E L x (.of b)) (cr:b=true→ag c Q y E L) (ba:b=false→ag c Q z E L):ag c Q (.cond x y z) E L:=
 fun a W s=>wpIn_cond_split (of_bool.1 (an a W s)) (fun h=>cr h a W s) (fun h=>ba h a W s)
def dW {σ ε:Type} :Nat→ (σ→Option (σ ⊕ ε))→σ→Option ε
 | 0,_,_=>none
 | n + 1,b,s=>match b s with
   | none=>none
   | some (.inl bZ)=>dW n b bZ
   | some (.inr e)=>some e
def MX {σ ε:Type} (c:cY) (E:σ→List (Nat × I)) (L:σ→List aL) (xs:ε→Exit) (fu:ε→List (Nat × I)) (Lx:ε→List aL):σ ⊕ ε→Exit→Act→World→Prop
 | .inl s,x,a,W=>x= .normal∧bC c (E s) (L s) a W
 | .inr e,x,a,W=>x≠ .normal∧x=xs e∧bC c (fu e) (Lx e) a W
theorem ab.round {σ ε:Type} {E':σ→List (Nat × I)} {L':σ→List aL} {xs:ε→Exit} {fu:ε→List (Nat × I)} {Lx:ε→List aL} {s:σ}
 (h:∀ a W,bC c E L a W→bC c (E' s) (L' s) a W):ab c (MX c E' L' xs fu Lx (.inl s)) .normal E L:=fun a W st=>⟨rfl,h a W st⟩
theorem IK {F:Fence} {n:Nat} {P:Program} {body:Code} {σ ε:Type} (b:σ→Option (σ ⊕ ε)) (fg:σ→Act→World→Prop) (X:ε→Exit→Act→World→Prop)
 (nI:∀ s r,b s=some r→ ∀ a W,fg s a W→body.wpIn F n P (fun x a W=>match r with | .inl bZ=>x= .normal∧fg bZ a W | .inr e=>x≠ .normal∧X e x a W) a W)
 (Q:Exit→Act→World→Prop) (e:ε) (ng:∀ x a W,X e x a W→Q x a W) {b1:σ} {N:Nat} (an:dW N b b1=some e) {hF:Act} {hY:World} (bT:fg b1 hF hY):
 (Code.loop body).wpIn F n P Q hF hY:=by
 intro dm k cs vZ hb aU
 have key:∀ N s,dW N b s=some e→ ∀ a W,fg s a W→
  ∃ x iE W',Q x iE W'∧ArrivesIn (Machine.fenced P F) P (lone (dm.atR a (.code body :: .inLoop body :: k)) cs W) dm k cs x iE W':=by
  intro N
  induction N with
  | zero=>intro s h; simp [dW] at h
  | succ N b0=>
    intro s h a W j9
    simp only [dW] at h
    split at h
    ·cases h
    ·rename_i bZ hs
     obtain⟨x,vI,vJ,hq,ph⟩:=nI s _ hs a W j9 dm (.inLoop body :: k) cs vZ hb aU
     obtain⟨aq,F0⟩:=hq
     subst aq
     obtain⟨FB,FC,FD,Fe,Ej⟩:=b0 bZ h vI vJ F0
     exact⟨FB,FC,FD,Fe,.of_steps (StepsIn.trans ph (.one (fenced_calm hb aU rfl) stepR_inLoop)) Ej⟩
    ·rename_i e' hs
     simp only [Option.some.injEq] at h
     subst h
     obtain⟨x,vI,vJ,hq,ph⟩:=nI s _ hs a W j9 dm (.inLoop body :: k) cs vZ hb aU
     obtain⟨aq,G0⟩:=hq
     exact⟨x,vI,vJ,ng _ _ _ G0,.pass (x:= .inLoop body) rfl (fun _ _=> .inl aq) ph⟩
 obtain⟨x,iE,W',hq,ph⟩:=key N b1 an hF hY bT
 exact⟨x,iE,W',hq,.of_steps (.one (fenced_calm hb aU rfl) stepR_loop) ph⟩
theorem ag.loop {σ ε:Type} {body:Code} {N:Nat} {b:σ→Option (σ ⊕ ε)} {b1:σ} {e:ε} (an:dW N b b1=some e)
 (E:σ→List (Nat × I)) (L:σ→List aL) (xs:ε→Exit) (fu:ε→List (Nat × I)) (Lx:ε→List aL)
 (p3:∀ s r,b s=some r→ag c (MX c E L xs fu Lx r) body (E s) (L s))
 (ng:ab c Q (xs e) (fu e) (Lx e)):ag c Q (.loop body) (E b1) (L b1):=fun a W st=>
 IK b (fun s a W=>bC c (E s) (L s) a W) (fun e x a W=>x=xs e∧bC c (fu e) (Lx e) a W)
  (fun s r hs a W j9=>wpIn_mono (p3 s r hs a W j9) (fun x a W h=>by
   cases r with
   | inl bZ=>exact h
   | inr e'=>exact⟨h.1,h.2⟩)) Q e (fun x a W ⟨aq,hs⟩=>by subst aq; exact ng a W hs) an st
def bE (P:Program) (f:FuncId) (τs:List I) (ρ:I):Prop:=
 ∀ (A:List Nat) (W:World) (vs:List Value),(∀ k∈A,k < W.heap.size)→fV A W τs vs→
   Calls P f vs.toArray W fun e W'=> ∃ v,e= .returned v∧Fr [] W W'∧ρ.holds A W' v
def params:Nat→List I→List (Nat × I)
 | _,[]=> []
 | k,τ :: r=>(k,τ) :: params (k + 1) r
theorem sm {A:List Nat} {W:World} {τs:List I} {vs:List Value} (h:fV A W τs vs):∀ (k t:Nat) (τ:I),look (params k τs) t=some τ→k≤t∧ ∃ v,vs[t - k]? =some v∧τ.holds A W v:=by
 induction h with
 | nil=>intro k t τ h; simp [params,look] at h
 | cons aa r b0=>
   intro k t τ an
   simp only [params,look] at an
   by_cases e:Nat.beq k t=true
   ·rw [e] at an
    simp only [cond_true,Option.some.injEq] at an
    subst an
    rw [eO.1 e]
    exact⟨Nat.le_refl _,_,by simp,aa⟩
   ·simp only [Bool.not_eq_true] at e
    rw [e] at an
    have dn:k≠t:=fun h=>by rw [eO.2 h] at e; cases e
    obtain⟨ae,v,aD,aZ⟩:=b0 (k + 1) t τ an
    refine⟨by omega,v,?_,aZ⟩
    rw [show t - k=(t - (k + 1)) + 1 by omega,List.getElem?_cons_succ]
    exact aD
theorem bE.enter {P:Program} {f:FuncId} {fn:Func} {code:Code} {n:Nat} {τs:List I} {ρ:I} (ba:P.funcs[f]? =some fn) (hb:fn.body=some code) (aP:fn.ntmps=n) (hlen:Nat.ble τs.length n=true)
 (h:∀ W A,ag ⟨P,n,W,[],A,none,[]⟩ (bodyPost P fn fun e W'=> ∃ v,e= .returned v∧Fr [] W W'∧ρ.holds A W' v) code (params 0 τs) []):bE P f τs ρ:=by
 intro A W vs fU a2
 refine calls_of_wp ba hb (wpIn_wide.1 (h W A _ _ ?_))
 have an:=a2.length
 have hle:τs.length≤n:=Nat.le_of_ble_eq_true hlen
 exact
 {defers:=rfl
  size:=by simp [aP,an]; omega
  env:=fun t τ kM=>by
   obtain⟨_,v,ae,aD⟩:=sm a2 0 t τ kM
   refine⟨v,?_,aD⟩
   have cl:t < vs.length:=(List.getElem?_eq_some_iff.1 ae).1
   rw [Array.getElem?_append_left (by simpa using cl)]
   simpa using ae
  dm:= .refl _ _
  own:=by simp
  nodup:=by simp [aN]
  lt:=by simp [aN]
  fI:=by simp [aN]
  eB:=fun k ax=>⟨fU k ax,by simp [aN]⟩ }
theorem Ir {ρ:I} {A B:List Nat} {W:World} {v:Value} (h:ρ.holds (B ++ A) W v):ρ.holds A W v:=ρ.mono (.drop fun _ h=>List.mem_append.2 (.inr h)) h
end
end Gv
namespace Gv
open Go
set_option linter.unusedVariables false
section
variable {c:cY} {E:List (Nat × I)} {L:List aL} {ops:Array Oper} {Q:Exit→Act→World→Prop}
def jN (c:cY) (ops:Array Oper) (E:List (Nat × I)) (L:List aL) (o:Oper) (τ:I):Prop:=
 ∀ a W,bC c E L a W→
   (Region.wanted o (yielded ops a.tmps)=true→gh c.P o a W fun v W'=>Fr [] W W'∧τ.holds (aN L ++ c.bP) W' v)∧
   (Region.wanted o (yielded ops a.tmps)=false→τ.holds (aN L ++ c.bP) W undef)
theorem jN.v {o:Oper} {τ:I} (h:bY c E L o τ) (bx:o.guard=none):jN c ops E L o τ:=fun a W s=>
 ⟨fun _=>h a W s,fun hw=>by simp [Region.wanted,bx] at hw⟩
theorem jN.g {o:Oper} {j g:Nat} {b want:Bool} {τ:I} (h:b=want→bY c E L o τ) (bx:o.guard=some (j,want)) (aG:(ops[j]?).bind (·.dst)=some g) (an:look E g=some (.of b)):
 jN c ops E L o (.cond (b=want) τ):=fun a W s=>by
 have a9:=uS aG an s
 constructor
 ·intro hw
  have hb:b=want:=by simpa [Region.wanted,bx,a9] using hw
  refine gh.wp (h hb a W s) fun v W' ⟨f,a2⟩=>⟨v,rfl,f,fun _=>a2,fun h=>absurd hb h⟩
 ·intro hw
  exact⟨fun hb=>by simp [Region.wanted,bx,a9,hb] at hw,fun _=>rfl⟩
theorem jN.gg {o:Oper} {j g:Nat} {p:Prop} {b want:Bool} {τ:I} (h:p∧b=want→bY c E L o τ) (bx:o.guard=some (j,want)) (aG:(ops[j]?).bind (·.dst)=some g) (an:look E g=some (.cond p (.of b))):
 jN c ops E L o (.cond (p∧b=want) τ):=fun a W s=>by
 have a9:=H6 aG an s
 have Mm:Region.wanted o (yielded ops a.tmps)=true→p∧b=want:=by
  intro hw
  by_cases hp:p
  ·exact⟨hp,by simpa [Region.wanted,bx,a9.1 hp] using hw⟩
  ·simp [Region.wanted,bx,a9.2 hp] at hw
 constructor
 ·intro hw
  refine gh.wp (h (Mm hw) a W s) fun v W' ⟨f,a2⟩=>⟨v,rfl,f,fun _=>a2,fun h=>absurd (Mm hw) h⟩
 ·intro hw
  exact⟨fun hb=>by simp [Region.wanted,bx,a9.1 hb.1,hb.2] at hw,fun _=>rfl⟩
inductive eM
 | val (τ:I)
 | new (cp:dx)
 | j1 (i:Nat) (cp:dx)
 | lC (j:Nat) (cp:dx)
def eM.mJ:eM→Bool
 | .j1 _ _ | .lC _ _=>true
 | _=>false
def eM.pB (p:Nat):eM→Option I
 | .val τ=>some τ
 | .new _=>some (.eq (.pointer (some ⟨p,0,none⟩)))
 | _=>none
def he (bf:Nat→Nat) (dQ:List (Option Nat)) (hs:List eM) (E:List (Nat × I)):List Nat→List (Nat × I)
 | []=>E
 | j :: r=>match dQ[j]?,hs[j]? with
   | some (some s),some h=>match h.pB (bf j) with
     | some τ=>(s,τ) :: he bf dQ hs E r
     | none=>he bf dQ hs E r
   | _,_=>he bf dQ hs E r
def vB:List aL→Nat→dx→List aL
 | [],_,_=> []
 | e :: r,0,cp=>⟨e.key,cp⟩ :: r
 | e :: r,i + 1,cp=>e :: vB r i cp
theorem P4 {L:List aL} {i:Nat} {e:aL} {cp:dx} (h:L[i]? =some e):vB L i cp=L.set i ⟨e.key,cp⟩:=by
 induction L generalizing i with
 | nil=>simp at h
 | cons x r b0=>
   cases i with
   | zero=>simp only [List.getElem?_cons_zero,Option.some.injEq] at h; subst h; rfl
   | succ i=>simp only [List.getElem?_cons_succ] at h; simp [vB,b0 h]
def dG (L:List aL):List eM→List aL
 | []=>L
 | .j1 i cp :: r=>dG (vB L i cp) r
 | _ :: r=>dG L r
def hK (j:Nat) (cp:dx):List eM→dx
 | []=>cp
 | .lC i cp' :: r=>hK j (bif Nat.beq i j then cp' else cp) r
 | _ :: r=>hK j cp r
theorem Is (L:List aL) (r:List eM) (h:eM):dG L (r ++ [h])=dG (dG L r) [h]:=by
 induction r generalizing L with
 | nil=>rfl
 | cons x r b0=>cases x <;> simp only [List.cons_append,dG] <;> exact b0 _
theorem Du (j:Nat) (cp:dx) (r:List eM) (h:eM):hK j cp (r ++ [h])=hK j (hK j cp r) [h]:=by
 induction r generalizing cp with
 | nil=>rfl
 | cons x r b0=>cases x <;> simp only [List.cons_append,hK] <;> exact b0 _
theorem Bb {L:List aL} :∀ {r:List eM},(∀ h∈r,h.mJ=false)→dG L r=L
 | [],_=>rfl
 | h :: r,ch=>by
   have:=ch h (by simp)
   have b0:=Bb (L:=L) (r:=r) (fun x aq=>ch x (by simp [aq]))
   cases h <;> first | exact b0 | cases this
theorem A6 {j:Nat} {cp:dx} :∀ {r:List eM},(∀ h∈r,h.mJ=false)→hK j cp r=cp
 | [],_=>rfl
 | h :: r,ch=>by
   have:=ch h (by simp)
   have b0:=A6 (j:=j) (cp:=cp) (r:=r) (fun x aq=>ch x (by simp [aq]))
   cases h <;> first | exact b0 | cases this
def nP (w:Nat→Bool) (i:Nat):Nat→List eM→Bool
 | _,[]=>true
 | k,.j1 j _ :: r=>(!(Nat.beq j i) || w k) && nP w i (k + 1) r
 | k,.val _ :: r=>nP w i (k + 1) r
 | k,.new _ :: r=>nP w i (k + 1) r
 | k,.lC _ _ :: r=>nP w i (k + 1) r
theorem Pb {L:List aL} {i j:Nat} {cp:dx} (h:i≠j):(vB L i cp)[j]? =L[j]? :=by
 induction L generalizing i j with
 | nil=>rfl
 | cons e r b0=>
   cases i with
   | zero=>cases j with
     | zero=>exact absurd rfl h
     | succ j=>rfl
   | succ i=>cases j with
     | zero=>rfl
     | succ j=>simp only [vB,List.getElem?_cons_succ]; exact b0 (by omega)
theorem xH {L:List aL} {i:Nat} {w:Nat→Bool} :∀ {r:List eM} (b k:Nat),nP w i k r=true→ (∀ q,q < b→ (∃ j cp,r[q]? =some (.j1 j cp))→w (k + q)=false)→ (dG L (r.take b))[i]? =L[i]?
 | [],b,_,_,_=>by simp [dG]
 | h :: r,0,_,_,_=>by simp [dG]
 | .j1 j cp :: r,b + 1,k,h,hw=>by
   simp only [nP,Bool.and_eq_true,Bool.or_eq_true,Bool.not_eq_true'] at h
   have Vu:w k=false:=by simpa using hw 0 (by omega) ⟨j,cp,by simp⟩
   have dn:j≠i:=fun e=>by
    rw [e,Nat.beq_refl,Vu] at h
    rcases h.1 with h | h <;> cases h
   rw [List.take_succ_cons,dG,xH b (k + 1) h.2 (fun q hq aq=>by have:=hw (q + 1) (by omega) (by simpa using aq); rw [← this]; congr 1; omega),Pb dn]
 | .val _ :: r,b + 1,k,h,hw=>by rw [List.take_succ_cons]; exact xH (r:=r) b (k + 1) h (fun q hq aq=>by have:=hw (q + 1) (by omega) (by simpa using aq); rw [← this]; congr 1; omega)
 | .new _ :: r,b + 1,k,h,hw=>by rw [List.take_succ_cons]; exact xH (r:=r) b (k + 1) h (fun q hq aq=>by have:=hw (q + 1) (by omega) (by simpa using aq); rw [← this]; congr 1; omega)
 | .lC _ _ :: r,b + 1,k,h,hw=>by rw [List.take_succ_cons]; exact xH (r:=r) b (k + 1) h (fun q hq aq=>by have:=hw (q + 1) (by omega) (by simpa using aq); rw [← this]; congr 1; omega)
def G1 (P:Program) (o:Oper) (cp:dx):Prop:=
 o.guard=none∧ ∃ ja,(∀ A W,cp.holds A W ja)∧ ∀ (a:Act) W,(execOp a.eval o).run P W= .ok (.value (.pointer (some ⟨W.heap.size,0,none⟩))) (W.alloc ja)
def z8 (c:cY) (E:List (Nat × I)) (L:List aL) (o:Oper) (p:Nat) (cp:dx):Prop:=
 o.guard=none∧o.dst=none∧ ∀ a W,bC c E L a W→ ∃ cs dA T,W.heap[p]? =some (.cells cs T (0,0))∧ (execOp a.eval o).run c.P W= .ok .skip (W.setRow p dA)∧cp.holds (aN L ++ c.bP) W (.cells dA T (0,0))
def pd (c:cY) (ops:Array Oper) (bf:Nat→Nat) (dQ:List (Option Nat)) (all:List eM) (E:List (Nat × I)) (L:List aL):Nat→List Oper→List eM→List (List Nat)→Prop
 | _,_,[],_=>True
 | i,o :: os,.val τ :: hs,d :: ds=>(∀ L':List aL,(∀ (j:Nat) (e:aL),L[j]? =some e→nP (fun k=>Region.waitsFor .any ops k i) j 0 all=true→L'[j]? =some e)→jN c ops (he bf dQ all E d) L' o τ)∧pd c ops bf dQ all E L (i + 1) os hs ds
 | i,o :: os,.new cp :: hs,_ :: ds=>G1 c.P o cp∧pd c ops bf dQ all E L (i + 1) os hs ds
 | i,o :: os,.j1 k cp :: hs,d :: ds=>(∃ (p:Nat) (ma:dx),(dG L (all.take i))[k]? =some ⟨some p,ma⟩∧ ∀ L':List aL,(∀ (j:Nat) (e:aL),(dG L (all.take i))[j]? =some e→L'[j]? =some e)→z8 c (he bf dQ all E d) L' o p cp)∧pd c ops bf dQ all E L (i + 1) os hs ds
 | i,o :: os,.lC k cp :: hs,d :: ds=>(d.contains k=true∧ ∃ ma:dx,all[k]? =some (.new ma)∧ ∀ (L':List aL) (q:Nat),L'[q]? =some ⟨some (bf k),hK k ma (all.take i)⟩→z8 c (he bf dQ all E d) L' o (bf k) cp)∧pd c ops bf dQ all E L (i + 1) os hs ds
 | _,_,_,_=>False
def BT (ops:Array Oper) (n:Nat) (dQ:List (Option Nat)) (qd:List (List Nat)) (zw:List Bool) (WC:Nat):Bool:=
 decide (dQ.length=n) && decide (n≤ops.size) && (dQ.filterMap id).all (Nat.blt · WC) && decide (dQ.filterMap id).Nodup &&
 ((List.range n).all fun i=>((ops[i]?).map fun o=>(some o.dst ==dQ[i]?) && (o.after.all fun e=> !Region.binds .any e || decide (e.on < i))).getD false) &&
 ((List.range n).all fun i=>(qd.getD i []).all fun j=>decide (j < n) && Region.waitsFor .any ops i j) &&
 ((List.range n).all fun i=> !(zw.getD i false) || ((List.range i).all fun j=> !(zw.getD j false) || Region.waitsFor .any ops i j)) &&
 (decide (n=ops.size) || (Region.sinkB .any ops n && Region.chainB .any ops n)) &&
 Region.seqB .any ops (ops.size - n) n ((List.range n).foldl (fun l i=>l.setIfInBounds i true) (Array.replicate ops.size false))
def zj (E:List (Nat × I)) (dQ:List Nat):Bool:=match E with
 | []=>true
 | e :: r=> !(dQ.contains e.1) && zj r dQ
theorem DK {dQ:List Nat} :∀ {E:List (Nat × I)},zj E dQ=true→ ∀ t τ,look E t=some τ→t ∉ dQ
 | [],_,t,τ,h=>by simp [look] at h
 | (s,σ) :: r,hd,t,τ,h=>by
   simp only [zj,Bool.and_eq_true,Bool.not_eq_true'] at hd
   simp only [look] at h
   by_cases e:Nat.beq s t=true
   ·have:=eO.1 e
    subst this
    simpa using hd.1
   ·simp only [Bool.not_eq_true] at e
    rw [e] at h
    exact DK hd.2 t τ h
theorem Kk (f g:Nat→Bool) (i:Nat) (ba:f i=true) (bx:g i=false) (h:∀ j,g j=true→f j=true):∀ n,i < n→ ((List.range n).filter g).length < ((List.range n).filter f).length:=by
 have le:∀ n,((List.range n).filter g).length≤ ((List.range n).filter f).length:=by
  intro n
  induction n with
  | zero=>simp
  | succ n b0=>
    rw [List.range_succ,List.filter_append,List.filter_append,List.length_append,List.length_append]
    have:([n].filter g).length≤ ([n].filter f).length:=by
     cases tu:g n with
     | false=>simp [tu]
     | true=>simp [tu,h n tu]
    omega
 intro n
 induction n with
 | zero=>omega
 | succ n b0=>
   intro cl
   rw [List.range_succ,List.filter_append,List.filter_append,List.length_append,List.length_append]
   by_cases e:i=n
   ·subst e
    have:=le i
    simp [ba,bx]
    omega
   ·have aa:=b0 (by omega)
    have:([n].filter g).length≤ ([n].filter f).length:=by
     cases tu:g n with
     | false=>simp [tu]
     | true=>simp [tu,h n tu]
    omega
theorem DL {bf:Nat→Nat} {dQ:List (Option Nat)} {all:List eM} :∀ {k:Nat} {os:List Oper} {hs:List eM} {ds:List (List Nat)},pd c ops bf dQ all E L k os hs ds→
 ∀ (i:Nat) h,hs[i]? =some h→ ∃ o,os[i]? =some o∧ (match h with
   | .val τ=> ∀ L':List aL,(∀ (j:Nat) (e:aL),L[j]? =some e→nP (fun q=>Region.waitsFor .any ops q (k + i)) j 0 all=true→L'[j]? =some e)→jN c ops (he bf dQ all E (ds.getD i [])) L' o τ
   | .new cp=>G1 c.P o cp
   | .j1 q cp=> ∃ (p:Nat) (ma:dx),(dG L (all.take (k + i)))[q]? =some ⟨some p,ma⟩∧ ∀ L':List aL,(∀ (j:Nat) (e:aL),(dG L (all.take (k + i)))[j]? =some e→L'[j]? =some e)→z8 c (he bf dQ all E (ds.getD i [])) L' o p cp
   | .lC q cp=>(ds.getD i []).contains q=true∧ ∃ ma:dx,all[q]? =some (.new ma)∧ ∀ (L':List aL) (r:Nat),L'[r]? =some ⟨some (bf q),hK q ma (all.take (k + i))⟩→z8 c (he bf dQ all E (ds.getD i [])) L' o (bf q) cp)
 | k,os,[],ds,_,i,h,au=>by simp at au
 | k,[],h :: hs,ds,ch,_,_,_=>by cases h <;> simp [pd] at ch
 | k,o :: os,h :: hs,[],ch,_,_,_=>by cases h <;> simp [pd] at ch
 | k,o :: os,bT :: hs,d :: ds,ch,i,h,au=>by
   have hd:pd c ops bf dQ all E L (k + 1) os hs ds:=by cases bT <;> exact ch.2
   cases i with
   | zero=>
     simp only [List.getElem?_cons_zero,Option.some.injEq] at au
     subst au
     refine⟨o,by simp,?_⟩
     cases bT <;> exact ch.1
   | succ i=>
     simp only [List.getElem?_cons_succ] at au
     obtain⟨o',aa,ae⟩:=DL hd i h au
     refine⟨o',by simpa using aa,?_⟩
     rw [show k + (i + 1)=k + 1 + i by omega]
     cases h <;> exact ae
theorem JI {bf:Nat→Nat} {dQ:List (Option Nat)} {hs:List eM} {t:Nat} {τ:I} :∀ {ds:List Nat},look (he bf dQ hs E ds) t=some τ→ (∃ j∈ds,dQ[j]? =some (some t)∧ ∃ h,hs[j]? =some h∧h.pB (bf j)=some τ)∨look E t=some τ
 | [],h=> .inr h
 | j :: r,h=>by
   have rest:look (he bf dQ hs E r) t=some τ→ (∃ k∈j :: r,dQ[k]? =some (some t)∧ ∃ h,hs[k]? =some h∧h.pB (bf k)=some τ)∨look E t=some τ:=fun h=>by
    rcases JI h with⟨k,ax,aa⟩ | aa
    ·exact .inl ⟨k,List.mem_cons_of_mem _ ax,aa⟩
    ·exact .inr aa
   simp only [he] at h
   split at h
   ·rename_i s ax zx zy
    split at h
    ·rename_i σ kN
     simp only [look] at h
     by_cases e:Nat.beq s t=true
     ·rw [e] at h
      simp only [cond_true,Option.some.injEq] at h
      subst h
      exact .inl ⟨j,by simp,by rw [zx,eO.1 e],ax,zy,kN⟩
     ·simp only [Bool.not_eq_true] at e
      rw [e] at h
      exact rest h
    ·exact rest h
   ·exact rest h
def rD (bf:Nat→Nat) (E:List (Nat × I)):Nat→List (Option Nat)→List eM→List (Nat × I)
 | i,some s :: hG,.val τ :: hs=>(s,τ) :: rD bf E (i + 1) hG hs
 | i,some s :: hG,.new _ :: hs=>(s,.eq (.pointer (some ⟨bf i,0,none⟩))) :: rD bf E (i + 1) hG hs
 | i,_ :: hG,_ :: hs=>rD bf E (i + 1) hG hs
 | _,_,_=>E
def k0 (bf:Nat→Nat) (all:List eM) (L:List aL):Nat→List eM→List aL
 | i,.new cp :: hs=>⟨some (bf i),hK i cp all⟩ :: k0 bf all L (i + 1) hs
 | i,_ :: hs=>k0 bf all L (i + 1) hs
 | _,[]=>L
theorem IL {bf:Nat→Nat} {t:Nat} {τ:I} :∀ {dQ:List (Option Nat)} {hs:List eM} (k:Nat),look (rD bf E k dQ hs) t=some τ→
 (∃ j:Nat,dQ[j]? =some (some t)∧ ∃ h,hs[j]? =some h∧h.pB (bf (k + j))=some τ)∨look E t=some τ
 | [],hs,k,h=> .inr (by cases hs <;> exact h)
 | s :: hG,[],k,h=> .inr (by cases s <;> exact h)
 | s :: hG,x :: hs,k,h=>by
   have rest:look (rD bf E (k + 1) hG hs) t=some τ→ (∃ j:Nat,(s :: hG)[j]? =some (some t)∧ ∃ h,(x :: hs)[j]? =some h∧h.pB (bf (k + j))=some τ)∨look E t=some τ:=fun h=>by
    rcases IL (k + 1) h with⟨j,aa,ae⟩ | aa
    ·refine .inl ⟨j + 1,by simpa using aa,?_⟩
     rw [show k + (j + 1)=k + 1 + j by omega]
     simpa using ae
    ·exact .inr aa
   have one:∀ (bZ:Nat) (σ:I),s=some bZ→x.pB (bf k)=some σ→look ((bZ,σ) :: rD bf E (k + 1) hG hs) t=some τ→ (∃ j:Nat,(s :: hG)[j]? =some (some t)∧ ∃ h,(x :: hs)[j]? =some h∧h.pB (bf (k + j))=some τ)∨look E t=some τ:=fun bZ σ eZ kN h=>by
    simp only [look] at h
    by_cases e:Nat.beq bZ t=true
    ·rw [e] at h
     simp only [cond_true,Option.some.injEq] at h
     subst h
     exact .inl ⟨0,by simp [eZ,eO.1 e],x,by simp,by simpa using kN⟩
    ·simp only [Bool.not_eq_true] at e
     rw [e] at h
     exact rest h
   cases s with
   | none=>cases x <;> exact rest h
   | some bZ=>
     cases x with
     | val σ=>exact one bZ σ rfl rfl h
     | new cp=>exact one bZ _ rfl rfl h
     | j1 i cp=>exact rest h
     | lC i cp=>exact rest h
theorem Pv {n:Nat} {bO:Array Bool} (inv:HeadInv .any ops n bO) (aP:n≤ops.size) (k1:∀ i,i < n→bO.getD i true=true):
 bO=(List.range n).foldl (fun l i=>l.setIfInBounds i true) (Array.replicate ops.size false):=by
 have key:∀ m,m≤ops.size→ ((List.range m).foldl (fun l i=>l.setIfInBounds i true) (Array.replicate ops.size false)).size=ops.size∧
  ∀ j (d:Bool),j < ops.size→ ((List.range m).foldl (fun l i=>l.setIfInBounds i true) (Array.replicate ops.size false)).getD j d=decide (j < m):=by
  intro m
  induction m with
  | zero=>intro _; exact⟨by simp,fun j d aG=>by simp [aG]⟩
  | succ m b0=>
    intro hm
    obtain⟨aa,ae⟩:=b0 (by omega)
    rw [List.range_succ,List.foldl_append]
    simp only [List.foldl_cons,List.foldl_nil]
    refine⟨by simpa using aa,fun j d aG=> ?_⟩
    by_cases e:m=j
    ·subst e
     simp [aa,aG]
    ·rw [getD_set_ne d e,ae j d aG]
     by_cases aD:j < m
     ·simp [aD]; omega
     ·simp [aD]; omega
 obtain⟨aa,ae⟩:=key n aP
 apply Array.ext
 ·rw [inv.size,aa]
 ·intro i Mn v3
  have au:i < ops.size:=by rw [← inv.size]; exact Mn
  have aD:=ae i true au
  have av:bO.getD i true=bO[i]:=by simp [Mn]
  have aX:((List.range n).foldl (fun l i=>l.setIfInBounds i true) (Array.replicate ops.size false)).getD i true=((List.range n).foldl (fun l i=>l.setIfInBounds i true) (Array.replicate ops.size false))[i]:=by
   simp [v3]
  rw [← aX,aD,← av]
  by_cases aZ:i < n
  ·rw [k1 i aZ]; simp [aZ]
  ·rw [inv.tail i (by omega) au]; simp [aZ]
theorem uO (bf:Nat→Nat) (all:List eM) (L:List aL):∀ (hs:List eM) (i:Nat),k0 bf all L i hs=k0 bf all [] i hs ++ L
 | [],_=>rfl
 | .new cp :: hs,i=>by simp only [k0]; rw [uO bf all L hs (i + 1)]; rfl
 | .val _ :: hs,i=>uO bf all L hs (i + 1)
 | .j1 _ _ :: hs,i=>uO bf all L hs (i + 1)
 | .lC _ _ :: hs,i=>uO bf all L hs (i + 1)
theorem DM {bf:Nat→Nat} {all:List eM} {e:aL} :∀ {hs:List eM} {i:Nat},e∈k0 bf all [] i hs→ ∃ (j:Nat) (cp:dx),hs[j]? =some (.new cp)∧e=⟨some (bf (i + j)),hK (i + j) cp all⟩
 | [],_,h=>by simp [k0] at h
 | x :: hs,i,h=>by
   have rest:e∈k0 bf all [] (i + 1) hs→ ∃ (j:Nat) (cp:dx),(x :: hs)[j]? =some (.new cp)∧e=⟨some (bf (i + j)),hK (i + j) cp all⟩:=fun h=>by
    obtain⟨j,cp,aa,ae⟩:=DM (hs:=hs) (i:=i + 1) h
    refine⟨j + 1,cp,by simpa using aa,?_⟩
    rw [show i + (j + 1)=i + 1 + j by omega]; exact ae
   cases x with
   | new cp=>
     rcases List.mem_cons.1 h with h | h
     ·exact⟨0,cp,by simp,by simpa using h⟩
     ·exact rest h
   | val _=>exact rest h
   | j1 _ _=>exact rest h
   | lC _ _=>exact rest h
theorem HR {bf:Nat→Nat} {all:List eM} :∀ (hs:List eM) (i:Nat),(∀ (j k:Nat) (u v:dx),hs[j]? =some (.new u)→hs[k]? =some (.new v)→bf (i + j)=bf (i + k)→j=k)→ (aN (k0 bf all [] i hs)).Nodup
 | [],_,_=>by simp [k0,aN]
 | x :: hs,i,h=>by
   have aU:(aN (k0 bf all [] (i + 1) hs)).Nodup:=HR hs (i + 1) fun j k u v aa ae aD=>by
    have:=h (j + 1) (k + 1) u v (by simpa using aa) (by simpa using ae) (by rw [show i + (j + 1)=i + 1 + j by omega,show i + (k + 1)=i + 1 + k by omega]; exact aD)
    omega
   cases x with
   | val _=>exact aU
   | j1 _ _=>exact aU
   | lC _ _=>exact aU
   | new cp=>
     simp only [k0,aN]
     refine List.nodup_cons.2 ⟨fun hm=> ?_,aU⟩
     obtain⟨e,he,ax⟩:=kh.1 hm
     obtain⟨j,u,aa,ae⟩:=DM he
     rw [ae] at ax
     simp only [Option.some.injEq] at ax
     have:=h 0 (j + 1) cp u (by simp) (by simpa using aa) (by rw [show i + (j + 1)=i + 1 + j by omega]; simpa using ax.symm)
     omega
def eQ (bf:Nat→Nat) (all:List eM) (b:Nat) (c9:List Nat):List aL:=c9.map fun j=>⟨some (bf j),match all[j]? with | some (.new cp)=>hK j cp (all.take b) | _=> .dead⟩
theorem xX (bf:Nat→Nat) (all:List eM) (b:Nat):∀ (c9:List Nat),aN (eQ bf all b c9)=c9.map bf
 | []=>rfl
 | j :: c9=>by
   have:=xX bf all b c9
   simp only [eQ,List.map_cons,aN] at this ⊢
   rw [this]
structure v5 (c:cY) (n:Nat) (dQ:List (Option Nat)) (hs:List eM) (E:List (Nat × I)) (L:List aL) (bO:Array Bool) (bf:Nat→Nat) (c9:List Nat) (b:Nat) (a:Act) (W:World):Prop where
 st:bC c E (dG L (hs.take b) ++ eQ bf hs b c9) a W
 done:∀ (j:Nat) s h τ,j < n→bO.getD j false=true→dQ[j]? =some (some s)→hs[j]? =some h→h.pB (bf j)=some τ→ ∃ v,a.tmps[s]? =some v∧τ.holds (aN (dG L (hs.take b) ++ eQ bf hs b c9) ++ c.bP) W v
 news:∀ (j:Nat),j∈c9↔ (j < n∧bO.getD j false=true∧ ∃ cp,hs[j]? =some (.new cp))
 stored:∀ (j:Nat) h,hs[j]? =some h→h.mJ=true→ (bO.getD j false=true↔j < b)
 ble:b≤n
theorem Qx {hs:List eM} {b i:Nat} {h:eM} (hb:b≤i) (au:hs[i]? =some h) (aP:∀ (j:Nat) x,b≤j→j < i→hs[j]? =some x→x.mJ=false):
 ∃ r,hs.take i=hs.take b ++ r∧ ∀ x∈r,x.mJ=false:=by
 refine⟨(hs.drop b).take (i - b),?_,fun x aq=> ?_⟩
 ·rw [← List.take_add]; congr 1; omega
 ·obtain⟨j,aG⟩:=List.mem_iff_getElem?.1 aq
  rw [List.getElem?_take] at aG
  split at aG
  ·rw [List.getElem?_drop] at aG
   exact aP (b + j) x (by omega) (by omega) aG
  ·cases aG
theorem Ek (L:List aL) (r s:List eM):dG L (r ++ s)=dG (dG L r) s:=by
 induction r generalizing L with
 | nil=>rfl
 | cons x r b0=>cases x <;> simp only [List.cons_append,dG] <;> exact b0 _
theorem DT (j:Nat) (cp:dx) (r s:List eM):hK j cp (r ++ s)=hK j (hK j cp r) s:=by
 induction r generalizing cp with
 | nil=>rfl
 | cons x r b0=>cases x <;> simp only [List.cons_append,hK] <;> exact b0 _
theorem sz {L R:List aL} (h:L.Perm R):(aN L).Perm (aN R):=by
 induction h with
 | nil=>exact .nil
 | cons x _ b0=>cases ax:x.key <;> simp only [aN,ax] <;> first | exact b0 | exact b0.cons _
 | swap x y l=>
   cases aq:x.key <;> cases a9:y.key <;> simp only [aN,aq,a9]
   all_goals first | exact .refl _ | exact .swap _ _ _
 | trans _ _ aa ae=>exact aa.trans ae
theorem bC.perm {E L L' a W} (h:bC c E L a W) (p:L.Perm L'):bC c E L' a W:=
 h.sub (fun e he=>p.mem_iff.2 he) ((sz p).nodup_iff.1 h.nodup)
theorem xF {j:Nat} {cp:dx} :∀ {r:List eM},(∀ q x,eM.lC q x∈r→q≠j)→hK j cp r=cp
 | [],_=>rfl
 | .lC q x :: r,h=>by
   have aa:=h q x (by simp)
   have e:Nat.beq q j=false:=by
    cases hb:Nat.beq q j with
    | false=>rfl
    | true=>exact absurd (eO.1 hb) aa
   simp only [hK,e,cond_false]
   exact xF fun q x hm=>h q x (by simp [hm])
 | .val _ :: r,h=>xF (r:=r) fun q x hm=>h q x (by simp [hm])
 | .new _ :: r,h=>xF (r:=r) fun q x hm=>h q x (by simp [hm])
 | .j1 _ _ :: r,h=>xF (r:=r) fun q x hm=>h q x (by simp [hm])
theorem H7 (f:Nat→Nat):∀ (l:List Nat),(l.map f).Nodup→l.Nodup
 | [],_=>by simp
 | x :: r,h=>by
   simp only [List.map_cons] at h
   obtain⟨aa,ae⟩:=List.nodup_cons.1 h
   exact List.nodup_cons.2 ⟨fun hm=>aa (List.mem_map.2 ⟨x,hm,rfl⟩),H7 f r ae⟩
theorem Ra {bf mb:Nat→Nat} {all:List eM} {b:Nat} {c9:List Nat} (h:∀ j∈c9,mb j=bf j):eQ mb all b c9=eQ bf all b c9:=by
 unfold eQ
 exact List.map_congr_left fun j aG=>by rw [h j aG]
theorem P5 {n:Nat} {dQ:List (Option Nat)} {hs:List eM} {qd:List (List Nat)} (iF:BT ops n dQ qd (hs.map eM.mJ) c.n=true) (aE:zj E (dQ.filterMap id)=true) (hlen:hs.length=n)
 (ch:∀ bf,pd c ops bf dQ hs E L 0 ops.toList hs qd) (cr:∀ bf,ai c ops Q (ops.toList.drop n) (rD bf E 0 dQ hs) (k0 bf hs (dG L hs) 0 hs)):
 ∀ m (bO:Array Bool) (bf:Nat→Nat) (c9:List Nat) (b:Nat) (a:Act) (W:World),((List.range n).filter fun i=> !bO.getD i true).length≤m→HeadInv .any ops n bO→v5 c n dQ hs E L bO bf c9 b a W→
   wpAnyIn c.F 9 c.P .any ops Q (m + (ops.size - n)) bO a W:=by
 simp only [BT,Bool.and_eq_true,decide_eq_true_eq,Bool.or_eq_true] at iF
 obtain⟨⟨⟨⟨⟨⟨⟨⟨k7,aP⟩,cl⟩,ij⟩,UP⟩,Ld⟩,UQ⟩,Tu⟩,FE⟩:=iF
 have v7:∀ i,i < n→ ∃ o,ops[i]? =some o∧dQ[i]? =some o.dst∧ ∀ e∈o.after,Region.binds .any e=true→e.on < i:=by
  intro i au
  have aa:=List.all_eq_true.1 UP i (List.mem_range.2 au)
  cases bh:ops[i]? with
  | none=>simp [bh] at aa
  | some o=>
    simp only [bh,Option.map_some,Option.getD_some,Bool.and_eq_true,beq_iff_eq] at aa
    refine⟨o,rfl,aa.1.symm,fun e he hb=> ?_⟩
    have:=Array.all_eq_true_iff_forall_mem.1 aa.2 e he
    simp [hb] at this
    exact this
 have B6:∀ (i s:Nat),dQ[i]? =some (some s)→s < c.n:=fun i s h=>by
  have:s∈dQ.filterMap id:=List.mem_filterMap.2 ⟨some s,List.mem_of_getElem? h,rfl⟩
  have:=List.all_eq_true.1 cl s this
  simpa using this
 have LV:∀ (i j s:Nat),dQ[i]? =some (some s)→dQ[j]? =some (some s)→i=j:=by
  have key:∀ (l:List (Option Nat)),(l.filterMap id).Nodup→ ∀ (i j s:Nat),l[i]? =some (some s)→l[j]? =some (some s)→i=j:=by
   intro l
   induction l with
   | nil=>intro _ i j s h; simp at h
   | cons x r b0=>
     intro ij i j s au aG
     have aU:(r.filterMap id).Nodup:=by
      cases x with
      | none=>simpa using ij
      | some y=>simp only [List.filterMap_cons_some (f:=id) (a:=some y) (b:=y) rfl] at ij; exact(List.nodup_cons.1 ij).2
     have rC:x=some s→s ∉ r.filterMap id:=fun e=>by
      subst e
      simp only [List.filterMap_cons_some (f:=id) (a:=some s) (b:=s) rfl] at ij
      exact(List.nodup_cons.1 ij).1
     cases i with
     | zero=>
       simp only [List.getElem?_cons_zero,Option.some.injEq] at au
       cases j with
       | zero=>rfl
       | succ j=>
         simp only [List.getElem?_cons_succ] at aG
         exact absurd (List.mem_filterMap.2 ⟨some s,List.mem_of_getElem? aG,rfl⟩:s∈r.filterMap id) (rC au)
     | succ i=>
       simp only [List.getElem?_cons_succ] at au
       cases j with
       | zero=>
         simp only [List.getElem?_cons_zero,Option.some.injEq] at aG
         exact absurd (List.mem_filterMap.2 ⟨some s,List.mem_of_getElem? au,rfl⟩:s∈r.filterMap id) (rC aG)
       | succ j=>
         simp only [List.getElem?_cons_succ] at aG
         rw [b0 aU i j s au aG]
  exact key dQ ij
 intro m
 induction m with
 | zero=>
   intro bO bf c9 b a W hm inv mid
   have k1:∀ i,i < n→bO.getD i true=true:=by
    intro i au
    cases h:bO.getD i true with
    | true=>rfl
    | false=>
      have:i∈ (List.range n).filter fun i=> !bO.getD i true:=List.mem_filter.2 ⟨List.mem_range.2 au,by rw [h]; rfl⟩
      rw [List.length_eq_zero_iff.1 (Nat.le_zero.1 hm)] at this
      cases this
   have an:=Pv inv aP k1
   rw [← an] at FE
   have Le:(ops.toList.drop n).length=ops.size - n:=by simp
   rw [Nat.zero_add,← Le]
   rw [← Le] at FE
   refine Dp (ops.toList.drop n) n bO a W (fun j=>by simp) FE (cr bf a W ?_)
   have q7:∀ j,j < n→bO.getD j false=true:=fun j qo=>by
    have aD:=k1 j qo
    have aZ:j < bO.size:=by rw [inv.size]; omega
    simpa [aZ] using aD
   have qo:∀ (j:Nat) (h:eM),hs[j]? =some h→j < n:=fun j h aG=>by have:=(List.getElem?_eq_some_iff.1 aG).1; omega
   have Kl:∀ x∈hs.drop b,x.mJ=false:=fun x aq=>by
    obtain⟨j,aG⟩:=List.mem_iff_getElem?.1 aq
    rw [List.getElem?_drop] at aG
    cases h8:x.mJ with
    | false=>rfl
    | true=>
      have:=(mid.stored (b + j) x aG h8).1 (q7 _ (qo _ _ aG))
      omega
   have LW:dG L hs=dG L (hs.take b):=by
    conv=>lhs; rw [← List.take_append_drop b hs]
    rw [Ek,Bb Kl]
   have v8:∀ (j:Nat) cp,hK j cp hs=hK j cp (hs.take b):=fun j cp=>by
    conv=>lhs; rw [← List.take_append_drop b hs]
    rw [DT,A6 Kl]
   have Ff:(c9.map bf).Nodup:=by
    have:=mid.st.nodup
    rw [eH,xX] at this
    exact(List.nodup_append.1 this).2.1
   have UR:∀ (j k:Nat),j∈c9→k∈c9→bf j=bf k→j=k:=by
    have key:∀ (l:List Nat),(l.map bf).Nodup→ ∀ j k:Nat,j∈l→k∈l→bf j=bf k→j=k:=by
     intro l
     induction l with
     | nil=>intro _ j k h; cases h
     | cons x r Vv=>
       intro aP j k aG ax e
       simp only [List.map_cons] at aP
       obtain⟨aa,ae⟩:=List.nodup_cons.1 aP
       rcases List.mem_cons.1 aG with aD | aG
       ·rcases List.mem_cons.1 ax with aZ | ax
        ·rw [aD,aZ]
        ·exact absurd (List.mem_map.2 ⟨k,ax,by rw [← e,aD]⟩) aa
       ·rcases List.mem_cons.1 ax with aZ | ax
        ·exact absurd (List.mem_map.2 ⟨j,aG,by rw [e,aZ]⟩) aa
        ·exact Vv ae j k aG ax e
    exact key c9 Ff
   have F1:∀ (j:Nat) cp,hs[j]? =some (.new cp)→j∈c9:=fun j cp aG=>(mid.news j).2 ⟨qo j _ aG,q7 j (qo j _ aG),cp,aG⟩
   have Fg:∀ e∈k0 bf hs [] 0 hs,e∈eQ bf hs b c9:=fun e he=>by
    obtain⟨j,cp,aa,ae⟩:=DM he
    rw [Nat.zero_add] at ae
    refine List.mem_map.2 ⟨j,F1 j cp aa,?_⟩
    simp only [aa]
    rw [ae,v8]
   have Mo:bC c E (k0 bf hs (dG L hs) 0 hs) a W:=by
    rw [uO,LW]
    refine mid.st.sub (fun e he=> ?_) ?_
    ·rcases List.mem_append.1 he with he | he
     ·exact List.mem_append.2 (.inr (Fg e he))
     ·exact List.mem_append.2 (.inl he)
    ·rw [eH]
     have gM:=mid.st.nodup
     rw [eH,xX] at gM
     obtain⟨aa,ae,aD⟩:=List.nodup_append.1 gM
     refine List.nodup_append.2 ⟨HR hs 0 fun j k u v av aX dk=> ?_,aa,fun x aq y a9 e=> ?_⟩
     ·simp only [Nat.zero_add] at dk
      exact UR j k (F1 j u av) (F1 k v aX) dk
     ·subst e
      obtain⟨e,he,rK⟩:=kh.1 aq
      have:x∈aN (eQ bf hs b c9):=kh.2 ⟨e,Fg e he,rK⟩
      rw [xX] at this
      exact aD x a9 x this rfl
   have k2:∀ k∈aN (k0 bf hs (dG L hs) 0 hs) ++ c.bP,k∈aN (dG L (hs.take b) ++ eQ bf hs b c9) ++ c.bP:=fun k ax=>by
    rw [uO,eH,LW] at ax
    rw [eH]
    simp only [List.mem_append] at ax ⊢
    rcases ax with(ax | ax) | ax
    ·obtain⟨e,he,rK⟩:=kh.1 ax
     exact .inl (.inr (kh.2 ⟨e,Fg e he,rK⟩))
    ·exact .inl (.inl ax)
    ·exact .inr ax
   refine { Mo with env:=fun t τ eC=> ?_ }
   rcases IL 0 eC with⟨j,aa,h,ae,aD⟩ | aa
   ·rw [Nat.zero_add] at aD
    obtain⟨v,aZ,a6⟩:=mid.done j t h τ (qo j h ae) (q7 j (qo j h ae)) aa ae aD
    exact⟨v,aZ,τ.mono (.drop k2) a6⟩
   ·exact Mo.env t τ aa
 | succ m b0=>
   intro bO bf c9 b a W hm inv mid
   by_cases k1:∀ i,i < n→bO.getD i true=true
   ·have bT:((List.range n).filter fun i=> !bO.getD i true).length≤m:=by
     have:((List.range n).filter fun i=> !bO.getD i true)= []:=List.filter_eq_nil_iff.2 fun i au=>by simp [k1 i (List.mem_range.1 au)]
     rw [this]; simp
    have aa:=b0 bO bf c9 b a W bT inv mid
    have more:∀ f (bO:Array Bool) a W,wpAnyIn c.F 9 c.P .any ops Q f bO a W→wpAnyIn c.F 9 c.P .any ops Q (f + 1) bO a W:=by
     intro f
     induction f with
     | zero=>intro bO a W h; exact⟨fun _=>h.2,fun i au=>by rw [h.1] at au; cases au⟩
     | succ f Vw=>intro bO a W h; exact⟨h.1,fun i au=>wpOpIn_mono (fun iE tQ cX=>Vw _ iE tQ cX) (h.2 i au)⟩
    rw [show m + 1 + (ops.size - n)=(m + (ops.size - n)) + 1 by omega]
    exact more _ _ _ _ aa
   ·rw [show m + 1 + (ops.size - n)=(m + (ops.size - n)) + 1 by omega]
    have hex:∃ i,i < n∧bO.getD i true=false:=by
     have aa: ¬ ∀ i,i < n→bO.getD i true=true:=k1
     false_or_by_contra
     rename_i ae
     exact aa fun i au=>by
      cases h:bO.getD i true with
      | true=>rfl
      | false=>exact absurd ⟨i,au,h⟩ ae
    have RR:∀ t∈Region.ready .any ops bO,t < n:=by
     intro t zz
     rcases Nat.lt_or_ge t n with h | h
     ·exact h
     ·obtain⟨i,au,oF⟩:=hex
      rcases Tu with aa | aa
      ·obtain⟨_,o,bh,_⟩:=mem_ready.1 zz
       have:=(Array.getElem?_eq_some_iff.1 bh).1
       omega
      ·have US:n < ops.size:=by
        obtain⟨_,o,bh,_⟩:=mem_ready.1 zz
        have:=(Array.getElem?_eq_some_iff.1 bh).1
        omega
       exact absurd zz (tail_waits aa.1 aa.2 US inv _ i rfl au oF t h)
    refine⟨fun bT=> ?_,fun i au=> ?_⟩
    ·exfalso
     have RS:∀ k,∀ i,i≤k→i < n→bO.getD i true=false→ ∃ i,i < n∧bO.getD i true=false∧ ∀ j,j < i→bO.getD j true=true:=by
      intro k
      induction k with
      | zero=>intro i oE au hu; exact⟨i,au,hu,fun j aG=>by omega⟩
      | succ k Vx=>
        intro i oE au hu
        by_cases hq:∀ j,j < i→bO.getD j true=true
        ·exact⟨i,au,hu,hq⟩
        ·have:∃ j,j < i∧bO.getD j true=false:=by
          false_or_by_contra
          rename_i ae
          exact hq fun j aG=>by
           cases h:bO.getD j true with
           | true=>rfl
           | false=>exact absurd ⟨j,aG,h⟩ ae
         obtain⟨j,aG,Vy⟩:=this
         exact Vx j (by omega) (by omega) Vy
     obtain⟨i0,F2,Vz⟩:=hex
     obtain⟨i,au,hu,FF⟩:=RS i0 i0 (Nat.le_refl _) F2 Vz
     obtain⟨o,bh,_,Bv⟩:=v7 i au
     have:i∈Region.ready .any ops bO:=mem_ready.2 ⟨hu,o,bh,fun e he hb=>by
      have aa:=FF e.on (Bv e he hb)
      have ae:e.on < bO.size:=by rw [inv.size]; have:=Bv e he hb; omega
      simpa [ae] using aa⟩
     rw [bT] at this
     cases this
    ·have fc:=RR i au
     obtain⟨o,bh,lu,Bv⟩:=v7 i fc
     obtain⟨oF,o',qn,q7⟩:=mem_ready.1 au
     have VA:o'=o:=Option.some.inj (qn.symm.trans bh)
     subst VA
     obtain⟨h,ed⟩:∃ h,hs[i]? =some h:=⟨hs[i]'(by omega),by simp⟩
     obtain⟨ct,fQ,iG⟩:=DL (ch bf) i h ed
     have UT:ct=o':=by
      rw [Array.getElem?_toList] at fQ
      exact Option.some.inj (fQ.symm.trans bh)
     subst UT
     have tb:((List.range n).filter fun j=> !(bO.setIfInBounds i true).getD j true).length≤m:=by
      have:((List.range n).filter fun j=> !(bO.setIfInBounds i true).getD j true).length < ((List.range n).filter fun j=> !bO.getD j true).length:=by
       refine Kk (fun j=> !bO.getD j true) (fun j=> !(bO.setIfInBounds i true).getD j true) i (by simp only [oF]; rfl) ?_ (fun j aG=> ?_) n fc
       ·have:i < bO.size:=by rw [inv.size]; omega
        simp [this]
       ·by_cases e:i=j
        ·subst e; simp only [oF]; rfl
        ·rw [getD_set_ne true e] at aG; exact aG
      omega
     have tc:=inv.set au fc
     have B7:i < bO.size:=by rw [inv.size]; omega
     have vC:(bO.setIfInBounds i true).getD i false=true:=by simp [B7]
     have l0:bO.getD i false=false:=getD_both oF
     have UU:i ∉ c9:=fun hm=>by have:=((mid.news i).1 hm).2.1; rw [l0] at this; cases this
     have B8:∀ j∈qd.getD i [],j < n∧bO.getD j false=true:=fun j aG=>by
      have aD:=List.all_eq_true.1 (List.all_eq_true.1 Ld i (List.mem_range.2 fc)) j aG
      simp only [Bool.and_eq_true,decide_eq_true_eq] at aD
      obtain⟨nX,lE,e,he,hb,oG⟩:=Region.waitsFor_spec aD.2
      have:nX=ct:=Option.some.inj (lE.symm.trans bh)
      subst this
      have aZ:=q7 e he hb
      rw [oG] at aZ
      exact⟨aD.1,aZ⟩
     have kr:bC c (he bf dQ hs E (qd.getD i [])) (dG L (hs.take b) ++ eQ bf hs b c9) a W:=by
      refine { mid.st with env:=fun t σ eC=> ?_ }
      rcases JI eC with⟨j,aG,aa,x,ae,aD⟩ | aa
      ·exact mid.done j t x σ (B8 j aG).1 (B8 j aG).2 aa ae aD
      ·exact mid.st.env t σ aa
     have JJ:h.mJ=true→b≤i∧ ∃ r,hs.take i=hs.take b ++ r∧ ∀ x∈r,x.mJ=false:=fun LX=>by
      have Ct:b≤i:=by
       rcases Nat.lt_or_ge i b with aa | aa
       ·have:=(mid.stored i h ed LX).2 aa
        rw [l0] at this; cases this
       ·exact aa
      refine⟨Ct,Qx Ct ed fun j x qp k8 aq=> ?_⟩
      cases h8:x.mJ with
      | false=>rfl
      | true=>
        have aD:=List.all_eq_true.1 UQ i (List.mem_range.2 fc)
        have av:(hs.map eM.mJ).getD i false=true:=by simp [ed,LX]
        simp only [av,Bool.not_true,Bool.false_or] at aD
        have aZ:=List.all_eq_true.1 aD j (List.mem_range.2 k8)
        have aX:(hs.map eM.mJ).getD j false=true:=by simp [aq,h8]
        simp only [aX,Bool.not_true,Bool.false_or] at aZ
        obtain⟨nX,lE,e,he,hb,oG⟩:=Region.waitsFor_spec aZ
        have:nX=ct:=Option.some.inj (lE.symm.trans bh)
        subst this
        have a6:=q7 e he hb
        rw [oG] at a6
        have:=(mid.stored j x aq h8).1 a6
        omega
     unfold wpOpIn
     simp only [bh]
     cases h with
     | val τ=>
       simp only at iG
       have VB:=iG (dG L (hs.take b) ++ eQ bf hs b c9) (fun j e aG hu=>by
        have aa:(dG L (hs.take b))[j]? =some e:=by
         rw [xH b 0 hu (fun q hq ⟨MY,cp',aq⟩=>by
          have VC:=(mid.stored q _ aq rfl).2 hq
          cases hw:Region.waitsFor .any ops (0 + q) (0 + i) with
          | false=>rfl
          | true=>
            obtain⟨F3,B9,e',Cu,tv,LY⟩:=Region.waitsFor_spec hw
            rw [Nat.zero_add] at B9 LY
            have:=inv.closed q F3 B9 VC e' Cu tv
            rw [LY,l0] at this
            cases this)]
         exact aG
        rw [List.getElem?_append_left (List.getElem?_eq_some_iff.1 aa).1]; exact aa)
       obtain⟨aa,ae⟩:=VB a W kr
       have Lf:∀ v W',Fr [] W W'→τ.holds (aN (dG L (hs.take b) ++ eQ bf hs b c9) ++ c.bP) W' v→v5 c n dQ hs E L (bO.setIfInBounds i true) bf c9 b (a.put ct.dst v) W':=by
        intro v W' f a2
        have jJ:=mid.st.world f
        refine⟨?_,fun j bZ x σ aG an eZ aq kN=> ?_,fun j=> ?_,fun j x aq h8=> ?_,mid.ble⟩
        ·cases hd:ct.dst with
         | none=>exact jJ
         | some s=>
           rw [hd] at lu
           refine { (jJ.put (d:=s) (B6 i s lu) a2) with env:=fun t σ eC=> ?_ }
           have dn:s≠t:=fun e=>DK aE t σ eC (by rw [← e]; exact List.mem_filterMap.2 ⟨some s,List.mem_of_getElem? lu,rfl⟩)
           obtain⟨u,a6,bl⟩:=jJ.env t σ eC
           exact⟨u,by simp only [Act.put]; rw [Array.getElem?_setIfInBounds_ne dn]; exact a6,bl⟩
        ·by_cases e:i=j
         ·subst e
          rw [lu] at eZ
          rw [ed] at aq
          cases aq
          simp only [eM.pB,Option.some.injEq] at kN
          subst kN
          simp only [Option.some.injEq] at eZ
          rw [eZ]
          exact⟨v,by rw [eZ] at lu; simp [Act.put,jJ.size,B6 i bZ lu],a2⟩
         ·rw [getD_set_ne false e] at an
          obtain⟨u,a6,bl⟩:=mid.done j bZ x σ aG an eZ aq kN
          refine⟨u,?_,σ.mono (.dm f) bl⟩
          cases hd:ct.dst with
          | none=>exact a6
          | some s=>
            rw [hd] at lu
            have dn:s≠bZ:=fun aX=>e (LV i j s lu (by rw [aX]; exact eZ))
            simp only [Act.put]; rw [Array.getElem?_setIfInBounds_ne dn]; exact a6
        ·rw [mid.news j]
         by_cases e:i=j
         ·subst e
          constructor
          ·rintro ⟨_,a6,_⟩; rw [l0] at a6; cases a6
          ·rintro ⟨_,_,cp,a6⟩; rw [ed] at a6; cases a6
         ·rw [getD_set_ne false e]
        ·have e:i≠j:=fun e=>by subst e; rw [ed] at aq; cases aq; cases h8
         rw [getD_set_ne false e]
         exact mid.stored j x aq h8
       split
       ·rename_i hw
        exact(aa hw).wpIn fun v W' ⟨f,a2⟩=>b0 _ bf c9 b _ _ tb tc (Lf v W' f a2)
       ·rename_i hw
        have VD:Region.wanted ct (yielded ops a.tmps)=false:=by simpa using hw
        exact⟨fun _ _=>trivial,b0 _ bf c9 b _ _ tb tc (Lf undef W (.refl _ _) (ae VD))⟩
     | new cp=>
       simp only at iG
       obtain⟨zA,ja,dZ,kk⟩:=iG
       have Tv:∀ q x,eM.lC q x∈hs.take b→q≠i:=fun q x hm e=>by
        subst e
        obtain⟨j,aG⟩:=List.mem_iff_getElem?.1 hm
        rw [List.getElem?_take] at aG
        split at aG
        ·rename_i VE
         have VF:=(mid.stored j _ aG rfl).2 VE
         have qo:j < n:=by have:=(List.getElem?_eq_some_iff.1 aG).1; omega
         obtain⟨nX,lE,Mp⟩:=DL (ch bf) j _ aG
         simp only at Mp
         have aD:=List.all_eq_true.1 (List.all_eq_true.1 Ld j (List.mem_range.2 qo)) q (by simpa using Mp.1)
         simp only [Bool.and_eq_true,decide_eq_true_eq] at aD
         obtain⟨F3,B9,e,he,hb,oG⟩:=Region.waitsFor_spec aD.2
         have:=inv.closed j F3 B9 VF e he hb
         rw [oG,l0] at this
         cases this
        ·cases aG
       have Ca:hK i cp (hs.take b)=cp:=xF Tv
       let mb:Nat→Nat:=fun j=>if j=i then W.heap.size else bf j
       have VG:∀ j,j∈c9→mb j=bf j:=fun j aG=>if_neg (fun e=>UU (by rw [← e]; exact aG))
       have F4:mb i=W.heap.size:=if_pos rfl
       have pv:dG L (hs.take b) ++ eQ mb hs b (i :: c9)=dG L (hs.take b) ++ (⟨some W.heap.size,cp⟩ :: eQ bf hs b c9):=by
        have:eQ mb hs b (i :: c9)=⟨some W.heap.size,cp⟩ :: eQ mb hs b c9:=by simp only [eQ,List.map_cons,ed,F4,Ca]
        rw [this,Ra VG]
       have zk:v5 c n dQ hs E L (bO.setIfInBounds i true) mb (i :: c9) b (a.put ct.dst (.pointer (some ⟨W.heap.size,0,none⟩))) (W.alloc ja):=by
        have jJ:bC c E (dG L (hs.take b) ++ eQ mb hs b (i :: c9)) a (W.alloc ja):=by
         rw [pv]
         exact(mid.st.alloc (dZ _ _)).perm List.perm_middle.symm
        have gC:Ext (aN (dG L (hs.take b) ++ eQ bf hs b c9) ++ c.bP) W (aN (dG L (hs.take b) ++ eQ mb hs b (i :: c9)) ++ c.bP) (W.alloc ja):=by
         refine⟨by simp,fun k ax _=>yk W ja k ax,fun k ax cl=> ?_⟩
         rw [pv] at ax
         simp only [eH,aN,List.mem_append,List.mem_cons] at ax ⊢
         rcases ax with(h | h | h) | h
         ·exact .inl (.inl h)
         ·omega
         ·exact .inl (.inr h)
         ·exact .inr h
        refine⟨?_,fun j bZ x σ aG an eZ aq kN=> ?_,fun j=> ?_,fun j x aq h8=> ?_,mid.ble⟩
        ·cases hd:ct.dst with
         | none=>exact jJ
         | some s=>
           rw [hd] at lu
           refine { (jJ.put (d:=s) (τ:= .any) (B6 i s lu) trivial) with env:=fun t σ eC=> ?_ }
           have dn:s≠t:=fun e=>DK aE t σ eC (by rw [← e]; exact List.mem_filterMap.2 ⟨some s,List.mem_of_getElem? lu,rfl⟩)
           obtain⟨u,a6,bl⟩:=jJ.env t σ eC
           exact⟨u,by simp only [Act.put]; rw [Array.getElem?_setIfInBounds_ne dn]; exact a6,bl⟩
        ·by_cases e:i=j
         ·subst e
          rw [lu] at eZ
          rw [ed] at aq
          cases aq
          simp only [eM.pB,Option.some.injEq] at kN
          subst kN
          simp only [Option.some.injEq] at eZ
          rw [eZ]
          exact⟨.pointer (some ⟨W.heap.size,0,none⟩),by rw [eZ] at lu; simp [Act.put,jJ.size,B6 i bZ lu],by rw [F4]; rfl⟩
         ·rw [getD_set_ne false e] at an
          have VH:mb j=bf j:=if_neg (fun e'=>e e'.symm)
          rw [VH] at kN
          obtain⟨u,a6,bl⟩:=mid.done j bZ x σ aG an eZ aq kN
          refine⟨u,?_,σ.mono gC bl⟩
          cases hd:ct.dst with
          | none=>exact a6
          | some s=>
            rw [hd] at lu
            have dn:s≠bZ:=fun aX=>e (LV i j s lu (by rw [aX]; exact eZ))
            simp only [Act.put]; rw [Array.getElem?_setIfInBounds_ne dn]; exact a6
        ·rw [List.mem_cons,mid.news j]
         by_cases e:i=j
         ·subst e
          exact⟨fun _=>⟨fc,vC,cp,ed⟩,fun _=> .inl rfl⟩
         ·rw [getD_set_ne false e]
          exact⟨fun h=>h.resolve_left (fun e'=>e e'.symm),.inr⟩
        ·have e:i≠j:=fun e=>by subst e; rw [ed] at aq; cases aq; cases h8
         rw [getD_set_ne false e]
         exact mid.stored j x aq h8
       rw [if_pos (by simp [Region.wanted,zA])]
       refine OR (kk a W) ?_
       exact b0 _ mb (i :: c9) b _ _ tb tc zk
     | j1 q cp=>
       simp only at iG
       obtain⟨Ct,r,tw,tx⟩:=JJ rfl
       have Mq:dG L (hs.take i)=dG L (hs.take b):=by rw [tw,Ek,Bb tx]
       rw [Nat.zero_add,Mq] at iG
       obtain⟨p,ma,hq,rL⟩:=iG
       have j5:(dG L (hs.take b) ++ eQ bf hs b c9)[q]? =some ⟨some p,ma⟩:=by
        rw [List.getElem?_append_left (List.getElem?_eq_some_iff.1 hq).1]; exact hq
       obtain⟨zA,Cb,rL⟩:=rL (dG L (hs.take b) ++ eQ bf hs b c9) (fun j e aG=>by
        rw [List.getElem?_append_left (List.getElem?_eq_some_iff.1 aG).1]; exact aG)
       obtain⟨cs,dA,T,aa,ae,aD⟩:=rL a W kr
       have zx:=mid.st.store j5 aa aD
       have vK:hs.take (i + 1)=hs.take i ++ [.j1 q cp]:=by rw [List.take_add_one,ed]; rfl
       have tz:dG L (hs.take (i + 1))=(dG L (hs.take b)).set q ⟨some p,cp⟩:=by
        rw [vK,Is,Mq]
        simp only [dG]
        exact P4 hq
       have F5:eQ bf hs (i + 1) c9=eQ bf hs b c9:=by
        unfold eQ
        refine List.map_congr_left fun j _=> ?_
        congr 1
        split
        ·rw [vK,Du,tw,DT,A6 tx]; rfl
        ·rfl
       have zB:dG L (hs.take (i + 1)) ++ eQ bf hs (i + 1) c9=(dG L (hs.take b) ++ eQ bf hs b c9).set q ⟨some p,cp⟩:=by
        rw [tz,F5,List.set_append_left _ _ (List.getElem?_eq_some_iff.1 hq).1]
       have ks:aN (dG L (hs.take (i + 1)) ++ eQ bf hs (i + 1) c9)=aN (dG L (hs.take b) ++ eQ bf hs b c9):=by rw [zB]; exact vc (cp:=cp) j5
       have mU:p∈aN (dG L (hs.take b) ++ eQ bf hs b c9):=kh.2 ⟨_,List.mem_of_getElem? j5,rfl⟩
       have gC:Ext (aN (dG L (hs.take b) ++ eQ bf hs b c9) ++ c.bP) W (aN (dG L (hs.take b) ++ eQ bf hs b c9) ++ c.bP) (W.setRow p dA):=
        ⟨by simp,fun k _ bn=>setRow_other W p k dA (fun e=>bn (e ▸ List.mem_append.2 (.inl mU))),fun _ h _=>h⟩
       have zk:v5 c n dQ hs E L (bO.setIfInBounds i true) bf c9 (i + 1) (a.put ct.dst undef) (W.setRow p dA):=by
        rw [Cb]
        refine⟨by rw [zB]; exact zx,fun j bZ x σ aG an eZ aq kN=> ?_,fun j=> ?_,fun j x aq h8=> ?_,fc⟩
        ·rw [ks]
         by_cases e:i=j
         ·subst e; rw [ed] at aq; cases aq; cases kN
         ·rw [getD_set_ne false e] at an
          obtain⟨u,a6,bl⟩:=mid.done j bZ x σ aG an eZ aq kN
          exact⟨u,a6,σ.mono gC bl⟩
        ·rw [mid.news j]
         by_cases e:i=j
         ·subst e
          constructor
          ·rintro ⟨_,a6,_⟩; rw [l0] at a6; cases a6
          ·rintro ⟨_,_,cp,a6⟩; rw [ed] at a6; cases a6
         ·rw [getD_set_ne false e]
        ·by_cases e:i=j
         ·subst e; exact⟨fun _=>by omega,fun _=>vC⟩
         ·rw [getD_set_ne false e,mid.stored j x aq h8]
          constructor
          ·intro _; omega
          ·intro aG
           rcases Nat.lt_or_ge j b with a6 | a6
           ·exact a6
           ·have:x∈r:=by
             have bl:(hs.take i)[j]? =some x:=by rw [List.getElem?_take,if_pos (by omega)]; exact aq
             rw [tw,List.getElem?_append_right (by rw [List.length_take]; omega)] at bl
             exact List.mem_of_getElem? bl
            have:=tx x this
            rw [h8] at this; cases this
       rw [if_pos (by simp [Region.wanted,zA])]
       refine H5 ae ?_
       exact b0 _ bf c9 (i + 1) _ _ tb tc zk
     | lC q cp=>
       simp only at iG
       obtain⟨Ct,r,tw,tx⟩:=JJ rfl
       obtain⟨LZ,ma,F6,rL⟩:=iG
       rw [Nat.zero_add] at rL
       have Ca:∀ (j:Nat) x,hK j x (hs.take i)=hK j x (hs.take b):=fun j x=>by rw [tw,DT,A6 tx]
       have UW:q∈c9:=(mid.news q).2 ⟨(B8 q (by simpa using LZ)).1,(B8 q (by simpa using LZ)).2,ma,F6⟩
       obtain⟨k,ax⟩:=List.mem_iff_getElem?.1 UW
       have zl:(eQ bf hs b c9)[k]? =some ⟨some (bf q),hK q ma (hs.take i)⟩:=by
        simp only [eQ,List.getElem?_map,ax,Option.map_some,F6,Ca]
       have j5:(dG L (hs.take b) ++ eQ bf hs b c9)[(dG L (hs.take b)).length + k]? =some ⟨some (bf q),hK q ma (hs.take i)⟩:=by
        rw [List.getElem?_append_right (by omega),Nat.add_sub_cancel_left]; exact zl
       obtain⟨zA,Cb,rL⟩:=rL (dG L (hs.take b) ++ eQ bf hs b c9) _ j5
       obtain⟨cs,dA,T,aa,ae,aD⟩:=rL a W kr
       have zx:=mid.st.store j5 aa aD
       have vK:hs.take (i + 1)=hs.take i ++ [.lC q cp]:=by rw [List.take_add_one,ed]; rfl
       have tz:dG L (hs.take (i + 1))=dG L (hs.take b):=by
        rw [vK,Is]
        simp only [dG]
        rw [tw,Ek,Bb tx]
       have Ff:c9.Nodup:=by
        have:=mid.st.nodup
        rw [eH,xX] at this
        exact H7 bf c9 (List.nodup_append.1 this).2.1
       have F5:eQ bf hs (i + 1) c9=(eQ bf hs b c9).set k ⟨some (bf q),cp⟩:=by
        apply List.ext_getElem?
        intro j
        rw [List.getElem?_set]
        by_cases e:k=j
        ·subst e
         have F7:k < (eQ bf hs b c9).length:=(List.getElem?_eq_some_iff.1 zl).1
         rw [if_pos rfl,if_pos F7]
         simp only [eQ,List.getElem?_map,ax,Option.map_some,F6]
         rw [vK,Du]
         simp [hK]
        ·rw [if_neg e]
         simp only [eQ,List.getElem?_map]
         cases aG:c9[j]? with
         | none=>rfl
         | some x=>
           have VI:x≠q:=fun aX=>by
            subst aX
            obtain⟨dL,ef⟩:=List.getElem?_eq_some_iff.1 aG
            obtain⟨ei,fA⟩:=List.getElem?_eq_some_iff.1 ax
            exact e ((List.getElem_inj Ff).1 (fA.trans ef.symm))
           simp only [Option.map_some]
           congr 2
           split
           ·rw [vK,Du,Ca]
            have:Nat.beq q x=false:=by
             cases hb:Nat.beq q x with
             | false=>rfl
             | true=>exact absurd (eO.1 hb).symm VI
            simp [hK,this]
           ·rfl
       have zB:dG L (hs.take (i + 1)) ++ eQ bf hs (i + 1) c9=(dG L (hs.take b) ++ eQ bf hs b c9).set ((dG L (hs.take b)).length + k) ⟨some (bf q),cp⟩:=by
        rw [tz,F5,List.set_append_right _ _ (by omega),Nat.add_sub_cancel_left]
       have ks:aN (dG L (hs.take (i + 1)) ++ eQ bf hs (i + 1) c9)=aN (dG L (hs.take b) ++ eQ bf hs b c9):=by rw [zB]; exact vc (cp:=cp) j5
       have mU:bf q∈aN (dG L (hs.take b) ++ eQ bf hs b c9):=kh.2 ⟨_,List.mem_of_getElem? j5,rfl⟩
       have gC:Ext (aN (dG L (hs.take b) ++ eQ bf hs b c9) ++ c.bP) W (aN (dG L (hs.take b) ++ eQ bf hs b c9) ++ c.bP) (W.setRow (bf q) dA):=
        ⟨by simp,fun k _ bn=>setRow_other W (bf q) k dA (fun e=>bn (e ▸ List.mem_append.2 (.inl mU))),fun _ h _=>h⟩
       have zk:v5 c n dQ hs E L (bO.setIfInBounds i true) bf c9 (i + 1) (a.put ct.dst undef) (W.setRow (bf q) dA):=by
        rw [Cb]
        refine⟨by rw [zB]; exact zx,fun j bZ x σ aG an eZ aq kN=> ?_,fun j=> ?_,fun j x aq h8=> ?_,fc⟩
        ·rw [ks]
         by_cases e:i=j
         ·subst e; rw [ed] at aq; cases aq; cases kN
         ·rw [getD_set_ne false e] at an
          obtain⟨u,a6,bl⟩:=mid.done j bZ x σ aG an eZ aq kN
          exact⟨u,a6,σ.mono gC bl⟩
        ·rw [mid.news j]
         by_cases e:i=j
         ·subst e
          constructor
          ·rintro ⟨_,a6,_⟩; rw [l0] at a6; cases a6
          ·rintro ⟨_,_,cp,a6⟩; rw [ed] at a6; cases a6
         ·rw [getD_set_ne false e]
        ·by_cases e:i=j
         ·subst e; exact⟨fun _=>by omega,fun _=>vC⟩
         ·rw [getD_set_ne false e,mid.stored j x aq h8]
          constructor
          ·intro _; omega
          ·intro aG
           rcases Nat.lt_or_ge j b with a6 | a6
           ·exact a6
           ·have:x∈r:=by
             have bl:(hs.take i)[j]? =some x:=by rw [List.getElem?_take,if_pos (by omega)]; exact aq
             rw [tw,List.getElem?_append_right (by rw [List.length_take]; omega)] at bl
             exact List.mem_of_getElem? bl
            have:=tx x this
            rw [h8] at this; cases this
       rw [if_pos (by simp [Region.wanted,zA])]
       refine H5 ae ?_
       exact b0 _ bf c9 (i + 1) _ _ tb tc zk
theorem ag.draw {qq:Nat} {l:List Oper} (hm:c.P.follows .mixedOrders=true) (n:Nat) (dQ:List (Option Nat)) (qd:List (List Nat)) (hs:List eM) (zw:List Bool) (iF:BT l.toArray n dQ qd zw c.n=true) (WD:hs.map eM.mJ=zw) (aE:zj E (dQ.filterMap id)=true)
 (hlen:Nat.beq hs.length n=true) (ch:∀ bf,pd c l.toArray bf dQ hs E L 0 l hs qd)
 (cr:∀ bf:Nat→Nat,ai c l.toArray Q (l.drop n) (rD bf E 0 dQ hs) (k0 bf hs (dG L hs) 0 hs)):ag c Q (.region qq l.toArray true) E L:=fun a W s=>by
 subst WD
 refine wpIn_region_any hm ?_
 have aP:n≤l.toArray.size:=by
  simp only [BT,Bool.and_eq_true,decide_eq_true_eq] at iF
  exact iF.1.1.1.1.1.1.1.2
 have FG:HeadInv .any l.toArray n (Array.replicate l.toArray.size false):=
  {size:=by simp
   closed:=fun j nX _ an=>by rw [getD_replicate_false] at an; cases an
   tail:=fun t _ cr=>by simp at cr; simp [cr] }
 have UX:v5 c n dQ hs E L (Array.replicate l.toArray.size false) (fun _=>0) [] 0 a W.drew:=
  {st:=by simpa [dG,eQ] using s.world (Fr.drew W)
   done:=fun j s h τ _ an=>by rw [getD_replicate_false] at an; cases an
   news:=fun j=>by
    constructor
    ·intro h; cases h
    ·rintro ⟨_,h,_⟩; rw [getD_replicate_false] at h; cases h
   stored:=fun j h _ _=>by
    rw [getD_replicate_false]
    constructor
    ·intro h; cases h
    ·intro h; omega
   ble:=Nat.zero_le _ }
 have h:=P5 (ops:=l.toArray) (Q:=Q) iF aE (eO.1 hlen) (by simpa using ch) (by simpa using cr) n (Array.replicate l.toArray.size false) (fun _=>0) [] 0 a W.drew
  (Nat.le_trans (List.length_filter_le _ _) (by simp)) FG UX
 rw [show n + (l.toArray.size - n)=l.toArray.size by omega] at h
 exact h
end
end Gv
namespace Gv
open Go
set_option linter.unusedVariables false
set_option linter.unusedSimpArgs false
structure bq (P:Program) (t:TypeId) (α:Type) [ah α]:Prop where
 size:(P.info? t).map (·.size)=some (ah.size α)
 Mr:∃ d,P.underlying t=some d∧ (match d with | .struct _ | .array _ _=>true | _=>false)=ah.agg α
structure cE (P:Program) (t:TypeId) {α:Type} [ah α] (x:α):Prop where
 zero:∃ i z,P.info? t=some i∧i.zero=some z∧ ∀ A W,(I.of x).holds A W z
theorem bq.info {P t α} [ah α] (h:bq P t α):∃ i,P.info? t=some i∧i.size=ah.size α:=by
 have:=h.size
 cases au:P.info? t with
 | none=>simp [au] at this
 | some i=>exact⟨i,rfl,by simpa [au] using this⟩
theorem bq.isAgg {P t α} [ah α] (h:bq P t α) (W:World):(isAgg t).run P W= .ok (ah.agg α) W:=by
 obtain⟨d,hd,he⟩:=h.Mr
 unfold Go.isAgg
 rw [Sem.run_bind,run_underlying hd W]
 simp only [Result.andThen_ok]
 cases d <;> simp_all
theorem bq.sizeOf {P t α} [ah α] (h:bq P t α) (W:World):(Go.sizeOf t).run P W= .ok (ah.size α) W:=by
 obtain⟨i,au,hs⟩:=h.info
 simp [Go.sizeOf,typeInfo,au,hs]
theorem iN (b off j:Nat):(⟨b,off,none⟩:Addr).add j=⟨b,off + j,none⟩:=by unfold Addr.add; split <;> simp_all
theorem se {P:Program} {W:World} {b off:Nat} {cur:Array Value} {T t:TypeId} {gq:Nat × Nat} {α:Type} [ah α] {A:List Nat} {x:α} (ty:bq P t α)
 (hb:W.heap[b]? =some (.cells cur T gq)) (hs:off + ah.size α≤cur.size) (aU:ah.rep A W ((cur.toList.drop off).take (ah.size α)) x):
 ∃ v,(loadVar t ⟨b,off,none⟩).run P W= .ok v W∧ (I.of x).holds A W v:=by
 have an:=ah.len aU
 have p4:∀ j v,((cur.toList.drop off).take (ah.size α))[j]? =some v→W.cell? ((⟨b,off,none⟩:Addr).add j)=some v:=by
  intro j v a2
  rw [iN,cell_of_row W b (off + j) cur T gq hb]
  rw [List.getElem?_take] at a2
  split at a2
  ·rw [List.getElem?_drop] at a2; simpa using a2
  ·cases a2
 cases bn:ah.agg α with
 | true=>
   have aa:=run_loadCells_list (P:=P) W ⟨b,off,none⟩ _ p4
   rw [an] at aa
   refine⟨.agg ((cur.toList.drop off).take (ah.size α)).toArray,?_,?_,?_⟩
   ·simp [loadVar,Sem.run_bind,ty.isAgg,ty.sizeOf,bn,aa]
   ·simp [shaped,bn]
   ·simpa [Value.cells] using aU
 | false=>
   have aa:ah.size α=1:=ah.flat bn
   rw [aa] at an
   obtain⟨v,a2⟩:=List.length_eq_one_iff.1 an
   have ae:=p4 0 v (by rw [aa,a2]; rfl)
   have aD:v.oneCell'=true:=ah.one aU v (by rw [aa,a2]; simp)
   refine⟨v,?_,?_,?_⟩
   ·rw [iN,Nat.add_zero] at ae
    simp [loadVar,Sem.run_bind,ty.isAgg,bn,ae]
   ·simp [shaped,bn,aD]
   ·rw [m7 aD]
    rw [aa,a2] at aU
    simpa using aU
def fy (cur:List Value) (off:Nat) (ds:List Value):List Value:=cur.take off ++ ds ++ cur.drop (off + ds.length)
theorem Qy {A W v} {α:Type} [ah α] {x:α} (h:(I.of x).holds A W v):v.cells.toList.length=ah.size α∧ ∀ u∈v.cells.toList,u.oneCell'=true:=⟨ah.len h.2,ah.one h.2⟩
theorem xj {P:Program} {W:World} {b off:Nat} {cur:Array Value} {T t:TypeId} {α:Type} [ah α] {A:List Nat} {x:α} {v:Value} (ty:bq P t α)
 (hb:W.heap[b]? =some (.cells cur T (0,0))) (hs:off + ah.size α≤cur.size) (a2:(I.of x).holds A W v):
 (storeVar t ⟨b,off,none⟩ v).run P W= .ok () (W.setRow b (fy cur.toList off v.cells.toList).toArray):=by
 obtain⟨an,aa⟩:=Qy a2
 have ae:=run_storeCells_at P b off T v.cells.toList 0 cur W hb (by rw [an]; omega) aa
 have eK:v.cells.size=ah.size α:=by simpa using an
 simp only [Nat.add_zero] at ae
 simp only [storeVar,Sem.run_bind,ty.sizeOf,Result.andThen_ok,eK]
 simp only [ne_eq,not_true_eq_false,↓reduceIte,Sem.run_pure,Sem.run_bind,Result.andThen_ok]
 simpa [fy] using ae
structure aK (β γ:Type) [ah β] [ah γ] where
 off:Nat
 get:β→γ
 set:β→γ→β
 fR:off + ah.size γ≤ah.size β
 hR:∀ {A W cs b},ah.rep A W cs b→ah.rep A W ((cs.drop off).take (ah.size γ)) (get b)
 kf:∀ {A W cs b ds g},ah.rep A W cs b→ah.rep A W ds g→ah.rep A W (cs.take off ++ ds ++ cs.drop (off + ah.size γ)) (set b g)
def aK.id (β:Type) [ah β]:aK β β where
 off:=0
 get b:=b
 set _ g:=g
 fR:=by simp
 hR h:=by
  have:=ah.len h
  rw [List.drop_zero,← this,List.take_length]; exact h
 kf h bx:=by
  have aa:=ah.len h
  rw [List.take_zero,List.nil_append,Nat.zero_add,← aa,List.drop_length,List.append_nil]; exact bx
theorem si (cs:List Value) (cW s1 ct s2:Nat) (h:ct + s2≤s1):(((cs.drop cW).take s1).drop ct).take s2=(cs.drop (cW + ct)).take s2:=by
 apply List.ext_getElem?
 intro i
 simp only [List.getElem?_take,List.getElem?_drop]
 split
 ·rw [if_pos (by omega)]; congr 1; omega
 ·rfl
theorem IM (cs ds:List Value) (cW s1 ct s2:Nat) (h:ct + s2≤s1) (ar:cW + s1≤cs.length):
 cs.take cW ++ (((cs.drop cW).take s1).take ct ++ ds ++ ((cs.drop cW).take s1).drop (ct + s2)) ++ cs.drop (cW + s1)=cs.take (cW + ct) ++ ds ++ cs.drop (cW + ct + s2):=by
 have av:cs.take (cW + ct)=cs.take cW ++ ((cs.drop cW).take s1).take ct:=by
  rw [List.take_take,Nat.min_eq_left (by omega),List.take_add]
 have aX:cs.drop (cW + ct + s2)=((cs.drop cW).take s1).drop (ct + s2) ++ cs.drop (cW + s1):=by
  apply List.ext_getElem?
  intro i
  simp only [List.getElem?_append,List.getElem?_drop,List.getElem?_take,List.length_drop,List.length_take]
  split
  ·rw [if_pos (by omega)]; congr 1; omega
  ·congr 1; omega
 rw [av,aX]
 simp only [List.append_assoc]
def aK.comp {α β γ:Type} [ah α] [ah β] [ah γ] (l:aK α β) (m:aK β γ):aK α γ where
 off:=l.off + m.off
 get b:=m.get (l.get b)
 set b g:=l.set b (m.set (l.get b) g)
 fR:=by have:=l.fR; have:=m.fR; omega
 hR h:=by
  have:=m.hR (l.hR h)
  rwa [si _ _ _ _ _ m.fR] at this
 kf h bx:=by
  have aa:=l.kf h (m.kf (l.hR h) bx)
  have ae:=ah.len h
  have aD:=l.fR
  rwa [IM _ _ _ _ _ _ m.fR (by omega)] at aa
def bJ {α:Type} [Inhabited α] {n:Nat} (v:Vector α n) (k:Nat):α:=v[k]?.getD default
def c2 {α:Type} {n:Nat} (v:Vector α n) (k:Nat) (x:α):Vector α n:=v.setIfInBounds k x
instance {α:Type} [Inhabited α] {n:Nat} :Inhabited (Vector α n):=⟨Vector.replicate n default⟩
instance WT {α:Type} [ah α] [Inhabited α] {n:Nat} :ah (Vector α n) where
 size:=n * ah.size α
 agg:=true
 rep A W cs v:=fW A W cs v.toList
 len h:=by rw [h.1]; simp
 one h:=by
  intro u hu
  obtain⟨j,aG⟩:=List.mem_iff_getElem?.1 hu
  have cl:=(List.getElem?_eq_some_iff.1 aG).1
  have aa:=h.1
  by_cases hs:ah.size α=0
  ·rw [hs,Nat.mul_zero] at aa; omega
  ·have hp:0 < ah.size α:=Nat.pos_of_ne_zero hs
   have au:j / ah.size α < _:=(Nat.div_lt_iff_lt_mul hp).2 (by rw [aa] at cl; exact cl)
   refine ah.one (h.2 _ au) u (List.mem_iff_getElem?.2 ⟨j % ah.size α,?_⟩)
   rw [List.getElem?_take,if_pos (Nat.mod_lt _ hp),List.getElem?_drop,Nat.mul_comm,Nat.div_add_mod]
   exact aG
 flat h:=by cases h
 mono e h:=h.mono e
theorem Pc {α:Type} [Inhabited α] {n:Nat} (v:Vector α n) {k:Nat} (h:k < n):bJ v k=v.toList[k]'(by simpa using h):=by simp [bJ,h]
theorem DU {α:Type} [ah α] {A W} {cs ds:List Value} {xs:List α} {x:α} {k:Nat} (h:fW A W cs xs) (ax:k < xs.length) (hd:ah.rep A W ds x):
 fW A W (cs.take (k * ah.size α) ++ ds ++ cs.drop (k * ah.size α + ah.size α)) (xs.set k x):=by
 have an:=h.1
 have Xc:=ah.len hd
 have hle:(k + 1) * ah.size α≤xs.length * ah.size α:=Nat.mul_le_mul_right _ ax
 rw [Nat.succ_mul] at hle
 refine⟨by simp only [List.length_append,List.length_take,List.length_drop,List.length_set]; omega,fun i au=> ?_⟩
 rw [List.length_set] at au
 by_cases e:k=i
 ·subst e
  have:((cs.take (k * ah.size α) ++ ds ++ cs.drop (k * ah.size α + ah.size α)).drop (k * ah.size α)).take (ah.size α)=ds:=by
   rw [List.append_assoc,List.drop_append_of_le_length (by simp only [List.length_take]; omega),List.drop_of_length_le (by simp only [List.length_take]; omega),List.nil_append,
    List.take_append_of_le_length (by omega),List.take_of_length_le (by omega)]
  rw [this]
  simpa using hd
 ·have aa:=h.2 i au
  have:((cs.take (k * ah.size α) ++ ds ++ cs.drop (k * ah.size α + ah.size α)).drop (i * ah.size α)).take (ah.size α)=(cs.drop (i * ah.size α)).take (ah.size α):=by
   apply List.ext_getElem?
   intro j
   simp only [List.getElem?_take,List.getElem?_drop]
   split
   ·rename_i aG
    simp only [List.getElem?_append,List.length_append,List.length_take,List.getElem?_take,List.getElem?_drop]
    rcases Nat.lt_or_gt_of_ne e with ae | ae
    ·have:(k + 1) * ah.size α≤i * ah.size α:=Nat.mul_le_mul_right _ ae
     rw [Nat.succ_mul] at this
     rw [if_neg (by omega)]; congr 1; omega
    ·have:(i + 1) * ah.size α≤k * ah.size α:=Nat.mul_le_mul_right _ ae
     rw [Nat.succ_mul] at this
     rw [if_pos (by omega),if_pos (by omega),if_pos (by omega)]
   ·rfl
  rw [this]
  simpa [List.getElem_set_ne e] using aa
def aK.idx {α:Type} [ah α] [Inhabited α] (n k:Nat) (ax:k < n):aK (Vector α n) α where
 off:=k * ah.size α
 get v:=bJ v k
 set v x:=c2 v k x
 fR:=by
  show k * ah.size α + ah.size α≤n * ah.size α
  rw [← Nat.succ_mul]; exact Nat.mul_le_mul_right _ ax
 hR h:=by
  rename_i b
  rw [Pc b ax]
  exact h.2 k (by simpa using ax)
 kf h hd:=by
  rename_i b ds g
  have:=DU h (k:=k) (by simpa using ax) hd
  show fW _ _ _ (c2 b k g).toList
  rw [show(c2 b k g).toList=b.toList.set k g by simp [c2]]
  exact this
def idx (n:Nat) (i:Int):Option Nat:=if 0≤i∧i < n then some i.toNat else none
theorem cK {n:Nat} {i:Int} {k:Nat} (h:idx n i=some k):k < n∧i=k:=by
 unfold idx at h
 split at h
 ·rename_i au
  simp only [Option.some.injEq] at h
  omega
 ·cases h
section
variable {c:cY} {E:List (Nat × I)} {L:List aL} {ops:Array Oper} {Q:Exit→Act→World→Prop}
variable {d:Option Tmp} {ty:TypeId} {pos:String} {af:Array Edge} {g:Option (Nat × Bool)}
theorem cU {x:Operand} {τ:I} (h:a7 c E L x τ):bY c E L ⟨d,.move x,ty,pos,af,g⟩ τ:= .pure fun a W s=>⟨_,rfl,h a W s⟩
theorem eW {x:Operand} {τ:I} (h:a7 c E L x τ):bY c E L ⟨d,.assign x,ty,pos,af,g⟩ τ:= .pure fun a W s=>⟨_,rfl,h a W s⟩
theorem rz {x y:Operand} {b e:Bool} {p:Prop} (aq:a7 c E L x (.of b)) (a9:a7 c E L y (.cond p (.of e))) (hp:b=false→p):
 bY c E L ⟨d,.pick x (.const (.bool true)) y,ty,pos,af,g⟩ (.of (b || e)):= .pure fun a W s=>by
 have aa:=of_bool.1 (aq a W s)
 cases b with
 | true=>exact⟨.bool true,by simp only [execOp,aa,asBool]; rfl,of_bool.2 rfl⟩
 | false=>
   have ae:=of_bool.1 ((a9 a W s).1 (hp rfl))
   exact⟨.bool e,by simp [execOp,asBool,aa,ae],of_bool.2 rfl⟩
theorem mE {x y:Operand} {b e:Bool} {p:Prop} (aq:a7 c E L x (.of b)) (a9:a7 c E L y (.cond p (.of e))) (hp:b=true→p):
 bY c E L ⟨d,.pick x y (.const (.bool false)),ty,pos,af,g⟩ (.of (b && e)):= .pure fun a W s=>by
 have aa:=of_bool.1 (aq a W s)
 cases b with
 | false=>exact⟨.bool false,by simp only [execOp,aa,asBool]; rfl,of_bool.2 rfl⟩
 | true=>
   have ae:=of_bool.1 ((a9 a W s).1 (hp rfl))
   exact⟨.bool e,by simp [execOp,asBool,aa,ae],of_bool.2 rfl⟩
theorem iy {x:Operand} {b:Bool} {t:TypeId} (aq:a7 c E L x (.of b)):bY c E L ⟨d,.unOp .not t x,ty,pos,af,g⟩ (.of (!b)):= .pure fun a W s=>
 ⟨.bool (!b),by simp [execOp,Op.unary,of_bool.1 (aq a W s)],of_bool.2 rfl⟩
theorem dP {x:Operand} {t:TypeId} {i p o:Nat} {β γ:Type} [ah β] [ah γ] {b:β} (l:aK β γ) {r:γ} (dR:bq c.P t γ) (aq:a7 c E L x (.eq (.pointer (some ⟨p,o,none⟩))))
 (ao:L[i]? =some ⟨some p,.var b⟩) (bh:o=l.off) (aU:l.get b=r):bY c E L ⟨d,.load t x,ty,pos,af,g⟩ (.of r):= .pure fun a W s=>by
 subst bh
 subst aU
 obtain⟨ja,dZ,cs,T,rfl,fw⟩:=s.own _ (List.mem_of_getElem? ao)
 have aa:cs.toList.length=ah.size β:=ah.len fw
 obtain⟨v,ae,aD⟩:=se (A:=aN L ++ c.bP) dR dZ (by have:=l.fR; simp at aa; omega) (l.hR fw)
 refine⟨v,?_,aD⟩
 have aZ:a.eval x=_:=aq a W s
 simp [execOp,Instr.loadAt,Instr.sureAddr,aZ,ae]
theorem c7 {x:Operand} {t:TypeId} {γ:Type} [ah γ] {r:γ} (dR:bq c.P t γ) (aq:a7 c E L x (.ptr r)):bY c E L ⟨d,.load t x,ty,pos,af,g⟩ (.of r):= .pure fun a W s=>by
 obtain⟨b,off,cur,T,gq,aZ,hb,ch,hs,aU⟩:=aq a W s
 obtain⟨v,ae,aD⟩:=se dR ch hs aU
 exact⟨v,by simp [execOp,Instr.loadAt,Instr.sureAddr,aZ,ae],aD⟩
structure b9 (P:Program) (s:TypeId) (f o:Nat):Prop where
 at_:∃ fB fd i,P.underlying s=some (.struct fB)∧fB[f]? =some fd∧fd.offset=o∧P.info? fd.type=some i∧i.size≠0
theorem Ig {P:Program} {s:TypeId} {f o:Nat} (h:b9 P s f o) (p off:Nat) (W:World):
 (Instr.fieldAt s (.pointer (some ⟨p,off,none⟩)) f).run P W= .ok (.pointer (some ⟨p,off + o,none⟩)) W:=by
 obtain⟨fB,fd,i,aa,ae,aD,aZ,a6⟩:=h.at_
 simp [Instr.fieldAt,run_underlying aa,ae,Instr.sureAddr,fieldPlace,Go.sizeOf,typeInfo,aZ,a6,iN,aD]
theorem aQ {x:Operand} {s f o p off:Nat} (fd:b9 c.P s f o) (aq:a7 c E L x (.eq (.pointer (some ⟨p,off,none⟩)))):
 bY c E L ⟨d,.fieldAddr s x f,ty,pos,af,g⟩ (.eq (.pointer (some ⟨p,off + o,none⟩))):= .pure fun a W st=>by
 have aZ:a.eval x=_:=aq a W st
 exact⟨_,by simp [execOp,aZ,Ig fd],rfl⟩
theorem BK {x:Operand} {s f o:Nat} {β γ:Type} [ah β] [ah γ] {b:β} (l:aK β γ) {r:γ} (fd:b9 c.P s f o) (aq:a7 c E L x (.ptr b)) (bh:l.off=o) (aU:l.get b=r):
 bY c E L ⟨d,.fieldAddr s x f,ty,pos,af,g⟩ (.ptr r):= .pure fun a W st=>by
 subst bh
 subst aU
 obtain⟨q,off,cur,T,gq,aZ,hb,ch,hs,fw⟩:=aq a W st
 refine⟨.pointer (some ⟨q,off + l.off,none⟩),by simp [execOp,aZ,Ig fd],q,off + l.off,cur,T,gq,rfl,hb,ch,by have:=l.fR; omega,?_⟩
 have:=l.hR fw
 rwa [si _ _ _ _ _ l.fR] at this
structure nY (P:Program) (t:TypeId) (n s:Nat):Prop where
 at_:∃ e i,P.underlying t=some (.array n e)∧P.info? e=some i∧i.size=s
theorem Ox {P:Program} {t n s:Nat} (h:nY P t n s) (p off:Nat) (k:Nat) (ax:k < n) (W:World):
 (Instr.indexAt t (.pointer (some ⟨p,off,none⟩)) (.int .i64 (k:Int))).run P W= .ok (.pointer (some ⟨p,off + k * s,none⟩)) W:=by
 obtain⟨e,i,aa,ae,aD⟩:=h.at_
 simp [Instr.indexAt,asIntOf,run_underlying aa,Instr.sureAddr,Go.sizeOf,typeInfo,ae,aD,ax,iN]
theorem fj {x y:Operand} {t n s p off:Nat} {i:Int} {k:Nat} (WE:nY c.P t n s) (aq:a7 c E L x (.eq (.pointer (some ⟨p,off,none⟩)))) (a9:a7 c E L y (.of i)) (ax:k < n∧i=k):
 bY c E L ⟨d,.indexAddr t x y,ty,pos,af,g⟩ (.eq (.pointer (some ⟨p,off + k * s,none⟩))):= .pure fun a W st=>by
 have aZ:a.eval x=_:=aq a W st
 have a6:=of_int.1 (a9 a W st)
 obtain⟨bl,rfl⟩:=ax
 exact⟨_,by simp [execOp,aZ,a6,Ox WE p off k bl],rfl⟩
theorem ai.alloc {t:TypeId} {rest:List Oper} {a4:Nat} {α:Type} [ah α] {z:α} (gr:cE c.P t z) (aP:Nat.blt a4 c.n=true)
 (k:∀ p,ai c ops Q rest ((a4,.eq (.pointer (some ⟨p,0,none⟩))) :: E) (⟨some p,.var z⟩ :: L)):ai c ops Q (⟨some a4,.alloc t,ty,pos,af,none⟩ :: rest) E L:=fun a W s=>by
 obtain⟨i,dM,aa,ae,aD⟩:=gr.zero
 refine hI rfl (R:=fun v W'=>v= .pointer (some ⟨W.heap.size,0,none⟩)∧W'=W.alloc (.cells dM.cells t)) (.lq ?_ ⟨rfl,rfl⟩) fun v W' ⟨a2,hw⟩=> ?_
 ·simp [execOp,Instr.alloc,zeroValue,typeInfo,aa,ae,newVar,newRow]
 ·subst a2
  subst hw
  exact k _ _ _ ((s.alloc (cp:= .var z) ⟨dM.cells,t,rfl,(aD _ _).2⟩).put (by simpa using aP) rfl)
theorem o0 {P:Program} {t:TypeId} {α:Type} [ah α] {z:α} (gr:cE P t z):G1 P ⟨d,.alloc t,ty,pos,af,none⟩ (.var z):=by
 obtain⟨i,dM,aa,ae,aD⟩:=gr.zero
 refine⟨rfl,.cells dM.cells t,fun A W=>⟨dM.cells,t,rfl,(aD A W).2⟩,fun a W=> ?_⟩
 simp [execOp,Instr.alloc,zeroValue,typeInfo,aa,ae,newVar,newRow]
theorem sD {x y:Operand} {t:TypeId} {i p o:Nat} {β γ:Type} [ah β] [ah γ] {b b':β} {v:γ} (l:aK β γ) (dR:bq c.P t γ) (aq:a7 c E L x (.eq (.pointer (some ⟨p,o,none⟩))))
 (a9:a7 c E L y (.of v)) (ao:L[i]? =some ⟨some p,.var b⟩) (bh:o=l.off) (hb:l.set b v=b'):z8 c E L ⟨none,.store t x y,ty,pos,af,none⟩ p (.var b'):=⟨rfl,rfl,fun a W s=>by
 subst bh
 subst hb
 obtain⟨ja,dZ,cs,T,rfl,fw⟩:=s.own _ (List.mem_of_getElem? ao)
 have aa:cs.toList.length=ah.size β:=ah.len fw
 have fc:=l.fR
 have a2:=a9 a W s
 have ae:=xj (A:=aN L ++ c.bP) dR dZ (off:=l.off) (by simp at aa; omega) a2
 have aZ:a.eval x=_:=aq a W s
 refine⟨cs,(fy cs.toList l.off (a.eval y).cells.toList).toArray,T,dZ,?_,?_⟩
 ·simp [execOp,Instr.storeAt,Instr.sureAddr,aZ,ae]
 ·refine⟨_,T,rfl,?_⟩
  have:=l.kf fw a2.2
  simpa [fy,ah.len a2.2] using this⟩
theorem ai.box {t:TypeId} {x:Operand} {rest:List Oper} {a4:Nat} {α:Type} [ah α] {z:α} (aq:a7 c E L x (.of z)) (aP:Nat.blt a4 c.n=true)
 (k:∀ p,ai c ops Q rest ((a4,.eq (.pointer (some ⟨p,0,none⟩))) :: E) (⟨some p,.var z⟩ :: L)):ai c ops Q (⟨some a4,.box t x,ty,pos,af,none⟩ :: rest) E L:=fun a W s=>by
 refine hI rfl (R:=fun v W'=>v= .pointer (some ⟨W.heap.size,0,none⟩)∧W'=W.alloc (.cells (a.eval x).cells t)) (.lq ?_ ⟨rfl,rfl⟩) fun v W' ⟨a2,hw⟩=> ?_
 ·simp [execOp,Instr.box,newVar,newRow]
 ·subst a2
  subst hw
  exact k _ _ _ ((s.alloc (cp:= .var z) ⟨_,t,rfl,(aq a W s).2⟩).put (by simpa using aP) rfl)
theorem ai.store {x y:Operand} {t:TypeId} {rest:List Oper} {i p o:Nat} {β γ:Type} [ah β] [ah γ] {b b':β} {v:γ} (l:aK β γ) (dR:bq c.P t γ) (aq:a7 c E L x (.eq (.pointer (some ⟨p,o,none⟩))))
 (a9:a7 c E L y (.of v)) (ao:L[i]? =some ⟨some p,.var b⟩) (bh:o=l.off) (hb:l.set b v=b')
 (k:ai c ops Q rest E (L.set i ⟨some p,.var b'⟩)):ai c ops Q (⟨none,.store t x y,ty,pos,af,none⟩ :: rest) E L:=fun a W s=>by
 subst bh
 subst hb
 obtain⟨ja,dZ,cs,T,rfl,fw⟩:=s.own _ (List.mem_of_getElem? ao)
 have aa:cs.toList.length=ah.size β:=ah.len fw
 have fc:=l.fR
 have a2:=a9 a W s
 have ae:=xj (A:=aN L ++ c.bP) dR dZ (off:=l.off) (by simp at aa; omega) a2
 have aZ:a.eval x=_:=aq a W s
 refine hI rfl (R:=fun v W'=>W'=W.setRow p (fy cs.toList l.off (a.eval y).cells.toList).toArray) (.u4 ?_ rfl) fun v W' hw=> ?_
 ·simp [execOp,Instr.storeAt,Instr.sureAddr,aZ,ae]
 ·subst hw
  refine k _ _ (s.store ao dZ ?_)
  refine⟨_,T,rfl,?_⟩
  have:=l.kf fw a2.2
  simpa [fy,ah.len a2.2] using this
def g1 (c:cY) (E:List (Nat × I)) (L:List aL):List Operand→List I→Prop
 | [],[]=>True
 | x :: xs,τ :: τs=>a7 c E L x τ∧g1 c E L xs τs
 | _,_=>False
theorem g1.holds:∀ {xs:List Operand} {τs:List I},g1 c E L xs τs→ ∀ a W,bC c E L a W→fV (aN L ++ c.bP) W τs (xs.map a.eval)
 | [],[],_,_,_,_=> .nil
 | x :: xs,τ :: τs,h,a,W,s=> .cons (h.1 a W s) (h.2.holds a W s)
 | [],_ :: _,h,_,_,_=>h.elim
 | _ :: _,[],h,_,_,_=>h.elim
structure bM (P:Program) (f:FuncId):Prop where
 at_:∃ fn,P.funcs[f]? =some fn∧fn.body.isNone=false∧ (fn.name == "runtime.NumGoroutine")=false
theorem bM.run {P:Program} {f:FuncId} (h:bM P f) (args:Array Value) (W:World):(callFunc f args).run P W= .ok (.enter f args) W:=by
 obtain⟨fn,aa,ae,aD⟩:=h.at_
 simp only [callFunc,Sem.run_bind,run_program,Result.andThen_ok,aa,aD,ae]
 rfl
theorem iQ {f:FuncId} {xs:List Operand} {ats:Array TypeId} {τs:List I} {ρ:I} (dS:bM c.P f) (h:bE c.P f τs ρ) (aq:g1 c E L xs τs):
 bY c E L ⟨d,.call ⟨.value (.func f),xs.toArray,ats⟩,ty,pos,af,g⟩ ρ:=fun a W s=>by
 refine .sv (f:=f) (args:=(xs.map a.eval).toArray) (W':=W) ?_ (h _ W _ s.Bu (aq.holds a W s))
 simp [execOp,resolve,Deferred.ofValue,Act.eval,invoke,dS.run]
theorem q1 {P:Program} {W:World} {t off:Nat} {cs:Array Value} {α:Type} [ah α] {A:List Nat} {x:α} (ty:bq P t α) (hs:off + ah.size α≤cs.size)
 (aU:ah.rep A W ((cs.toList.drop off).take (ah.size α)) x):∃ v,(part t cs off).run P W= .ok v W∧ (I.of x).holds A W v:=by
 have an:=ah.len aU
 cases bn:ah.agg α with
 | true=>
   refine⟨.agg (cs.extract off (off + ah.size α)),?_,?_,?_⟩
   ·simp [part,ty.isAgg,ty.sizeOf,bn]
   ·simp [shaped,bn]
   ·simpa [Value.cells,List.extract,Array.toList_extract] using aU
 | false=>
   have aa:ah.size α=1:=ah.flat bn
   have cl:off < cs.size:=by omega
   have ae:(cs.toList.drop off).take (ah.size α)= [cs[off]]:=by
    rw [aa]
    apply List.ext_getElem?
    intro j
    rw [List.getElem?_take,List.getElem?_drop]
    cases j with
    | zero=>simp [cl]
    | succ j=>simp
   rw [ae] at aU
   have aD:cs[off].oneCell'=true:=ah.one aU _ (by simp)
   refine⟨cs[off],?_,?_,?_⟩
   ·simp [part,ty.isAgg,bn,cl]
   ·simp [shaped,bn,aD]
   ·rw [m7 aD]; simpa using aU
structure G2 (P:Program) (s f t o:Nat):Prop where
 at_:∃ fB fd,P.underlying s=some (.struct fB)∧fB[f]? =some fd∧fd.offset=o∧fd.type=t
theorem D9 {x:Operand} {s f t o:Nat} {β γ:Type} [ah β] [ah γ] {b:β} (l:aK β γ) {r:γ} (WG:G2 c.P s f t o) (dR:bq c.P t γ) (bn:ah.agg β=true) (aq:a7 c E L x (.of b)) (bh:l.off=o) (aU:l.get b=r):
 bY c E L ⟨d,.field s x f,ty,pos,af,g⟩ (.of r):= .pure fun a W st=>by
 subst bh
 subst aU
 obtain⟨aa,ae⟩:=aq a W st
 simp only [shaped,bn,if_true] at aa
 obtain⟨cs,qs⟩:=aa
 obtain⟨fB,fd,aD,aZ,a6,bl⟩:=WG.at_
 rw [qs] at ae
 simp only [Value.cells] at ae
 have an:cs.toList.length=ah.size β:=ah.len ae
 obtain⟨v,cZ,eN⟩:=q1 (A:=aN L ++ c.bP) (P:=c.P) (W:=W) (cs:=cs) (off:=l.off) dR (by have:=l.fR; simp at an; omega) (l.hR ae)
 refine⟨v,?_,eN⟩
 simp [execOp,Instr.field,run_underlying aD,aZ,qs,asAgg,a6,bl,cZ]
theorem JD {x y:Operand} {t e n:Nat} {i:Int} {k:Nat} {α:Type} [ah α] [Inhabited α] {v:Vector α n} (hu:c.P.underlying t=some (.array n e)) (dR:bq c.P e α) (aq:a7 c E L x (.of v)) (a9:a7 c E L y (.of i)) (ax:k < n∧i=k):
 bY c E L ⟨d,.index t x y,ty,pos,af,g⟩ (.of (bJ v k)):= .pure fun a W st=>by
 obtain⟨aa,ae⟩:=aq a W st
 obtain⟨cs,qs⟩:∃ cs,a.eval x= .agg cs:=by simpa [shaped,ah.agg] using aa
 have a6:=of_int.1 (a9 a W st)
 obtain⟨bl,rfl⟩:=ax
 rw [qs] at ae
 simp only [Value.cells] at ae
 have an:cs.toList.length=n * ah.size α:=ah.len ae
 have fc:=(aK.idx (α:=α) n k bl).fR
 obtain⟨u,cZ,eN⟩:=q1 (A:=aN L ++ c.bP) (P:=c.P) (W:=W) (cs:=cs) (off:=k * ah.size α) dR
  (by
   have:k * ah.size α + ah.size α≤n * ah.size α:=fc
   simp at an; omega) ((aK.idx (α:=α) n k bl).hR ae)
 refine⟨u,?_,eN⟩
 simp [execOp,Instr.index,asIntOf,run_underlying hu,qs,a6,bl,dR.sizeOf,cZ]
theorem kY {x:Operand} {i:Nat} {τs:List I} {τ:I} (aq:a7 c E L x (.cG τs)) (au:τs[i]? =some τ):bY c E L ⟨d,.extract x i,ty,pos,af,g⟩ τ:= .pure fun a W st=>by
 obtain⟨vs,aa,ae⟩:=aq a W st
 have get:∀ {τs:List I} {vs:List Value},fV (aN L ++ c.bP) W τs vs→ ∀ (i:Nat) (τ:I),τs[i]? =some τ→ ∃ v,vs[i]? =some v∧τ.holds (aN L ++ c.bP) W v:=by
  intro τs vs h
  induction h with
  | nil=>intro i τ h; simp at h
  | cons aa _ b0=>
    intro i τ h
    cases i with
    | zero=>simp only [List.getElem?_cons_zero,Option.some.injEq] at h; subst h; exact⟨_,rfl,aa⟩
    | succ i=>simp only [List.getElem?_cons_succ] at h ⊢; exact b0 i τ h
 obtain⟨v,aD,aZ⟩:=get ae i τ au
 refine⟨v,?_,aZ⟩
 have a6:vs[i]? =some v:=by simpa using aD
 simp [execOp,Instr.extract,aa,a6]
end
end Gv
namespace Gv
open Go
set_option linter.unusedVariables false
set_option linter.unusedSimpArgs false
def bw (x:Int):Int:=IntKind.i64.wrap x
theorem hD {x:Int} (h: -9223372036854775808≤x) (cX:x≤9223372036854775807):bw x=x:=by
 unfold bw
 rw [IntKind.wrap_i64]
 omega
def rB (a b:Int):Option Int:=if b=0 then none else some (a.tmod b)
theorem DE {a b r:Int} (h:rB a b=some r):b≠0∧a.tmod b=r:=by unfold rB at h; split at h <;> simp_all
theorem wrap_u8 (n:Int):IntKind.u8.wrap n=n % 256:=by simp [IntKind.wrap,IntKind.signed,IntKind.bits]
theorem wrap_u64 (n:Int):IntKind.u64.wrap n=n % 18446744073709551616:=by simp [IntKind.wrap,IntKind.signed,IntKind.bits]
theorem Rb (P:Program) (W:World) (k G3:IntKind) (a b:Int) (h:0≤b):(Op.shift .shl k a G3 b).run P W= .ok (.int k (k.wrap (a * 2 ^ min b.toNat k.bits))) W:=by
 unfold Op.shift
 rw [if_neg (by omega)]
 rfl
theorem Rc (P:Program) (W:World) (k G3:IntKind) (a b:Int) (h:0≤b):(Op.shift .shr k a G3 b).run P W= .ok (.int k (a.fdiv (2 ^ min b.toNat k.bits))) W:=by
 unfold Op.shift
 rw [if_neg (by omega)]
 rfl
section
variable {c:cY} {E:List (Nat × I)} {L:List aL}
variable {d:Option Tmp} {ty:TypeId} {pos:String} {af:Array Edge} {g:Option (Nat × Bool)} {x y:Operand} {t t2:TypeId}
theorem c8 {a b:Int} (aq:a7 c E L x (.of a)) (a9:a7 c E L y (.of b)):bY c E L ⟨d,.binOp .add t x y t2,ty,pos,af,g⟩ (.of (bw (a + b))):= .pure fun A W s=>
 ⟨.int .i64 (bw (a + b)),by simp [execOp,eqGuard,binOp,Op.intArith,of_int.1 (aq A W s),of_int.1 (a9 A W s),bw],of_int.2 rfl⟩
theorem lT {a b:Int} (aq:a7 c E L x (.of a)) (a9:a7 c E L y (.of b)):bY c E L ⟨d,.binOp .sub t x y t2,ty,pos,af,g⟩ (.of (bw (a - b))):= .pure fun A W s=>
 ⟨.int .i64 (bw (a - b)),by simp [execOp,eqGuard,binOp,Op.intArith,of_int.1 (aq A W s),of_int.1 (a9 A W s),bw],of_int.2 rfl⟩
theorem SC {a b:Int} (aq:a7 c E L x (.of a)) (a9:a7 c E L y (.of b)):bY c E L ⟨d,.binOp .mul t x y t2,ty,pos,af,g⟩ (.of (bw (a * b))):= .pure fun A W s=>
 ⟨.int .i64 (bw (a * b)),by simp [execOp,eqGuard,binOp,Op.intArith,of_int.1 (aq A W s),of_int.1 (a9 A W s),bw],of_int.2 rfl⟩
theorem EU {a b r:Int} (aq:a7 c E L x (.of a)) (a9:a7 c E L y (.of b)) (h:b≠0∧a.tmod b=r):bY c E L ⟨d,.binOp .rem t x y t2,ty,pos,af,g⟩ (.of r):= .pure fun A W s=>
 ⟨.int .i64 r,by obtain⟨aa,rfl⟩:=h; simp [execOp,eqGuard,binOp,Op.intDiv,of_int.1 (aq A W s),of_int.1 (a9 A W s),aa],of_int.2 rfl⟩
theorem dJ {a b:Int} (aq:a7 c E L x (.of a)) (a9:a7 c E L y (.of b)):bY c E L ⟨d,.binOp .lss t x y t2,ty,pos,af,g⟩ (.of (decide (a < b))):= .pure fun A W s=>
 ⟨.bool (decide (a < b)),by simp only [execOp,eqGuard,binOp,of_int.1 (aq A W s),of_int.1 (a9 A W s)]; rfl,of_bool.2 rfl⟩
theorem og {a b:Int} (aq:a7 c E L x (.of a)) (a9:a7 c E L y (.of b)):bY c E L ⟨d,.binOp .leq t x y t2,ty,pos,af,g⟩ (.of (decide (a≤b))):= .pure fun A W s=>
 ⟨.bool (decide (a≤b)),by simp only [execOp,eqGuard,binOp,of_int.1 (aq A W s),of_int.1 (a9 A W s)]; rfl,of_bool.2 rfl⟩
theorem ni {a b:Int} (aq:a7 c E L x (.of a)) (a9:a7 c E L y (.of b)):bY c E L ⟨d,.binOp .gtr t x y t2,ty,pos,af,g⟩ (.of (decide (a > b))):= .pure fun A W s=>
 ⟨.bool (decide (a > b)),by simp only [execOp,eqGuard,binOp,of_int.1 (aq A W s),of_int.1 (a9 A W s)]; rfl,of_bool.2 rfl⟩
theorem kX {a b:Int} (aq:a7 c E L x (.of a)) (a9:a7 c E L y (.of b)):bY c E L ⟨d,.binOp .geq t x y t2,ty,pos,af,g⟩ (.of (decide (a≥b))):= .pure fun A W s=>
 ⟨.bool (decide (a≥b)),by simp only [execOp,eqGuard,binOp,of_int.1 (aq A W s),of_int.1 (a9 A W s)]; rfl,of_bool.2 rfl⟩
theorem fz {a b:Int} (aq:a7 c E L x (.of a)) (a9:a7 c E L y (.of b)):bY c E L ⟨d,.binOp .eql t x y t2,ty,pos,af,g⟩ (.of (a ==b)):= .pure fun A W s=>
 ⟨.bool (a ==b),by simp only [execOp,eqGuard,binOp,of_int.1 (aq A W s),of_int.1 (a9 A W s)]; rfl,of_bool.2 rfl⟩
theorem pX {a b:Int} (aq:a7 c E L x (.of a)) (a9:a7 c E L y (.of b)):bY c E L ⟨d,.binOp .neq t x y t2,ty,pos,af,g⟩ (.of (a !=b)):= .pure fun A W s=>
 ⟨.bool (a !=b),by simp only [execOp,eqGuard,binOp,of_int.1 (aq A W s),of_int.1 (a9 A W s)]; rfl,of_bool.2 rfl⟩
theorem yx {a b:Bool} (hu:c.P.underlying t=some .bool) (aq:a7 c E L x (.of a)) (a9:a7 c E L y (.of b)):bY c E L ⟨d,.binOp .neq t x y t2,ty,pos,af,g⟩ (.of (a !=b)):= .pure fun A W s=>
 ⟨.bool (a !=b),by
   simp only [execOp,eqGuard,binOp,of_bool.1 (aq A W s),of_bool.1 (a9 A W s),Op.equal,Op.maxDepth]
   simp [run_equalIn_bool' W 9999 t a b hu,bne],of_bool.2 rfl⟩
theorem vl {a b:Int} {ats:Array TypeId} (aq:a7 c E L x (.of a)) (a9:a7 c E L y (.of b)):bY c E L ⟨d,.call ⟨.builtin .min,#[x,y],ats⟩,ty,pos,af,g⟩ (.of (min a b)):= .pure fun A W s=>
 ⟨.int .i64 (min a b),by
   simp [execOp,resolve,invoke,builtin,Builtin.min_,Builtin.min2,of_int.1 (aq A W s),of_int.1 (a9 A W s)]
   split <;> omega,of_int.2 rfl⟩
theorem Bz {a b:Int} {ats:Array TypeId} (aq:a7 c E L x (.of a)) (a9:a7 c E L y (.of b)):bY c E L ⟨d,.call ⟨.builtin .max,#[x,y],ats⟩,ty,pos,af,g⟩ (.of (max a b)):= .pure fun A W s=>
 ⟨.int .i64 (max a b),by
   simp [execOp,resolve,invoke,builtin,Builtin.max_,Builtin.max2,of_int.1 (aq A W s),of_int.1 (a9 A W s)]
   split <;> omega,of_int.2 rfl⟩
theorem Tw (a:BitVec 8):(a.toNat:Int) < 256:=by have:=a.isLt; omega
theorem KG {a:BitVec 8} {src dst:TypeId} {e:TypeDesc} (hs:c.P.underlying src=some e) (hd:c.P.underlying dst=some (.int .i64)) (aq:a7 c E L x (.of a)):bY c E L ⟨d,.convert src dst x,ty,pos,af,g⟩ (.of (a.toNat:Int)):= .pure fun A W s=>
 ⟨.int .i64 a.toNat,by
   have h:IntKind.i64.wrap (a.toNat:Int)=(a.toNat:Int):=hD (by omega) (by have:=Tw a; omega)
   simp only [execOp,convert,Sem.run_bind,run_underlying hs,run_underlying hd,BS.1 (aq A W s),Conv.intToInt,Result.andThen_ok,h]; rfl,of_int.2 rfl⟩
theorem vd (a:BitVec 64):(a.toNat:Int) < 18446744073709551616:=by have:=a.isLt; omega
theorem ofInt_u64 (a:BitVec 64):BitVec.ofInt 64 (a.toNat:Int)=a:=by simp
theorem Rd (a b:BitVec 64):IntKind.u64.wrap ((a.toNat:Int) + (b.toNat:Int))=((a + b).toNat:Int):=by rw [wrap_u64,BitVec.toNat_add]; omega
theorem Q7 {a b:BitVec 64} (aq:a7 c E L x (.of a)) (a9:a7 c E L y (.of b)):bY c E L ⟨d,.binOp .add t x y t2,ty,pos,af,g⟩ (.of (a + b)):= .pure fun A W s=>
 ⟨.int .u64 (a + b).toNat,by simp [execOp,eqGuard,binOp,Op.intArith,fF.1 (aq A W s),fF.1 (a9 A W s),Rd],fF.2 rfl⟩
theorem Re (a b:BitVec 64):IntKind.u64.wrap ((a.toNat:Int) - (b.toNat:Int))=((a - b).toNat:Int):=by rw [wrap_u64,BitVec.toNat_sub]; have:=vd a; have:=vd b; omega
theorem q4 {a b:BitVec 64} (aq:a7 c E L x (.of a)) (a9:a7 c E L y (.of b)):bY c E L ⟨d,.binOp .sub t x y t2,ty,pos,af,g⟩ (.of (a - b)):= .pure fun A W s=>
 ⟨.int .u64 (a - b).toNat,by simp [execOp,eqGuard,binOp,Op.intArith,fF.1 (aq A W s),fF.1 (a9 A W s),Re],fF.2 rfl⟩
theorem o1 {a b:BitVec 64} (aq:a7 c E L x (.of a)) (a9:a7 c E L y (.of b)):bY c E L ⟨d,.binOp .and t x y t2,ty,pos,af,g⟩ (.of (a &&& b)):= .pure fun A W s=>
 ⟨.int .u64 (a &&& b).toNat,by
   simp only [execOp,eqGuard,binOp,fF.1 (aq A W s),fF.1 (a9 A W s)]
   have h:IntKind.u64.wrap ((a &&& b).toNat:Int)=((a &&& b).toNat:Int):=by rw [wrap_u64]; have:=vd (a &&& b); omega
   rw [← h]
   conv=>rhs; rw [← ofInt_u64 a,← ofInt_u64 b]
   rfl,fF.2 rfl⟩
theorem pR {a b:BitVec 64} (aq:a7 c E L x (.of a)) (a9:a7 c E L y (.of b)):bY c E L ⟨d,.binOp .or t x y t2,ty,pos,af,g⟩ (.of (a ||| b)):= .pure fun A W s=>
 ⟨.int .u64 (a ||| b).toNat,by
   simp only [execOp,eqGuard,binOp,fF.1 (aq A W s),fF.1 (a9 A W s)]
   have h:IntKind.u64.wrap ((a ||| b).toNat:Int)=((a ||| b).toNat:Int):=by rw [wrap_u64]; have:=vd (a ||| b); omega
   rw [← h]
   conv=>rhs; rw [← ofInt_u64 a,← ofInt_u64 b]
   rfl,fF.2 rfl⟩
theorem JA {a b:BitVec 64} (aq:a7 c E L x (.of a)) (a9:a7 c E L y (.of b)):bY c E L ⟨d,.binOp .xor t x y t2,ty,pos,af,g⟩ (.of (a ^^^ b)):= .pure fun A W s=>
 ⟨.int .u64 (a ^^^ b).toNat,by
   simp only [execOp,eqGuard,binOp,fF.1 (aq A W s),fF.1 (a9 A W s)]
   have h:IntKind.u64.wrap ((a ^^^ b).toNat:Int)=((a ^^^ b).toNat:Int):=by rw [wrap_u64]; have:=vd (a ^^^ b); omega
   rw [← h]
   conv=>rhs; rw [← ofInt_u64 a,← ofInt_u64 b]
   rfl,fF.2 rfl⟩
theorem Iq {a b:BitVec 64} (aq:a7 c E L x (.of a)) (a9:a7 c E L y (.of b)):bY c E L ⟨d,.binOp .andNot t x y t2,ty,pos,af,g⟩ (.of (a &&& ~~~b)):= .pure fun A W s=>
 ⟨.int .u64 (a &&& ~~~b).toNat,by
   simp only [execOp,eqGuard,binOp,fF.1 (aq A W s),fF.1 (a9 A W s)]
   have h:IntKind.u64.wrap ((a &&& ~~~b).toNat:Int)=((a &&& ~~~b).toNat:Int):=by rw [wrap_u64]; have:=vd (a &&& ~~~b); omega
   rw [← h]
   conv=>rhs; rw [← ofInt_u64 a,← ofInt_u64 b]
   rfl,fF.2 rfl⟩
theorem Rf (a:BitVec 64) (n:Nat):IntKind.u64.wrap ((a.toNat:Int) * 2 ^ min n 64)=((a <<< n).toNat:Int):=by
 rw [wrap_u64,BitVec.toNat_shiftLeft,Nat.shiftLeft_eq]
 rcases Nat.lt_or_ge n 64 with h | h
 ·rw [Nat.min_eq_left (by omega)]; simp
 ·rw [Nat.min_eq_right h]
  have e:(a.toNat * 2 ^ n) % 2 ^ 64=0:=by
   rw [show n=64 + (n - 64) by omega,Nat.pow_add]
   exact Nat.mod_eq_zero_of_dvd ⟨a.toNat * 2 ^ (n - 64),by rw [← Nat.mul_assoc,Nat.mul_comm a.toNat,Nat.mul_assoc]⟩
  rw [e]
  have aX:(2:Int) ^ 64=18446744073709551616:=by decide
  rw [aX]; omega
theorem Rg (a:BitVec 64) (n:Nat):(a.toNat:Int).fdiv (2 ^ min n 64)=((a >>> n).toNat:Int):=by
 rw [BitVec.toNat_ushiftRight,Nat.shiftRight_eq_div_pow]
 have e:∀ m:Nat,(a.toNat:Int).fdiv (2 ^ m)=((a.toNat / 2 ^ m:Nat):Int):=by
  intro m
  rw [show((2:Int) ^ m)=((2 ^ m:Nat):Int) by simp]
  rw [Int.fdiv_eq_ediv_of_nonneg _ (Int.natCast_nonneg _)]
  exact(Int.natCast_ediv _ _).symm
 rw [e]
 rcases Nat.lt_or_ge n 64 with h | h
 ·rw [Nat.min_eq_left (by omega)]
 ·rw [Nat.min_eq_right h]
  have aa:a.toNat / 2 ^ 64=0:=Nat.div_eq_of_lt a.isLt
  have ae:a.toNat / 2 ^ n=0:=Nat.div_eq_of_lt (Nat.lt_of_lt_of_le a.isLt (Nat.pow_le_pow_right (by omega) h))
  rw [aa,ae]
theorem na {a:BitVec 64} {b:BitVec 64} (aq:a7 c E L x (.of a)) (a9:a7 c E L y (.of b)):bY c E L ⟨d,.binOp .shl t x y t2,ty,pos,af,g⟩ (.of (a <<< b.toNat)):= .pure fun A W s=>
 ⟨.int .u64 (a <<< b.toNat).toNat,by
   simp only [execOp,eqGuard,binOp,fF.1 (aq A W s),fF.1 (a9 A W s)]
   have h:=Rb c.P W .u64 .u64 a.toNat b.toNat (by omega)
   simp only [Int.toNat_natCast,IntKind.bits,Rf] at h
   exact congrArg (fun r:Result Value=>r.andThen fun v w=> .ok (Next.value v) w) h,fF.2 rfl⟩
theorem pM {a:BitVec 64} {b:BitVec 64} (aq:a7 c E L x (.of a)) (a9:a7 c E L y (.of b)):bY c E L ⟨d,.binOp .shr t x y t2,ty,pos,af,g⟩ (.of (a >>> b.toNat)):= .pure fun A W s=>
 ⟨.int .u64 (a >>> b.toNat).toNat,by
   simp only [execOp,eqGuard,binOp,fF.1 (aq A W s),fF.1 (a9 A W s)]
   have h:=Rc c.P W .u64 .u64 a.toNat b.toNat (by omega)
   simp only [Int.toNat_natCast,IntKind.bits,Rg] at h
   exact congrArg (fun r:Result Value=>r.andThen fun v w=> .ok (Next.value v) w) h,fF.2 rfl⟩
theorem JB {a b:BitVec 64} (aq:a7 c E L x (.of a)) (a9:a7 c E L y (.of b)):bY c E L ⟨d,.binOp .lss t x y t2,ty,pos,af,g⟩ (.of (decide (a < b))):= .pure fun A W s=>
 ⟨.bool (decide (a < b)),by
   simp only [execOp,eqGuard,binOp,fF.1 (aq A W s),fF.1 (a9 A W s)]
   have h:decide ((a.toNat:Int) < (b.toNat:Int))=decide (a < b):=by simp [BitVec.lt_def,BitVec.le_def]
   rw [← h]; rfl,of_bool.2 rfl⟩
theorem Ea {a b:BitVec 64} (aq:a7 c E L x (.of a)) (a9:a7 c E L y (.of b)):bY c E L ⟨d,.binOp .geq t x y t2,ty,pos,af,g⟩ (.of (decide (a≥b))):= .pure fun A W s=>
 ⟨.bool (decide (a≥b)),by
   simp only [execOp,eqGuard,binOp,fF.1 (aq A W s),fF.1 (a9 A W s)]
   have h:decide ((a.toNat:Int)≥ (b.toNat:Int))=decide (a≥b):=by simp [BitVec.lt_def,BitVec.le_def]
   rw [← h]; rfl,of_bool.2 rfl⟩
theorem uY {a b:BitVec 64} (aq:a7 c E L x (.of a)) (a9:a7 c E L y (.of b)):bY c E L ⟨d,.binOp .eql t x y t2,ty,pos,af,g⟩ (.of (a ==b)):= .pure fun A W s=>
 ⟨.bool (a ==b),by
   simp only [execOp,eqGuard,binOp,fF.1 (aq A W s),fF.1 (a9 A W s)]
   have h:((a.toNat:Int) ==(b.toNat:Int))=(a ==b):=by
    rw [Bool.eq_iff_iff]; simp [bne]; exact⟨fun h=>BitVec.eq_of_toNat_eq (by omega),fun h=>by rw [h]⟩
   rw [← h]; rfl,of_bool.2 rfl⟩
theorem JC {a b:BitVec 64} (aq:a7 c E L x (.of a)) (a9:a7 c E L y (.of b)):bY c E L ⟨d,.binOp .neq t x y t2,ty,pos,af,g⟩ (.of (a !=b)):= .pure fun A W s=>
 ⟨.bool (a !=b),by
   simp only [execOp,eqGuard,binOp,fF.1 (aq A W s),fF.1 (a9 A W s)]
   have h:((a.toNat:Int) !=(b.toNat:Int))=(a !=b):=by
    rw [Bool.eq_iff_iff]; simp [bne]; exact⟨fun h=>fun e=>h (by rw [e]),fun h=>by intro e; exact h (BitVec.eq_of_toNat_eq (by omega))⟩
   rw [← h]; rfl,of_bool.2 rfl⟩
theorem h1 {a:Int} {src dst:TypeId} {e:TypeDesc} (hs:c.P.underlying src=some e) (hd:c.P.underlying dst=some (.int .u64)) (aq:a7 c E L x (.of a)):bY c E L ⟨d,.convert src dst x,ty,pos,af,g⟩ (.of (BitVec.ofInt 64 a)):= .pure fun A W s=>
 ⟨.int .u64 (BitVec.ofInt 64 a).toNat,by
   have h:IntKind.u64.wrap a=((BitVec.ofInt 64 a).toNat:Int):=by rw [wrap_u64,BitVec.toNat_ofInt]; omega
   simp [execOp,convert,run_underlying hs,run_underlying hd,of_int.1 (aq A W s),Conv.intToInt,h],fF.2 rfl⟩
theorem QX {a:BitVec 64} {src dst:TypeId} {e:TypeDesc} (hs:c.P.underlying src=some e) (hd:c.P.underlying dst=some (.int .u8)) (aq:a7 c E L x (.of a)):bY c E L ⟨d,.convert src dst x,ty,pos,af,g⟩ (.of (a.setWidth 8)):= .pure fun A W s=>
 ⟨.int .u8 (a.setWidth 8).toNat,by
   have h:IntKind.u8.wrap (a.toNat:Int)=((a.setWidth 8).toNat:Int):=by rw [wrap_u8,BitVec.toNat_setWidth]; have:=a.isLt; omega
   simp only [execOp,convert,Sem.run_bind,run_underlying hs,run_underlying hd,fF.1 (aq A W s),Conv.intToInt,Result.andThen_ok,h]; rfl,BS.2 rfl⟩
theorem RH {a:BitVec 64} {src dst:TypeId} {e:TypeDesc} (hs:c.P.underlying src=some e) (hd:c.P.underlying dst=some (.int .i64)) (aq:a7 c E L x (.of a)):bY c E L ⟨d,.convert src dst x,ty,pos,af,g⟩ (.of (bw a.toNat)):= .pure fun A W s=>
 ⟨.int .i64 (bw a.toNat),by
   simp only [execOp,convert,Sem.run_bind,run_underlying hs,run_underlying hd,fF.1 (aq A W s),Conv.intToInt,Result.andThen_ok]; rfl,of_int.2 rfl⟩
end
end Gv
namespace Gv
open Go
set_option linter.unusedVariables false
set_option linter.unusedSimpArgs false
def sI (tmps:Array Value):ResultVar→Sem Value
 | .tmp t=>pure (tmps.getD t undef)
 | .cell a t=>do loadVar t (← asAddr (tmps.getD a undef))
theorem so (fn:Func) (tmps:Array Value):results fn tmps=(do
 let vs ← fn.results.mapM (sI tmps)
 pure (if h:vs.size=1 then vs[0] else .tuple vs)):=by
 unfold results
 congr 1
section
variable {c:cY} {E:List (Nat × I)} {L:List aL} {ops:Array Oper} {Q:Exit→Act→World→Prop}
def qH (c:cY) (E:List (Nat × I)) (L:List aL) (r:ResultVar) (τ:I):Prop:=
 ∀ a W,bC c E L a W→ ∃ v,(sI a.tmps r).run c.P W= .ok v W∧τ.holds c.bP W v
theorem ry {t:Nat} {τ:I} (h:look E t=some τ):qH c E L (.tmp t) τ:=fun a W s=>by
 obtain⟨v,aa,ae⟩:=s.env t τ h
 exact⟨v,by simp [sI,aa],Ir ae⟩
theorem UY {t:Nat} {ty:TypeId} {i p:Nat} {α:Type} [ah α] {x:α} (dR:bq c.P ty α) (h:look E t=some (.eq (.pointer (some ⟨p,0,none⟩)))) (ao:L[i]? =some ⟨some p,.var x⟩):qH c E L (.cell t ty) (.of x):=fun a W s=>by
 obtain⟨v,aa,ae⟩:=s.env t _ h
 subst ae
 obtain⟨ja,dZ,cs,T,rfl,fw⟩:=s.own _ (List.mem_of_getElem? ao)
 have an:cs.toList.length=ah.size α:=ah.len fw
 have eK:cs.size=ah.size α:=by simpa using an
 obtain⟨v,aD,aZ⟩:=se (A:=aN L ++ c.bP) (off:=0) dR dZ (by omega) (by rw [List.drop_zero,← an,List.take_length]; exact fw)
 exact⟨v,by simp [sI,aa,asAddr,aD],Ir aZ⟩
def td (c:cY) (ρ:I):Ending→World→Prop:=fun e W'=> ∃ v,e= .returned v∧Fr c.X c.hY W'∧ρ.holds c.bP W' v
theorem ab.iT {fn:Func} {r:ResultVar} {τ:I} (aU:fn.results= #[r]) (h:qH c E L r τ) (ht:c.ds= []:=by rfl):ab c (bodyPost c.P fn (td c τ)) .ret E L:=fun a W s=>by
 obtain⟨v,aa,ae⟩:=h a W s
 exact⟨s.su ht,v,by simp [so,aU,aa],v,rfl,s.dm,ae⟩
theorem ab.y0 {fn:Func} {r ia:ResultVar} {τ mV:I} (aU:fn.results= #[r,ia]) (h:qH c E L r τ) (ae:qH c E L ia mV) (ht:c.ds= []:=by rfl):ab c (bodyPost c.P fn (td c (.cG [τ,mV]))) .ret E L:=fun a W s=>by
 obtain⟨v,aD,aZ⟩:=h a W s
 obtain⟨v2,a6,bl⟩:=ae a W s
 exact⟨s.su ht,.tuple #[v,v2],by simp [so,aU,aD,a6],_,rfl,s.dm,_,rfl,.cons aZ (.cons bl .nil)⟩
theorem ab.LI {fn:Func} {r ia pC:ResultVar} {τ mV zC:I} (aU:fn.results= #[r,ia,pC]) (h:qH c E L r τ) (ae:qH c E L ia mV) (aD:qH c E L pC zC) (ht:c.ds= []:=by rfl):ab c (bodyPost c.P fn (td c (.cG [τ,mV,zC]))) .ret E L:=fun a W s=>by
 obtain⟨v,aZ,a6⟩:=h a W s
 obtain⟨v2,bl,cZ⟩:=ae a W s
 obtain⟨wk,eN,gl⟩:=aD a W s
 exact⟨s.su ht,.tuple #[v,v2,wk],by simp [so,aU,aZ,bl,eN],_,rfl,s.dm,_,rfl,.cons a6 (.cons cZ (.cons gl .nil))⟩
theorem bE.of {P:Program} {f:FuncId} {fn:Func} {code:Code} {n:Nat} {τs:List I} {ρ:I} (ba:P.funcs[f]? =some fn) (hb:fn.body=some code) (aP:fn.ntmps=n) (hlen:Nat.ble τs.length n=true)
 (h:∀ W A,ag ⟨P,n,W,[],A,none,[]⟩ (bodyPost P fn (td ⟨P,n,W,[],A,none,[]⟩ ρ)) code (params 0 τs) []):bE P f τs ρ:=bE.enter ba hb aP hlen h
end
structure k9 (P:Program) (t:TypeId) (α:Type) [ah α] [DecidableEq α] (k:Nat):Prop where
 run:∀ d,k≤d→ ∀ A W u v (x y:α),(I.of x).holds A W u→ (I.of y).holds A W v→ (Op.equalIn d t u v).run P W= .ok (decide (x=y)) W
theorem JK {P t K} (h:P.underlying t=some (.int K)):k9 P t Int 1 where
 run d hd A W u v x y aq a9:=by
  obtain⟨d,rfl⟩:∃ e,d=e + 1:=⟨d - 1,by omega⟩
  rw [of_int.1 aq,of_int.1 a9,run_equalIn_int W d t .i64 K x y h]
  congr 1
theorem Rh {P t K} (h:P.underlying t=some (.int K)):k9 P t (BitVec 64) 1 where
 run d hd A W u v x y aq a9:=by
  obtain⟨d,rfl⟩:∃ e,d=e + 1:=⟨d - 1,by omega⟩
  rw [fF.1 aq,fF.1 a9,run_equalIn_int W d t .u64 K _ _ h]
  congr 1
  rw [Bool.eq_iff_iff]; simp only [beq_iff_eq,decide_eq_true_eq]
  exact⟨fun h=>BitVec.eq_of_toNat_eq (by omega),fun h=>by rw [h]⟩
theorem Qz {P t} (h:P.underlying t=some .bool):k9 P t Bool 1 where
 run d hd A W u v x y aq a9:=by
  obtain⟨d,rfl⟩:∃ e,d=e + 1:=⟨d - 1,by omega⟩
  rw [of_bool.1 aq,of_bool.1 a9,run_equalIn_bool' W d t x y h]
  congr 1
theorem HZ {P:Program} {W:World} (f:Nat→Sem Bool) (p:Nat→Bool):∀ (l:List Nat),(∀ i∈l,(f i).run P W= .ok (p i) W)→
 (forIn (m:=Sem) l ((none,()):Option Bool × Unit) (fun i _=>do
  let __do_lift ← f i
  if (!__do_lift)=true then pure (ForInStep.done (some false,())) else
   pure (ForInStep.yield (none,())))).run P W= .ok (if l.all p then(none,()) else(some false,())) W
 | [],_=>by simp
 | i :: r,h=>by
   have aa:=h i (by simp)
   have ae:=HZ (P:=P) (W:=W) f p r (fun j aG=>h j (by simp [aG]))
   cases hp:p i with
   | false=>simp [List.forIn_cons,aa,hp]
   | true=>
     rw [List.forIn_cons]
     simp only [Sem.run_bind,aa,hp,Result.andThen_ok,Bool.not_true,Bool.false_eq_true,if_false,Sem.run_pure]
     rw [ae]
     simp [hp]
theorem JL {P t e n k} {α:Type} [ah α] [Inhabited α] [DecidableEq α] (h:P.underlying t=some (.array n e)) (fh:bq P e α) (he:k9 P e α k):k9 P t (Vector α n) (k + 1) where
 run d hd A W u v x y aq a9:=by
  obtain⟨d,rfl⟩:∃ e,d=e + 1:=⟨d - 1,by omega⟩
  obtain⟨aa,ae⟩:=aq
  obtain⟨aD,aZ⟩:=a9
  obtain⟨xs,rfl⟩:∃ cs,u= .agg cs:=by simpa [shaped,ah.agg] using aa
  obtain⟨ys,rfl⟩:∃ cs,v= .agg cs:=by simpa [shaped,ah.agg] using aD
  simp only [Value.cells] at ae aZ
  have tA:xs.toList.length=n * ah.size α:=ah.len ae
  have F8:ys.toList.length=n * ah.size α:=ah.len aZ
  have yP:∀ i∈List.range' 0 n,((do
   let a ← part e xs (i * ah.size α)
   let b ← part e ys (i * ah.size α)
   Op.equalIn d e a b):Sem Bool).run P W= .ok (decide (bJ x i=bJ y i)) W:=by
   intro i au
   have jl:i < n:=by simpa using au
   have fc:i * ah.size α + ah.size α≤n * ah.size α:=(aK.idx (α:=α) n i jl).fR
   obtain⟨a,bn,tB⟩:=q1 (A:=A) (P:=P) (W:=W) (cs:=xs) (off:=i * ah.size α) fh (by simp at tA; omega) ((aK.idx (α:=α) n i jl).hR ae)
   obtain⟨b,hb,F9⟩:=q1 (A:=A) (P:=P) (W:=W) (cs:=ys) (off:=i * ah.size α) fh (by simp at F8; omega) ((aK.idx (α:=α) n i jl).hR aZ)
   simp only [Sem.run_bind,bn,hb,Result.andThen_ok]
   exact he.run d (by omega) A W a b _ _ tB F9
  have ba:=HZ (P:=P) (W:=W) _ _ _ yP
  have k1:(List.range' 0 n).all (fun i=>decide (bJ x i=bJ y i))=decide (x=y):=by
   rw [Bool.eq_iff_iff,List.all_eq_true,decide_eq_true_eq]
   constructor
   ·intro h
    apply Vector.ext
    intro i au
    have:=h i (by simpa using au)
    simpa [bJ,au] using this
   ·rintro rfl i _
    simp
  rw [k1] at ba
  simp only [Op.equalIn,Sem.run_bind,run_underlying h,Result.andThen_ok,fh.sizeOf,Std.Legacy.Range.forIn_eq_forIn_range']
  simp only [Std.Legacy.Range.size,Nat.sub_zero,Nat.add_one_sub_one,Nat.div_one] at ba ⊢
  simp only [bind_assoc] at ba
  rw [ba]
  by_cases Ms:x=y
  ·simp [Ms]
  ·simp [Ms]
end Gv
namespace Gv
open Go
set_option linter.unusedVariables false
set_option linter.unusedSimpArgs false
section
variable {c:cY} {E:List (Nat × I)} {L:List aL} {ops:Array Oper} {Q:Exit→Act→World→Prop}
variable {d:Option Tmp} {ty:TypeId} {pos:String} {af:Array Edge} {g:Option (Nat × Bool)} {x y:Operand} {t t2:TypeId}
theorem sN {α:Type} [ah α] [DecidableEq α] {k:Nat} {a b:α} (tT:k9 c.P t α k) (ax:Nat.ble k 10000=true) (bx:c.P.eqGuardType c.P.depth t=false) (bn:ah.agg α=true) (aq:a7 c E L x (.of a)) (a9:a7 c E L y (.of b)):
 bY c E L ⟨d,.binOp .eql t x y t2,ty,pos,af,g⟩ (.of (decide (a=b))):= .pure fun A W s=>by
 have aa:=aq A W s
 have ae:=a9 A W s
 obtain⟨xs,h8⟩:∃ cs,A.eval x= .agg cs:=by simpa [shaped,bn] using aa.1
 obtain⟨ys,zD⟩:∃ cs,A.eval y= .agg cs:=by simpa [shaped,bn] using ae.1
 have aD:=tT.run 10000 (Nat.le_of_ble_eq_true ax) _ W _ _ a b aa ae
 rw [h8,zD] at aD
 refine⟨.bool (decide (a=b)),?_,of_bool.2 rfl⟩
 simp only [execOp,h8,zD,Sem.run_bind,run_eqGuard_agg W .eql t x y xs ys bx,Result.andThen_ok,run_eql_struct,aD,Sem.run_pure]
theorem BA {α:Type} [ah α] [DecidableEq α] {k:Nat} {a b:α} (tT:k9 c.P t α k) (ax:Nat.ble k 10000=true) (bx:c.P.eqGuardType c.P.depth t=false) (bn:ah.agg α=true) (aq:a7 c E L x (.of a)) (a9:a7 c E L y (.of b)):
 bY c E L ⟨d,.binOp .neq t x y t2,ty,pos,af,g⟩ (.of (!decide (a=b))):= .pure fun A W s=>by
 have aa:=aq A W s
 have ae:=a9 A W s
 obtain⟨xs,h8⟩:∃ cs,A.eval x= .agg cs:=by simpa [shaped,bn] using aa.1
 obtain⟨ys,zD⟩:∃ cs,A.eval y= .agg cs:=by simpa [shaped,bn] using ae.1
 have aD:=tT.run 10000 (Nat.le_of_ble_eq_true ax) _ W _ _ a b aa ae
 rw [h8,zD] at aD
 refine⟨.bool (!decide (a=b)),?_,of_bool.2 rfl⟩
 simp only [execOp,h8,zD,Sem.run_bind,run_eqGuard_agg W .neq t x y xs ys bx,Result.andThen_ok,run_neq_struct,aD,Sem.run_pure]
end
theorem JM {P:Program} {W:World} {d:Nat} {xs ys:Array Value} :(Op.eqFields d xs ys []).run P W= .ok true W:=rfl
theorem sw {P:Program} {A:List Nat} {W:World} {d:Nat} {xs ys:Array Value} {β γ:Type} [ah β] [ah γ] [DecidableEq γ] (l:aK β γ) {G4 G5:β} {fd:Field} {fB:List Field} {k:Nat} {r:Bool} (fh:bq P fd.type γ) (bh:fd.offset=l.off) (aP:(fd.name == "_")=false)
 (tT:k9 P fd.type γ k) (hd:k≤d) (aq:ah.rep A W xs.toList G4) (a9:ah.rep A W ys.toList G5) (aU:(Op.eqFields d xs ys fB).run P W= .ok r W):
 (Op.eqFields d xs ys (fd :: fB)).run P W= .ok (decide (l.get G4=l.get G5) && r) W:=by
 have tA:xs.toList.length=ah.size β:=ah.len aq
 have F8:ys.toList.length=ah.size β:=ah.len a9
 have fc:=l.fR
 obtain⟨a,bn,tB⟩:=q1 (A:=A) (P:=P) (W:=W) (cs:=xs) (off:=l.off) fh (by simp at tA; omega) (l.hR aq)
 obtain⟨b,hb,F9⟩:=q1 (A:=A) (P:=P) (W:=W) (cs:=ys) (off:=l.off) fh (by simp at F8; omega) (l.hR a9)
 have qt:fd.name≠ "_" :=fun e=>by rw [e] at aP; simp at aP
 simp only [Op.eqFields,if_pos qt,Sem.run_bind,bh,bn,hb,Result.andThen_ok,tT.run d hd A W a b _ _ tB F9]
 by_cases h:l.get G4=l.get G5
 ·simp [h,aU]
 ·simp [h]
theorem It {P:Program} {t:TypeId} {β:Type} [ah β] [DecidableEq β] {k:Nat} {fB:Array Field} (bn:ah.agg β=true) (hu:P.underlying t=some (.struct fB)) (hp:P.stoodInHeld t=false)
 (h:∀ d,k≤d→ ∀ A W (xs ys:Array Value) (x y:β),ah.rep A W xs.toList x→ah.rep A W ys.toList y→ (Op.eqFields d xs ys fB.toList).run P W= .ok (decide (x=y)) W):k9 P t β (k + 1) where
 run d hd A W u v x y aq a9:=by
  obtain⟨d,rfl⟩:∃ e,d=e + 1:=⟨d - 1,by omega⟩
  obtain⟨xs,rfl⟩:∃ cs,u= .agg cs:=by simpa [shaped,bn] using aq.1
  obtain⟨ys,rfl⟩:∃ cs,v= .agg cs:=by simpa [shaped,bn] using a9.1
  have ba:P.fieldsOf t=fB:=by simp [Program.fieldsOf,hu]
  rw [run_equalIn_struct W d t xs ys (by rw [ba]; exact hu) hp,ba]
  exact h d (by omega) A W xs ys x y (by simpa [Value.cells] using aq.2) (by simpa [Value.cells] using a9.2)
theorem HS {P:Program} {W:World} (fB:Array Field) (h:fB.all (fun f=>(P.info? f.type).isSome)=true):
 (fB.mapM (m:=Sem) fun f=>do pure (f.offset,← Go.sizeOf f.type)).run P W= .ok (fB.map fun f=>(f.offset,P.cellsOf f.type)) W:=by
 obtain⟨l⟩:=fB
 have key:∀ (l:List Field),l.all (fun f=>(P.info? f.type).isSome)=true→ (l.mapM (m:=Sem) fun f=>do pure (f.offset,← Go.sizeOf f.type)).run P W= .ok (l.map fun f=>(f.offset,P.cellsOf f.type)) W:=by
  intro l
  induction l with
  | nil=>intro _; rfl
  | cons f r b0=>
    intro h
    simp only [List.all_cons,Bool.and_eq_true] at h
    obtain⟨i,au⟩:=Option.isSome_iff_exists.1 h.1
    rw [List.mapM_cons]
    simp only [Sem.run_bind,Go.sizeOf,typeInfo,run_program,Result.andThen_ok,au,Sem.run_pure]
    have:=b0 h.2
    simp only [Sem.run_bind,Go.sizeOf,typeInfo] at this
    rw [this]
    simp [Program.cellsOf,au]
 have cX:l.all (fun f=>(P.info? f.type).isSome)=true:=by simpa using h
 rw [List.mapM_toArray]
 simp only [Sem.run_map,key l cX,Result.andThen_ok]
 simp
theorem Pd (ds:List Value) (off:Nat):∀ (j:Nat) (cs:Array Value),off + j + ds.length≤cs.size→
 (ds.zipIdx j).foldl (fun cs (c,j)=>cs.setIfInBounds (off + j) c) cs=(cs.toList.take (off + j) ++ ds ++ cs.toList.drop (off + j + ds.length)).toArray:=by
 induction ds with
 | nil=>intro j cs _; simp
 | cons v r b0=>
   intro j cs h
   simp only [List.length_cons] at h
   rw [List.zipIdx_cons,List.foldl_cons,b0 (j + 1) _ (by simp; omega)]
   simp only [Array.toList_setIfInBounds]
   have:=list_seg_step cs.toList (off + j) v r (by simp; omega)
   rw [show off + (j + 1)=off + j + 1 by omega]
   simp only [List.length_cons]
   rw [this]
theorem Bf {place:Nat→Option (Nat × Nat)} {cs:Array Value} {i off G6:Nat} {v:Value} {rest:List (Nat × Value)} (hp:place i=some (off,G6)) (a2:v.cells.size=G6) (hle:off + G6≤cs.size):
 Instr.fill place cs ((i,v) :: rest)=Instr.fill place (fy cs.toList off v.cells.toList).toArray rest:=by
 simp only [Instr.fill,hp]
 rw [if_neg (by simp [a2]; omega)]
 have:=Pd v.cells.toList off 0 cs (by simp [a2]; omega)
 simp only [Nat.add_zero] at this
 congr 1
 rw [← Array.foldl_toList]
 have eS:(v.cells.zipIdx).toList=v.cells.toList.zipIdx:=by simp
 rw [eS,this]
 simp [fy]
section
variable {c:cY} {E:List (Nat × I)} {L:List aL} {ops:Array Oper} {Q:Exit→Act→World→Prop}
variable {d:Option Tmp} {ty:TypeId} {pos:String} {af:Array Edge} {g:Option (Nat × Bool)} {x y:Operand} {t t2:TypeId}
inductive p5 (c:cY) (E:List (Nat × I)) (L:List aL) (place:Nat→Option (Nat × Nat)) {β:Type} [ah β]:β→List (Nat × Operand)→β→Prop
 | nil {b} :p5 c E L place b [] b
 | cons {b ei b':β} {γ:Type} [ah γ] {v:γ} {i:Nat} {x:Operand} {r:List (Nat × Operand)} (l:aK β γ):place i=some (l.off,ah.size γ)→a7 c E L x (.of v)→l.set b v=ei→p5 c E L place ei r b'→p5 c E L place b ((i,x) :: r) b'
theorem p5.run {place:Nat→Option (Nat × Nat)} {β:Type} [ah β] {b b':β} {bf:List (Nat × Operand)} (h:p5 c E L place b bf b'):∀ a W,bC c E L a W→ ∀ cs:Array Value,ah.rep (aN L ++ c.bP) W cs.toList b→
 ∃ dA,Instr.fill place cs (bf.map fun(i,x)=>(i,a.eval x))=some dA∧ah.rep (aN L ++ c.bP) W dA.toList b':=by
 induction h with
 | nil=>intro a W s cs aU; exact⟨cs,rfl,aU⟩
 | @cons b ei b' γ _ v i x r l aa ae aD _ b0=>
   intro a W s cs aU
   subst aD
   have a2:=ae a W s
   have eK:(a.eval x).cells.size=ah.size γ:=by have:=ah.len a2.2; simpa using this
   have an:cs.toList.length=ah.size β:=ah.len aU
   have fc:=l.fR
   rw [List.map_cons,Bf aa eK (by simp at an; omega)]
   refine b0 a W s _ ?_
   have:=l.kf aU a2.2
   simpa [fy,ah.len a2.2] using this
structure hg (P:Program) (t:TypeId) (pl:Array (Nat × Nat)):Prop where
 at_:∃ fB,P.underlying t=some (.struct fB)∧fB.all (fun f=>(P.info? f.type).isSome)=true∧ (fB.map fun f=>(f.offset,P.cellsOf f.type))=pl
theorem cT {β:Type} [ah β] {z b:β} {bf:List (Nat × Operand)} {pl:Array (Nat × Nat)} (bn:ah.agg β=true) (z9:hg c.P t pl) (gr:cE c.P t z)
 (ba:p5 c E L (pl[·]?) z bf b):bY c E L ⟨d,.build t bf.toArray,ty,pos,af,g⟩ (.of b):= .pure fun a W s=>by
 obtain⟨fB,hu,hs,rfl⟩:=z9.at_
 obtain⟨i,dM,aa,ae,aD⟩:=gr.zero
 obtain⟨dA,aZ,a6⟩:=ba.run a W s dM.cells (aD _ _).2
 refine⟨.agg dA,?_,by simp [shaped,bn],by simpa [Value.cells] using a6⟩
 have hm:(bf.toArray.map fun(x:Nat × Operand)=>(x.1,a.eval x.2)).toList=bf.map fun(i,x)=>(i,a.eval x):=by simp
 simp only [execOp,Instr.build,Sem.run_bind,zeroValue,typeInfo,run_program,Result.andThen_ok,aa,ae,Sem.run_pure,run_underlying hu,HS fB hs]
 rw [hm,aZ]
 rfl
end
def mY {α:Type} [ah α] (A:List Nat) (W:World) (v:Value) (xs:List α):Prop:=
 (v= .slice none 0 0∧xs= [])∨
 ∃ b off cap cur T gq,v= .slice (some ⟨b,off,none⟩) xs.length cap∧b ∉ A∧W.heap[b]? =some (.cells cur T gq)∧xs.length≤cap∧xs.length≤maxLen∧off + xs.length * ah.size α≤cur.size∧
   fW A W ((cur.toList.drop off).take (xs.length * ah.size α)) xs
theorem mY.mono {α:Type} [ah α] {A W cQ W' v} {xs:List α} (e:Ext A W cQ W') (h:mY A W v xs):mY cQ W' v xs:=by
 rcases h with h | ⟨b,off,cap,cur,T,gq,aa,ae,aD,aZ,a6,bl,cZ⟩
 ·exact .inl h
 ·have cl:b < W.heap.size:=(Array.getElem?_eq_some_iff.1 aD).1
  exact .inr ⟨b,off,cap,cur,T,gq,aa,fun hm=>ae (e.new b hm cl),by rw [e.block b cl ae]; exact aD,aZ,a6,bl,cZ.mono e⟩
instance WU {α:Type} [ah α]:ah (List α) where
 size:=1
 agg:=false
 rep A W cs xs:= ∃ v,cs= [v]∧mY A W v xs
 len h:=by obtain⟨v,rfl,_⟩:=h; rfl
 one h:=by
  obtain⟨v,rfl,h⟩:=h
  intro u hu
  rw [List.mem_singleton.1 hu]
  rcases h with⟨rfl,_⟩ | ⟨b,off,cap,cur,T,gq,rfl,_⟩ <;> rfl
 flat _:=rfl
 mono e h:=let⟨v,aa,ae⟩:=h; ⟨v,aa,ae.mono e⟩
theorem mY.one {α:Type} [ah α] {A W v} {xs:List α} (h:mY A W v xs):v.oneCell'=true:=by
 rcases h with⟨rfl,_⟩ | ⟨b,off,cap,cur,T,gq,rfl,_⟩ <;> rfl
theorem lQ {α:Type} [ah α] {A W v} {xs:List α} :(I.of xs).holds A W v↔mY A W v xs:=by
 constructor
 ·rintro ⟨aa,u,ae,aD⟩
  have:v=u:=m6 aa ae
  rw [this]; exact aD
 ·intro h
  exact⟨h.one,v,by rw [m7 h.one],h⟩
def aF {α:Type} [Inhabited α] (xs:List α) (k:Nat):α:=xs[k]?.getD default
theorem fx {α:Type} [Inhabited α] (xs:List α) {k:Nat} (h:k < xs.length):aF xs k=xs[k]:=by simp [aF,h]
def pW {α:Type} (xs:List α) (lo au:Int):Option (List α):=if 0≤lo∧lo≤au∧au≤xs.length then some ((xs.drop lo.toNat).take (au.toNat - lo.toNat)) else none
theorem Pe {α:Type} {xs r:List α} {lo au:Int} (h:pW xs lo au=some r):∃ a b:Nat,lo=a∧au=b∧a≤b∧b≤xs.length∧r=(xs.drop a).take (b - a):=by
 unfold pW at h
 split at h
 ·rename_i ar
  simp only [Option.some.injEq] at h
  exact⟨lo.toNat,au.toNat,by omega,by omega,by omega,by omega,h.symm⟩
 ·cases h
def gB {α:Type} (bytes:Nat) (xs ys:List α):Option (List α):=if (xs.length + ys.length) * bytes≤140737488355328∧xs.length + ys.length≤maxLen then some (xs ++ ys) else none
theorem IN {α:Type} {bytes:Nat} {xs ys r:List α} (h:gB bytes xs ys=some r):(xs.length + ys.length) * bytes≤140737488355328∧xs.length + ys.length≤maxLen∧r=xs ++ ys:=by
 unfold gB at h
 split at h
 ·rename_i ar; simp only [Option.some.injEq] at h; exact⟨ar.1,ar.2,h.symm⟩
 ·cases h
section
variable {c:cY} {E:List (Nat × I)} {L:List aL} {ops:Array Oper} {Q:Exit→Act→World→Prop}
variable {d:Option Tmp} {ty:TypeId} {pos:String} {af:Array Edge} {g:Option (Nat × Bool)} {x y:Operand} {t t2:TypeId}
theorem look_nil {α:Type} [ah α]:a7 c E L (.const (.slice none 0 0)) (.of ([]:List α)):=fun _ _ _=>lQ.2 (.inl ⟨rfl,rfl⟩)
theorem mY.len {α:Type} [ah α] {A W v} {xs:List α} (h:mY A W v xs):∃ a cap,v= .slice a xs.length cap:=by
 rcases h with⟨rfl,rfl⟩ | ⟨b,off,cap,cur,T,gq,rfl,_⟩
 ·exact⟨none,0,rfl⟩
 ·exact⟨_,_,rfl⟩
theorem ej {α:Type} [ah α] {xs:List α} {e:TypeId} (hu:c.P.underlying t=some (.slice e)) (aq:a7 c E L x (.of xs)):bY c E L ⟨d,.call ⟨.builtin .len,#[x],#[t]⟩,ty,pos,af,g⟩ (.of (xs.length:Int)):= .pure fun a W s=>by
 obtain⟨b,cap,aa⟩:=(lQ.1 (aq a W s)).len
 exact⟨.int .i64 xs.length,by simp [execOp,resolve,invoke,builtin,Builtin.len_,aa,run_underlying hu,goInt],of_int.2 rfl⟩
theorem o7 {α:Type} [ah α] [Inhabited α] {xs:List α} {e:TypeId} {i:Int} {k:Nat} (hu:c.P.underlying t=some (.slice e)) (fh:bq c.P e α) (aq:a7 c E L x (.of xs)) (a9:a7 c E L y (.of i)) (ax:k < xs.length∧i=k):
 bY c E L ⟨d,.indexAddr t x y,ty,pos,af,g⟩ (.ptr (aF xs k)):= .pure fun a W s=>by
 obtain⟨bl,rfl⟩:=ax
 have a6:=of_int.1 (a9 a W s)
 rcases lQ.1 (aq a W s) with⟨_,rfl⟩ | ⟨b,off,cap,cur,T,gq,aa,ae,aD,aZ,cZ,eN,gl⟩
 ·simp at bl
 ·obtain⟨gP,eo,eK⟩:=fh.info
  have hle:(k + 1) * ah.size α≤xs.length * ah.size α:=Nat.mul_le_mul_right _ bl
  rw [Nat.succ_mul] at hle
  refine⟨.pointer (some ⟨b,off + k * ah.size α,none⟩),?_,b,off + k * ah.size α,cur,T,gq,rfl,ae,aD,by omega,?_⟩
  ·simp [execOp,Instr.indexAt,asIntOf,run_underlying hu,aa,a6,bl,Go.sizeOf,typeInfo,eo,eK,iN]
  ·have:=gl.2 k bl
   rw [si _ _ _ _ _ hle] at this
   rw [fx xs bl]
   exact this
theorem oX {P:Program} {W:World} {v:Value} {k:IntKind} {n m:Nat} {code:BoundsCode} (h:n≤m) (a2:v= .int k n):(Instr.sliceBound v m code).run P W= .ok n W:=by
 subst a2
 have bT:(n:Int)≤ (m:Int):=by omega
 simp [Instr.sliceBound,asIntOf,h]
theorem Ri {α:Type} [ah α] {A W} {xs:List α} {b off cap:Nat} {cur:Array Value} {T:TypeId} {gq:Nat × Nat} {lo au:Nat} (ae:b ∉ A) (aD:W.heap[b]? =some (.cells cur T gq)) (aZ:xs.length≤cap) (cZ:xs.length≤maxLen)
 (eN:off + xs.length * ah.size α≤cur.size) (gl:fW A W ((cur.toList.drop off).take (xs.length * ah.size α)) xs) (h:lo≤au) (cX:au≤xs.length):
 mY A W (.slice (some (if cap=lo then⟨b,off,none⟩ else⟨b,off + lo * ah.size α,none⟩)) (au - lo) (cap - lo)) ((xs.drop lo).take (au - lo)):=by
 have an:((xs.drop lo).take (au - lo)).length=au - lo:=by simp; omega
 have hm:au * ah.size α≤xs.length * ah.size α:=Nat.mul_le_mul_right _ cX
 have oC:lo * ah.size α≤au * ah.size α:=Nat.mul_le_mul_right _ h
 have hd:(au - lo) * ah.size α=au * ah.size α - lo * ah.size α:=Nat.sub_mul _ _ _
 by_cases e:cap=lo
 ·subst e
  have bT:au=cap:=by omega
  subst bT
  refine .inr ⟨b,off,au - au,cur,T,gq,by simp,ae,aD,by simp,by simp,by simp; omega,?_⟩
  simp only [Nat.sub_self,List.take_zero,List.length_nil,Nat.zero_mul]
  exact⟨by simp,fun i au=>by simp at au⟩
 ·rw [if_neg e]
  refine .inr ⟨b,off + lo * ah.size α,cap - lo,cur,T,gq,by rw [an],ae,aD,by omega,by omega,by rw [an]; omega,?_⟩
  rw [an]
  refine⟨by simp only [an,List.length_take,List.length_drop]; simp; omega,fun i jl=> ?_⟩
  rw [an] at jl
  have kt:=gl.2 (lo + i) (by omega)
  have hle:(lo + i + 1) * ah.size α≤xs.length * ah.size α:=Nat.mul_le_mul_right _ (by omega)
  have Cc:(i + 1) * ah.size α≤ (au - lo) * ah.size α:=Nat.mul_le_mul_right _ (by omega)
  rw [Nat.succ_mul] at hle Cc
  rw [si _ _ _ _ _ hle] at kt
  rw [si _ _ _ _ _ Cc]
  have:((xs.drop lo).take (au - lo))[i]'(by rw [an]; exact jl)=xs[lo + i]:=by simp
  rw [this]
  rw [show off + lo * ah.size α + i * ah.size α=off + (lo + i) * ah.size α by rw [Nat.add_mul]; omega]
  exact kt
inductive r2 (c:cY) (E:List (Nat × I)) (L:List aL):Option Operand→Int→Int→Prop
 | none {n} :r2 c E L .none n n
 | some {x i n} :a7 c E L x (.of (i:Int))→r2 c E L (.some x) i n
theorem D4 {α:Type} [ah α] {xs r:List α} {e:TypeId} {lo au:Option Operand} {i j:Int} (hu:c.P.underlying t=some (.slice e)) (fh:bq c.P e α) (aq:a7 c E L x (.of xs)) (hv:r2 c E L lo i 0) (ed:r2 c E L au j xs.length)
 (h:pW xs i j=some r):bY c E L ⟨d,.slice t x lo au none,ty,pos,af,g⟩ (.of r):= .pure fun a W s=>by
 obtain⟨m,n,rfl,rfl,tC,aP,rfl⟩:=Pe h
 obtain⟨gP,eo,eK⟩:=fh.info
 rcases lQ.1 (aq a W s) with⟨aa,rfl⟩ | ⟨b,off,cap,cur,T,gq,aa,ae,aD,aZ,cZ,eN,gl⟩
 ·have rM:n=0:=by simpa using aP
  have gV:m=0:=by omega
  subst rM
  subst gV
  refine⟨.slice none 0 0,?_,lQ.2 (.inl ⟨rfl,by simp⟩)⟩
  have ao:(match lo.map a.eval with | some v=>Instr.sliceBound v 0 .sliceB | none=>pure 0:Sem Nat).run c.P W= .ok 0 W:=by
   cases hv with
   | none=>rfl
   | some an=>exact oX (Nat.le_refl _) (of_int.1 (an a W s))
  have iG:(match au.map a.eval,(none:Option Value) with | some v,some _=>Instr.sliceBound v 0 .slice3B | some v,none=>Instr.sliceBound v 0 .sliceAcap | none,none=>pure 0 | none,some _=>stuck "Slice: max without high" :Sem Nat).run c.P W= .ok 0 W:=by
   cases ed with
   | none=>rfl
   | some an=>exact oX (Nat.le_refl _) (of_int.1 (an a W s))
  cases hv <;> cases ed
  all_goals
   simp only [execOp,Instr.sliceAt,Instr.slice,Instr.sliceBounds,aa,Sem.run_bind,run_underlying hu,Result.andThen_ok,Option.map_none,Option.map_some,Option.isSome_none,Bool.false_eq_true,if_false,if_true,Sem.run_pure] at ao iG ⊢
   try simp only [ao,iG,Result.andThen_ok,Go.sizeOf,typeInfo,Sem.run_bind,run_program,eo,Sem.run_pure]
   try simp [eo]
 ·refine⟨.slice (some (if cap=m then⟨b,off,none⟩ else⟨b,off + m * ah.size α,none⟩)) (n - m) (cap - m),?_,lQ.2 (Ri ae aD aZ cZ eN gl tC aP)⟩
  have ao:∀ v,v=Value.int .i64 m→ (Instr.sliceBound v n .sliceB).run c.P W= .ok m W:=fun v a2=>oX tC a2
  have iG:∀ v,v=Value.int .i64 n→ (Instr.sliceBound v cap .sliceAcap).run c.P W= .ok n W:=fun v a2=>oX (by omega) a2
  have L0:(if cap=m then(some ⟨b,off,none⟩:Option Addr) else(some (Addr.add ⟨b,off,none⟩ (m * ah.size α))))=some (if cap=m then⟨b,off,none⟩ else⟨b,off + m * ah.size α,none⟩):=by
   split <;> simp [iN]
  generalize fc:(n:Int)=MZ at ed
  generalize zE:(m:Int)=M0 at hv
  generalize zF:(xs.length:Int)=M1 at ed
  generalize Mt:(0:Int)=M3 at hv
  cases hv with
  | none=>
    have gV:m=0:=by omega
    cases ed with
    | none=>
      have mW:n=xs.length:=by omega
      subst mW
      subst gV
      simp [execOp,Instr.sliceAt,Instr.slice,Instr.sliceBounds,aa,run_underlying hu,Go.sizeOf,typeInfo,eo,eK,iN]
    | some an=>
      have a6:=of_int.1 (an a W s)
      rw [← fc] at a6
      have bl:=iG _ a6
      subst gV
      simp [execOp,Instr.sliceAt,Instr.slice,Instr.sliceBounds,aa,run_underlying hu,Go.sizeOf,typeInfo,eo,eK,iN,bl]
  | some an=>
    have a6:=of_int.1 (an a W s)
    rw [← zE] at a6
    have bl:=ao _ a6
    cases ed with
    | none=>
      have mW:n=xs.length:=by omega
      subst mW
      simp only [execOp,Instr.sliceAt,Instr.slice,Instr.sliceBounds,aa,Sem.run_bind,run_underlying hu,Result.andThen_ok,Option.map_none,Option.map_some,Option.isSome_none,Bool.false_eq_true,if_false,if_true,Sem.run_pure,bl,Go.sizeOf,typeInfo,run_program,eo,eK]
      rw [← L0]
    | some kM=>
      have Mu:=of_int.1 (kM a W s)
      rw [← fc] at Mu
      have VJ:=iG _ Mu
      simp only [execOp,Instr.sliceAt,Instr.slice,Instr.sliceBounds,aa,Sem.run_bind,run_underlying hu,Result.andThen_ok,Option.map_none,Option.map_some,Option.isSome_none,Bool.false_eq_true,if_false,if_true,Sem.run_pure,bl,VJ,Go.sizeOf,typeInfo,run_program,eo,eK]
      rw [← L0]
end
end Gv
namespace Gv
open Go
set_option linter.unusedVariables false
set_option linter.unusedSimpArgs false
def aV:Option Nat→Nat→Nat→Value
 | some p,n,cap=> .slice (some ⟨p,0,none⟩) n cap
 | none,_,_=> .slice none 0 0
theorem Pf {L:List aL} {i:Nat} {cp:dx} :∀ k∈aN (L.set i ⟨none,cp⟩),∃ j e,j≠i∧L[j]? =some e∧e.key=some k:=by
 intro k ax
 obtain⟨e,he,rK⟩:=kh.1 ax
 obtain⟨j,aG⟩:=List.mem_iff_getElem?.1 he
 rw [List.getElem?_set] at aG
 split at aG
 ·split at aG
  ·simp only [Option.some.injEq] at aG; subst aG; cases rK
  ·cases aG
 ·rename_i dn
  exact⟨j,e,fun h=>dn h.symm,aG,rK⟩
theorem uB {L:List aL} {i:Nat} {cp:dx} :aN (L.set i ⟨none,cp⟩) |>.Sublist (aN L):=by
 induction L generalizing i with
 | nil=>simp [aN]
 | cons x r b0=>
   cases i with
   | zero=>
     cases ax:x.key with
     | none=>simp [aN,ax]
     | some p=>simp [aN,ax]
   | succ i=>
     cases ax:x.key with
     | none=>simpa [aN,ax] using b0
     | some p=>simpa [aN,ax] using b0
theorem bC.kill {c E L a W} (h:bC c E L a W) (i:Nat):bC c E (L.set i ⟨none,.dead⟩) a W:=by
 have k2:=uB (L:=L) (i:=i) (cp:= .dead)
 have ax:∀ k∈aN (L.set i ⟨none,.dead⟩),k∈aN L:=fun k ax=>k2.subset ax
 have gC:Ext (aN L ++ c.bP) W (aN (L.set i ⟨none,.dead⟩) ++ c.bP) W:= .drop fun k hm=>by
  rcases List.mem_append.1 hm with hm | hm
  ·exact List.mem_append.2 (.inl (ax k hm))
  ·exact List.mem_append.2 (.inr hm)
 exact
 {defers:=h.defers
  size:=h.size
  env:=fun t τ an=>let⟨v,aa,ae⟩:=h.env t τ an; ⟨v,aa,τ.mono gC ae⟩
  dm:=h.dm
  own:=fun e he=>by
   obtain⟨j,aG⟩:=List.mem_iff_getElem?.1 he
   rw [List.getElem?_set] at aG
   split at aG
   ·split at aG
    ·simp only [Option.some.injEq] at aG; subst aG; trivial
    ·cases aG
   ·have aa:=h.own e (List.mem_of_getElem? aG)
    unfold aL.ok at *
    split at aa
    ·obtain⟨o',bh,ch⟩:=aa
     exact⟨o',bh,dx.mono _ gC ch⟩
    ·exact aa
  nodup:=h.nodup.sublist k2
  lt:=fun k hm=>h.lt k (ax k hm)
  fI:=fun k hm=>h.fI k (ax k hm)
  eB:=fun k hm=>⟨(h.eB k hm).1,fun ae=>(h.eB k hm).2 (ax k ae)⟩ }
theorem bC.xO {c E L a W} (h:bC c E L a W) {i p:Nat} {cp:dx} (au:L[i]? =some ⟨some p,cp⟩):p ∉ aN (L.set i ⟨none,.dead⟩) ++ c.bP:=by
 intro hm
 rcases List.mem_append.1 hm with hm | hm
 ·obtain⟨j,e,dn,aG,rK⟩:=Pf p hm
  exact dn (EK h.nodup aG au rK rfl)
 ·exact(h.eB p hm).2 (kh.2 ⟨_,List.mem_of_getElem? au,rfl⟩)
theorem Dv {α:Type} [ah α] {A W} {cs:Array Value} {xs:List α} {cap:Nat} (h:cs.size=cap * ah.size α) (aP:xs.length≤cap) (aU:fW A W (cs.toList.take (xs.length * ah.size α)) xs):
 0 + xs.length * ah.size α≤cs.size∧fW A W ((cs.toList.drop 0).take (xs.length * ah.size α)) xs:=by
 refine⟨?_,by simpa using aU⟩
 rw [h,Nat.zero_add]; exact Nat.mul_le_mul_right _ aP
section
variable {c:cY} {E:List (Nat × I)} {L:List aL} {ops:Array Oper} {Q:Exit→Act→World→Prop}
variable {d:Option Tmp} {ty:TypeId} {pos:String} {af:Array Edge} {g:Option (Nat × Bool)} {x y:Operand} {t t2:TypeId}
theorem bC.freeze {a:Act} {W:World} {α:Type} [ah α] {i s cap T:Nat} {key:Option Nat} {xs:List α} (h:bC c E L a W) (an:look E s=some (.eq (aV key xs.length cap))) (ao:L[i]? =some ⟨key,.row T xs cap⟩):
 bC c ((s,.of xs) :: E) (L.set i ⟨none,.dead⟩) a W:=by
 have ax:=h.kill i
 refine { ax with env:=fun t τ eC=> ?_ }
 simp only [look] at eC
 by_cases e:Nat.beq s t=true
 ·rw [e] at eC
  simp only [cond_true,Option.some.injEq] at eC
  subst eC
  have:=eO.1 e
  subst this
  obtain⟨v,aa,ae⟩:=h.env s _ an
  refine⟨v,aa,lQ.2 ?_⟩
  have la:v=aV key xs.length cap:=ae
  subst la
  have bh:=h.own _ (List.mem_of_getElem? ao)
  cases key with
  | none=>exact .inl ⟨rfl,bh.1⟩
  | some p=>
    obtain⟨o,dZ,cs,rfl,eK,aP,vY,aU⟩:=bh
    obtain⟨aD,aZ⟩:=Dv eK aP aU
    refine .inr ⟨p,0,cap,cs,T,(0,0),rfl,h.xO ao,dZ,aP,by omega,aD,?_⟩
    have k2:=uB (L:=L) (i:=i) (cp:= .dead)
    exact aZ.mono (.drop fun k hm=>by
     rcases List.mem_append.1 hm with hm | hm
     ·exact List.mem_append.2 (.inl (k2.subset hm))
     ·exact List.mem_append.2 (.inr hm))
 ·simp only [Bool.not_eq_true] at e
  rw [e] at eC
  exact ax.env t τ eC
theorem ai.freeze {l:List Oper} {α:Type} [ah α] {key:Option Nat} {xs:List α} {cap T:Nat} (i s:Nat) (an:look E s=some (.eq (aV key xs.length cap))) (ao:L[i]? =some ⟨key,.row T xs cap⟩)
 (k:ai c ops Q l ((s,.of xs) :: E) (L.set i ⟨none,.dead⟩)):ai c ops Q l E L:=fun a W st=>k a W (st.freeze an ao)
theorem ab.freeze {x:Exit} {α:Type} [ah α] {key:Option Nat} {xs:List α} {cap T:Nat} (i s:Nat) (an:look E s=some (.eq (aV key xs.length cap))) (ao:L[i]? =some ⟨key,.row T xs cap⟩)
 (k:ab c Q x ((s,.of xs) :: E) (L.set i ⟨none,.dead⟩)):ab c Q x E L:=fun a W st=>k a W (st.freeze an ao)
theorem ag.freeze {code:Code} {α:Type} [ah α] {key:Option Nat} {xs:List α} {cap T:Nat} (i s:Nat) (an:look E s=some (.eq (aV key xs.length cap))) (ao:L[i]? =some ⟨key,.row T xs cap⟩)
 (k:ag c Q code ((s,.of xs) :: E) (L.set i ⟨none,.dead⟩)):ag c Q code E L:=fun a W st=>k a W (st.freeze an ao)
theorem bC.RT {a:Act} {W:World} {α:Type} [ah α] (T:TypeId) (h:bC c E L a W):bC c E (⟨none,.row T ([]:List α) 0⟩ :: L) a W:=
 {h with
  own:=fun e he=>by
   rcases List.mem_cons.1 he with rfl | he
   ·exact⟨rfl,rfl⟩
   ·exact h.own e he }
theorem ai.own {l:List Oper} {α:Type} [ah α] (T:TypeId) (k:ai c ops Q l E (⟨none,.row T ([]:List α) 0⟩ :: L)):ai c ops Q l E L:=fun a W st=>k a W (st.RT T)
theorem xN:a7 c E L (.const (.slice none 0 0)) (.eq (aV none 0 0)):=fun _ _ _=>rfl
theorem sH {key:Option Nat} {n cap:Nat} {e i T:Nat} {α:Type} [ah α] {xs:List α} (hu:c.P.underlying t=some (.slice e)) (aq:a7 c E L x (.eq (aV key n cap))) (aP:n=xs.length) (ao:L[i]? =some ⟨key,.row T xs cap⟩):bY c E L ⟨d,.call ⟨.builtin .len,#[x],#[t]⟩,ty,pos,af,g⟩ (.of (n:Int)):= .pure fun a W s=>by
 subst aP
 have aa:a.eval x=_:=aq a W s
 have bh:=s.own _ (List.mem_of_getElem? ao)
 cases key with
 | none=>
   have:xs= []:=bh.1
   subst this
   exact⟨.int .i64 0,by simp [execOp,resolve,invoke,builtin,Builtin.len_,aa,aV,run_underlying hu,goInt],of_int.2 rfl⟩
 | some p=>exact⟨.int .i64 xs.length,by simp [execOp,resolve,invoke,builtin,Builtin.len_,aa,aV,run_underlying hu,goInt],of_int.2 rfl⟩
theorem fW.one {α:Type} [ah α] {A W} {cs:List Value} {xs:List α} (h:fW A W cs xs):∀ u∈cs,u.oneCell'=true:=by
 intro u hu
 obtain⟨j,aG⟩:=List.mem_iff_getElem?.1 hu
 have cl:=(List.getElem?_eq_some_iff.1 aG).1
 have aa:=h.1
 by_cases hs:ah.size α=0
 ·rw [hs,Nat.mul_zero] at aa; omega
 ·have hp:0 < ah.size α:=Nat.pos_of_ne_zero hs
  have au:j / ah.size α < _:=(Nat.div_lt_iff_lt_mul hp).2 (by rw [aa] at cl; exact cl)
  refine ah.one (h.2 _ au) u (List.mem_iff_getElem?.2 ⟨j % ah.size α,?_⟩)
  rw [List.getElem?_take,if_pos (Nat.mod_lt _ hp),List.getElem?_drop,Nat.mul_comm,Nat.div_add_mod]
  exact aG
theorem qW {α:Type} [ah α] {A W} {cs ds:List Value} {xs ys:List α} (h:fW A W cs xs) (cX:fW A W ds ys):fW A W (cs ++ ds) (xs ++ ys):=by
 refine⟨by rw [List.length_append,h.1,cX.1,List.length_append,Nat.add_mul],fun i au=> ?_⟩
 rw [List.length_append] at au
 by_cases cl:i < xs.length
 ·have aa:=h.2 i cl
  have hle:(i + 1) * ah.size α≤xs.length * ah.size α:=Nat.mul_le_mul_right _ cl
  rw [Nat.succ_mul] at hle
  have lb:=h.1
  rw [List.drop_append_of_le_length (by omega),List.take_append_of_le_length (by simp; omega)]
  rw [List.getElem_append_left cl]
  exact aa
 ·have aa:=cX.2 (i - xs.length) (by omega)
  have e:i * ah.size α=cs.length + (i - xs.length) * ah.size α:=by
   rw [h.1,← Nat.add_mul]; congr 1; omega
  rw [e,List.drop_append,List.drop_of_length_le (by omega),List.nil_append,show cs.length + (i - xs.length) * ah.size α - cs.length=(i - xs.length) * ah.size α by omega]
  rw [List.getElem_append_right (by omega)]
  exact aa
theorem mY.cells {α:Type} [ah α] {A W v} {ys:List α} (h:mY A W v ys):
 (v= .slice none 0 0∧ys= [])∨ ∃ (b off cap:Nat) (news:List Value),v= .slice (some ⟨b,off,none⟩) ys.length cap∧news.length=ys.length * ah.size α∧ (∀ (j:Nat) (u:Value),news[j]? =some u→W.cell? ((⟨b,off,none⟩:Addr).add j)=some u)∧
  (∀ u∈news,u.oneCell'=true)∧fW A W news ys:=by
 rcases h with h | ⟨b,off,cap,cur,T,gq,aa,ae,aD,aZ,a6,bl,cZ⟩
 ·exact .inl h
 ·refine .inr ⟨b,off,cap,_,aa,cZ.1,fun j u hu=> ?_,fun u hu=> ?_,cZ⟩
  ·rw [List.getElem?_take] at hu
   split at hu
   ·rw [iN,cell_of_row W b (off + j) cur T gq aD]
    rw [List.getElem?_drop] at hu
    simpa using hu
   ·cases hu
  ·exact cZ.one u hu
theorem bC.grow {a:Act} {W:World} (h:bC c E L a W) {i:Nat} {iH:aL} (au:L[i]? =some iH) {o:Obj} {cp:dx} (ar:cp.holds (aN L ++ c.bP) W o):
 bC c E (L.set i ⟨some W.heap.size,cp⟩) a (W.alloc o):=by
 have aa:=h.alloc ar
 refine aa.sub (fun e he=> ?_) ?_
 ·obtain⟨j,aG⟩:=List.mem_iff_getElem?.1 he
  rw [List.getElem?_set] at aG
  split at aG
  ·split at aG
   ·simp only [Option.some.injEq] at aG; subst aG; simp
   ·cases aG
  ·exact List.mem_cons_of_mem _ (List.mem_of_getElem? aG)
 ·have zi:W.heap.size ∉ aN L:=fun hm=>Nat.lt_irrefl _ (h.lt _ hm)
  have key:∀ (L:List aL) (i:Nat) (q:Nat),q ∉ aN L→ (aN L).Nodup→ (aN (L.set i ⟨some q,cp⟩)).Nodup∧ ∀ k∈aN (L.set i ⟨some q,cp⟩),k=q∨k∈aN L:=by
   intro L
   induction L with
   | nil=>intro i q _ aP; exact⟨by simpa using aP,by simp [aN]⟩
   | cons x r b0=>
     intro i q hq aP
     cases aq:x.key with
     | none=>
       have j5:q ∉ aN r:=by simpa [aN,aq] using hq
       have qt:(aN r).Nodup:=by simpa [aN,aq] using aP
       cases i with
       | zero=>exact⟨by simp only [List.set_cons_zero,aN]; exact List.nodup_cons.2 ⟨j5,qt⟩,fun k ax=>by
        simp only [List.set_cons_zero,aN,List.mem_cons] at ax; rcases ax with rfl | ax
        ·exact .inl rfl
        ·exact .inr (by simpa [aN,aq] using ax)⟩
       | succ i=>
         obtain⟨aa,ae⟩:=b0 i q j5 qt
         exact⟨by simpa [aN,aq] using aa,fun k ax=>by have:=ae k (by simpa [aN,aq] using ax); simpa [aN,aq] using this⟩
     | some p=>
       simp only [aN,aq,List.mem_cons,not_or] at hq
       simp only [aN,aq] at aP
       obtain⟨hp,qt⟩:=List.nodup_cons.1 aP
       cases i with
       | zero=>exact⟨by simp only [List.set_cons_zero,aN]; exact List.nodup_cons.2 ⟨hq.2,qt⟩,fun k ax=>by
        simp only [List.set_cons_zero,aN,List.mem_cons] at ax; rcases ax with rfl | ax
        ·exact .inl rfl
        ·exact .inr (by simp [aN,aq,ax])⟩
       | succ i=>
         obtain⟨aa,ae⟩:=b0 i q hq.2 qt
         refine⟨?_,fun k ax=> ?_⟩
         ·simp only [List.set_cons_succ,aN,aq]
          refine List.nodup_cons.2 ⟨fun hm=> ?_,aa⟩
          rcases ae p hm with e | qu
          ·exact hq.1 e.symm
          ·exact hp qu
         ·simp only [List.set_cons_succ,aN,aq,List.mem_cons] at ax
          rcases ax with rfl | ax
          ·exact .inr (by simp [aN,aq])
          ·rcases ae k ax with e | qu
           ·exact .inl e
           ·exact .inr (by simp [aN,aq,qu])
  exact(key L i _ zi h.nodup).1
theorem El {α:Type} [ah α] {A W} {cs ds:List Value} {xs:List α} {T cap:Nat} (h:fW A W cs xs) (eS:ds.length=(cap - xs.length) * ah.size α) (aP:xs.length≤cap) (hm:cap≤maxLen) {arr:Array Value} (bn:arr.toList=cs ++ ds):
 (dx.row T xs cap).holds A W (.cells arr T (0,0)):=by
 refine⟨arr,rfl,?_,aP,hm,?_⟩
 ·have:arr.size=(cs ++ ds).length:=by rw [← bn]; simp
  rw [this,List.length_append,h.1,eS,← Nat.add_mul]; congr 1; omega
 ·rw [bn,← h.1,List.take_left]; exact h
theorem ai.app {α:Type} [ah α] {rest:List Oper} {a4 i e bytes cap:Nat} {key:Option Nat} {xs ys r:List α} {z:α} (hu:c.P.underlying t=some (.slice e)) (fh:bq c.P e α) (gr:cE c.P e z)
 (tD:(c.P.info? e).map (·.bytes)=some bytes) (hs:a7 c E L x (.eq (aV key xs.length cap))) (ao:L[i]? =some ⟨key,.row e xs cap⟩) (a9:a7 c E L y (.of ys)) (h:gB bytes xs ys=some r) (aP:Nat.blt a4 c.n=true)
 (k:∀ ov cap',ai c ops Q rest ((a4,.eq (aV ov r.length cap')) :: E) (L.set i ⟨ov,.row e r cap'⟩)):
 ai c ops Q (⟨some a4,.call ⟨.builtin .append,#[x,y],#[t,t]⟩,ty,pos,af,none⟩ :: rest) E L:=fun a W s=>by
 obtain⟨ts,ql,rfl⟩:=IN h
 obtain⟨gP,dM,eo,eS,pw⟩:=gr.zero
 have l1:gP.size=ah.size α:=by
  obtain⟨i2,aa,ae⟩:=fh.info
  rw [eo] at aa; cases aa; exact ae
 have EL:gP.bytes=bytes:=by simpa [eo] using tD
 have tE:dM.cells.size=ah.size α:=by have:=ah.len (pw [] W).2; simpa using this
 subst EL
 have aa:a.eval x=_:=hs a W s
 have bh:=s.own _ (List.mem_of_getElem? ao)
 have kA:a4 < c.n:=by simpa using aP
 have rZ:=(lQ.1 (a9 a W s)).cells
 have oC:maxLen=9223372036854775807:=rfl
 have main:∃ ov cap' W',(Builtin.append_ #[t,t] ty #[a.eval x,a.eval y]).run c.P W= .ok (aV ov (xs ++ ys).length cap') W'∧bC c E (L.set i ⟨ov,.row e (xs ++ ys) cap'⟩) a W':=by
  cases key with
  | none=>
    obtain⟨VK,VL⟩:xs= []∧cap=0:=bh
    subst VK
    subst VL
    have vC:L.set i ⟨none,.row e ([]:List α) 0⟩=L:=by
     obtain⟨cl,he⟩:=List.getElem?_eq_some_iff.1 ao
     rw [← he]; exact List.set_getElem_self cl
    rcases rZ with⟨a2,rfl⟩ | ⟨b,off,cp,news,a2,tF,BU,Cv,fw⟩
    ·refine⟨none,0,W,?_,by simpa [vC] using s⟩
     simp [aa,a2,aV,Builtin.append_,run_underlying hu,Go.sizeOf,typeInfo,eo,Builtin.lenOf,Builtin.firstCells]
    ·by_cases hm:ys.length=0
     ·have:ys= []:=List.eq_nil_of_length_eq_zero hm
      subst this
      refine⟨none,0,W,?_,by simpa [vC] using s⟩
      simp [aa,a2,aV,Builtin.append_,run_underlying hu,Go.sizeOf,typeInfo,eo,Builtin.lenOf,Builtin.firstCells,loadCells,loadCellsFrom]
     ·simp only [List.length_nil,Nat.zero_add] at ts ql
      have aU:=run_append_nil (P:=c.P) W t ty e gP dM hu eo eS ⟨b,off,none⟩ ys.length cp news (by rw [l1]; exact tF) BU (by omega) (by omega) (by omega)
      refine⟨some W.heap.size,grownCap W ys.length 0 e,_,by rw [aa,a2]; simpa [aV] using aU,?_⟩
      have tG:=grownCap_ge W ys.length 0 e
      have hle:=grownCap_le_maxLen W ys.length 0 e ql
      have:=(s.world (Fr.drew W)).grow ao (o:= .cells (news.toArray ++ Builtin.zeroCells dM.cells (grownCap W ys.length 0 e - ys.length)) e) (cp:= .row e ([] ++ ys) (grownCap W ys.length 0 e))
       (El (T:=e) (fw.mono (Ext.dm (Fr.drew W))) (ds:=(Builtin.zeroCells dM.cells (grownCap W ys.length 0 e - ys.length)).toList) (by rw [Array.length_toList,size_zeroCells,tE]) tG hle (by simp))
      simpa using this
  | some p=>
    obtain⟨ja,dZ,cs,rfl,eK,VM,vY,Cw⟩:=bh
    have Ga:a.eval x= .slice (some ⟨p,0,none⟩) xs.length cap:=aa
    rcases rZ with⟨a2,rfl⟩ | ⟨b,off,cp,news,a2,tF,BU,Cv,fw⟩
    ·refine⟨some p,cap,W,?_,?_⟩
     ·simp [Ga,a2,aV,Builtin.append_,run_underlying hu,Go.sizeOf,typeInfo,eo,Builtin.lenOf,Builtin.firstCells,storeCells,VM]
     ·have:L.set i ⟨some p,.row e (xs ++ []) cap⟩=L:=by
       obtain⟨cl,he⟩:=List.getElem?_eq_some_iff.1 ao
       rw [List.append_nil,← he]; exact List.set_getElem_self cl
      rw [this]; exact s
    ·by_cases vA:xs.length + ys.length≤cap
     ·have L1:xs.length * gP.size + news.length≤cs.size:=by rw [l1,tF,eK,← Nat.add_mul]; exact Nat.mul_le_mul_right _ vA
      have aU:=run_append_room (P:=c.P) W t ty e gP hu eo p xs.length cap cs dZ ⟨b,off,none⟩ ys.length cp news (by rw [l1]; exact tF) BU Cv vA L1
      refine⟨some p,cap,_,by rw [Ga,a2]; simpa [aV] using aU,?_⟩
      refine s.store ao dZ ⟨_,rfl,?_,by simpa using vA,vY,?_⟩
      ·simp only [List.size_toArray,List.length_append,List.length_take,List.length_drop,Array.length_toList]; omega
      ·have an:(cs.toList.take (xs.length * gP.size)).length=xs.length * ah.size α:=by rw [l1]; exact Cw.1
       have vL:=qW Cw fw
       rw [l1]
       have hlen:(xs ++ ys).length * ah.size α=(cs.toList.take (xs.length * ah.size α) ++ news).length:=by rw [vL.1]
       have M4:((cs.toList.take (xs.length * ah.size α) ++ news ++ cs.toList.drop (xs.length * ah.size α + news.length)).toArray).toList.take ((xs ++ ys).length * ah.size α)=cs.toList.take (xs.length * ah.size α) ++ news:=by
        rw [hlen]; exact List.take_left
       rw [List.append_assoc] at M4
       rw [M4]
       exact vL
     ·have holds:∀ (j:Nat) u,(cs.toList.take (xs.length * ah.size α))[j]? =some u→W.cell? ((⟨p,0,none⟩:Addr).add j)=some u:=by
       intro j u nt
       rw [List.getElem?_take] at nt
       split at nt
       ·rw [iN,Nat.zero_add,cell_of_row W p j cs e (0,0) dZ]; simpa using nt
       ·cases nt
      have aU:=run_append_grow (P:=c.P) W t ty e gP dM hu eo eS ⟨p,0,none⟩ xs.length cap _ (by rw [l1]; exact Cw.1) holds ⟨b,off,none⟩ ys.length cp news (by rw [l1]; exact tF) BU (by omega) (by omega) (growslice_fits (by omega) ts)
      have tG:=grownCap_ge W (xs.length + ys.length) cap e
      have hle:=grownCap_le_maxLen W (xs.length + ys.length) cap e ql
      refine⟨some W.heap.size,grownCap W (xs.length + ys.length) cap e,_,by rw [Ga,a2]; simpa [aV] using aU,?_⟩
      have vL:=(qW Cw fw).mono (Ext.dm (Fr.drew W))
      have:=(s.world (Fr.drew W)).grow ao (o:= .cells ((cs.toList.take (xs.length * ah.size α)).toArray ++ news.toArray ++ Builtin.zeroCells dM.cells (grownCap W (xs.length + ys.length) cap e - (xs.length + ys.length))) e)
       (cp:= .row e (xs ++ ys) (grownCap W (xs.length + ys.length) cap e))
       (El (T:=e) vL (ds:=(Builtin.zeroCells dM.cells (grownCap W (xs.length + ys.length) cap e - (xs.length + ys.length))).toList) (by rw [Array.length_toList,size_zeroCells,tE,List.length_append]) (by rw [List.length_append]; exact tG) hle (by simp))
      simpa using this
 obtain⟨ov,cap',W',kk,kr⟩:=main
 refine hI rfl (R:=fun v g6=>v=aV ov (xs ++ ys).length cap'∧g6=W') (.lq ?_ ⟨rfl,rfl⟩) fun v g6 ⟨a2,hw⟩=> ?_
 ·simp only [execOp,resolve,invoke,builtin,Sem.run_bind,Sem.run_pure,Result.andThen_ok]
  have av:(#[x,y]:Array Operand).map a.eval= #[a.eval x,a.eval y]:=by simp
  rw [av,kk]
  rfl
 ·subst a2
  subst hw
  exact k ov cap' _ _ (kr.put kA rfl)
inductive mD (c:cY) (E:List (Nat × I)) (L:List aL) {α:Type} [ah α]:List α→List (Nat × Operand)→List α→Prop
 | nil {b} :mD c E L b [] b
 | cons {b b':List α} {v:α} {i:Nat} {x:Operand} {r:List (Nat × Operand)} :i < b.length→a7 c E L x (.of v)→mD c E L (b.set i v) r b'→mD c E L b ((i,x) :: r) b'
theorem mD.run {α:Type} [ah α] {b b':List α} {bf:List (Nat × Operand)} (h:mD c E L b bf b'):∀ a W,bC c E L a W→ ∀ cs:Array Value,fW (aN L ++ c.bP) W cs.toList b→
 ∃ dA,Instr.fill (fun i=>some (i * ah.size α,ah.size α)) cs (bf.map fun(i,x)=>(i,a.eval x))=some dA∧fW (aN L ++ c.bP) W dA.toList b'∧b'.length=b.length:=by
 induction h with
 | nil=>intro a W s cs aU; exact⟨cs,rfl,aU,rfl⟩
 | @cons b b' v i x r au ae _ b0=>
   intro a W s cs aU
   have a2:=ae a W s
   have eK:(a.eval x).cells.size=ah.size α:=by have:=ah.len a2.2; simpa using this
   have an:=aU.1
   have hle:(i + 1) * ah.size α≤b.length * ah.size α:=Nat.mul_le_mul_right _ au
   rw [Nat.succ_mul] at hle
   rw [List.map_cons,Bf rfl eK (by simp at an; omega)]
   obtain⟨dA,aD,aZ,a6⟩:=b0 a W s (fy cs.toList (i * ah.size α) (a.eval x).cells.toList).toArray (by
    have:=DU aU au a2.2
    simpa [fy,ah.len a2.2] using this)
   exact⟨dA,aD,aZ,by rw [a6,List.length_set]⟩
theorem xI {α:Type} [ah α] {A W} {z:α} {dM:Value} (h:(I.of z).holds A W dM) (n:Nat) (hs:ah.size α≠0):fW A W ((Array.range (n * ah.size α)).map (dM.cells[· % dM.cells.size]!)).toList (List.replicate n z):=by
 have an:dM.cells.size=ah.size α:=by have:=ah.len h.2; simpa using this
 have hp:0 < ah.size α:=Nat.pos_of_ne_zero hs
 refine⟨by simp,fun i au=> ?_⟩
 have jl:i < n:=by simpa using au
 have hle:(i + 1) * ah.size α≤n * ah.size α:=Nat.mul_le_mul_right _ jl
 rw [Nat.succ_mul] at hle
 have:((((Array.range (n * ah.size α)).map (dM.cells[· % dM.cells.size]!)).toList.drop (i * ah.size α)).take (ah.size α))=dM.cells.toList:=by
  apply List.ext_getElem?
  intro j
  rw [List.getElem?_take]
  split
  ·rename_i aG
   rw [List.getElem?_drop]
   have cl:i * ah.size α + j < n * ah.size α:=by omega
   have zm:(i * ah.size α + j) % ah.size α=j:=by rw [Nat.mul_comm,Nat.mul_add_mod]; exact Nat.mod_eq_of_lt aG
   simp only [Array.getElem?_toList,Array.getElem?_map,Array.getElem?_range,cl,if_true,Option.map_some,an,zm]
   rw [getElem!_pos dM.cells j (by omega)]
   simp [an,aG]
  ·rename_i aG
   symm
   simp only [Array.getElem?_toList]
   exact Array.getElem?_eq_none (by omega)
 rw [this]
 simpa using h.2
theorem iR {α:Type} [ah α] {e n:Nat} {z:α} {r:List α} {bf:List (Nat × Operand)} (hu:c.P.underlying t=some (.slice e)) (fh:bq c.P e α) (gr:cE c.P e z) (hs:Nat.beq (ah.size α) 0=false) (aP:Nat.ble (n * ah.size α) 16777216=true)
 (ba:mD c E L (List.replicate n z) bf r):bY c E L ⟨d,.buildSlice t n bf.toArray,ty,pos,af,g⟩ (.of r):=fun a W s=>by
 obtain⟨gP,dM,eo,eS,pw⟩:=gr.zero
 have l1:gP.size=ah.size α:=by
  obtain⟨i2,aa,ae⟩:=fh.info
  rw [eo] at aa; cases aa; exact ae
 have eZ:ah.size α≠0:=fun h=>by rw [h] at hs; cases hs
 have oH:=xI (pw (aN L ++ c.bP) W) n eZ
 obtain⟨dA,aD,aZ,a6⟩:=ba.run a W s _ oH
 have hlen:r.length=n:=by rw [a6]; simp
 have hm:(bf.toArray.map fun(x:Nat × Operand)=>(x.1,a.eval x.2)).toList=bf.map fun(i,x)=>(i,a.eval x):=by simp
 have UZ:=Nat.le_of_ble_eq_true aP
 refine .lq (v:= .slice (some ⟨W.heap.size,0,none⟩) n n) (W':=W.alloc (.cells dA e)) ?_ ⟨Fr.alloc W _,lQ.2 ?_⟩
 ·simp only [execOp,Instr.buildSlice,Sem.run_bind,run_underlying hu,Result.andThen_ok,Go.sizeOf,typeInfo,run_program,eo,Sem.run_pure,l1]
  rw [if_neg (by omega)]
  try simp only [Sem.run_pure,Result.andThen_ok,Sem.run_bind]
  by_cases bT:n * ah.size α=0
  ·have rM:n=0:=by
    rcases Nat.mul_eq_zero.1 bT with h | h
    ·exact h
    ·exact absurd h eZ
   subst rM
   simp only [Nat.zero_mul,if_true,Sem.run_pure,Result.andThen_ok]
   try simp only [Nat.zero_mul] at aD
   have iH:((Array.range 0).map (fun x=>(#[]:Array Value)[x % (#[]:Array Value).size]!))=((Array.range 0).map (dM.cells[· % dM.cells.size]!)):=by simp
   simp only [pure_bind]
   rw [iH,hm,aD]
   simp [newRow]
  ·simp only [bT,if_false,Sem.run_bind,zeroValue,typeInfo,run_program,Result.andThen_ok,eo,eS,Sem.run_pure]
   rw [hm,aD]
   simp [newRow]
 ·have gC:Ext (aN L ++ c.bP) W (aN L ++ c.bP) (W.alloc (.cells dA e)):=Ext.dm (Fr.alloc W _)
  refine .inr ⟨W.heap.size,0,n,dA,e,(0,0),by rw [hlen],fun rE=>Nat.lt_irrefl _ (s.Bu _ rE),EJ W _,by omega,?_,?_,?_⟩
  ·have:r.length * 1≤n * ah.size α:=by rw [hlen]; exact Nat.mul_le_mul_left _ (by omega)
   have:maxLen=9223372036854775807:=rfl
   omega
  ·have:=aZ.1; simp at this; omega
  ·have bl:=aZ.1
   rw [List.drop_zero,← bl,List.take_length]
   exact aZ.mono gC
end
end Gv
namespace Gv
open Go
set_option linter.unusedVariables false
set_option linter.unusedSimpArgs false
theorem Bm {cs:List Value} {o s:Nat} {u:Value} (h:u∈cs.drop o):u∈ (cs.drop o).take s∨u∈cs.drop (o + s):=by
 rw [← List.take_append_drop s (cs.drop o)] at h
 rcases List.mem_append.1 h with h | h
 ·exact .inl h
 ·rw [List.drop_drop] at h; exact .inr h
theorem JN {cs:List Value} {n o:Nat} {u:Value} {p:Prop} (an:cs.length=n) (bh:o=n) (h:u∈cs.drop o):p:=by
 rw [List.drop_of_length_le (by omega)] at h; cases h
theorem RU {cs ds:List Value} {o s n:Nat} (an:cs.length=n) (hd:ds.length=s) (h:o + s≤n):(cs.take o ++ ds ++ cs.drop (o + s)).length=n:=by
 simp only [List.length_append,List.length_take,List.length_drop]; omega
theorem JO {cs ds:List Value} {o s n:Nat} (an:cs.length=n) (hd:ds.length=s) (h:o + s≤n):((cs.take o ++ ds ++ cs.drop (o + s)).drop o).take s=ds:=by
 have aa:(cs.take o).length=o:=by simp; omega
 rw [List.append_assoc,List.drop_append,aa,List.drop_of_length_le (by omega),List.nil_append,Nat.sub_self,List.drop_zero,List.take_append_of_le_length (by omega),List.take_of_length_le (by omega)]
theorem DV {cs ds:List Value} {o s n ct s2:Nat} (an:cs.length=n) (hd:ds.length=s) (h:o + s≤n) (dn:ct + s2≤o∨o + s≤ct):((cs.take o ++ ds ++ cs.drop (o + s)).drop ct).take s2=(cs.drop ct).take s2:=by
 apply List.ext_getElem?
 intro i
 simp only [List.getElem?_take,List.getElem?_drop]
 split
 ·rename_i au
  simp only [List.getElem?_append,List.length_append,List.length_take,List.getElem?_take,List.getElem?_drop]
  have aa:min o cs.length=o:=by omega
  rw [aa,hd]
  rcases dn with ae | ae
  ·rw [if_pos (by omega),if_pos (by omega),if_pos (by omega)]
  ·rw [if_neg (by omega)]; congr 1; omega
 ·rfl
structure rN (P:Type) where
 size:Nat
 rep:List Nat→World→List Value→Nat→P→Prop
 one:∀ {A W cs o x n},rep A W cs o x→cs.length=n→o + size=n→ ∀ u∈cs.drop o,u.oneCell'=true
 mono:∀ {A W cQ W' cs o x},Ext A W cQ W'→rep A W cs o x→rep cQ W' cs o x
 p7:∀ {A W cs o x n ds p s},rep A W cs o x→cs.length=n→ds.length=s→p + s≤n→p + s≤o→rep A W (cs.take p ++ ds ++ cs.drop (p + s)) o x
@[reducible] def hx (B:Type) [ah B]:rN B where
  size:=ah.size B
  rep A W cs o x:=ah.rep A W ((cs.drop o).take (ah.size B)) x
  one h an bh u hu:=by
   rcases Bm (s:=ah.size B) hu with aa | bT
   ·exact ah.one h u aa
   ·exact JN an bh bT
  mono e h:=ah.mono e h
  p7 h an hd aP hp:=by rw [DV an hd aP (.inr hp)]; exact h
@[reducible] def dc (B:Type) [ah B] {P:Type} (S:rN P):rN (B × P) where
  size:=ah.size B + S.size
  rep A W cs o x:=ah.rep A W ((cs.drop o).take (ah.size B)) x.1∧S.rep A W cs (o + ah.size B) x.2
  one h an bh u hu:=by
   rcases Bm (s:=ah.size B) hu with aa | bT
   ·exact ah.one h.1 u aa
   ·exact S.one h.2 an (by omega) u bT
  mono e h:=⟨ah.mono e h.1,S.mono e h.2⟩
  p7 h an hd aP hp:=⟨by rw [DV an hd aP (.inr hp)]; exact h.1,S.p7 h.2 an hd aP (by omega)⟩
@[reducible] def ah.str {T P:Type} (S:rN P) (to:T→P) (N:Nat) (kA:S.size=N:=by rfl):ah T where
  size:=N
  agg:=true
  rep A W cs x:=cs.length=N∧S.rep A W cs 0 (to x)
  len h:=h.1
  one h:=fun u hu=>S.one h.2 h.1 (by omega) u (by simpa using hu)
  flat h:=by cases h
  mono e h:=⟨h.1,S.mono e h.2⟩
structure zG {P:Type} (S:rN P) (G:Type) [ah G] where
 off:Nat
 get:P→G
 set:P→G→P
 fR:off + ah.size G≤S.size
 hR:∀ {A W cs o b},S.rep A W cs o b→ah.rep A W ((cs.drop (o + off)).take (ah.size G)) (get b)
 kf:∀ {A W cs n o b ds g},cs.length=n→o + S.size≤n→S.rep A W cs o b→ah.rep A W ds g→S.rep A W (cs.take (o + off) ++ ds ++ cs.drop (o + off + ah.size G)) o (set b g)
def hV {B:Type} [ah B]:zG (hx B) B where
 off:=0
 get b:=b
 set _ g:=g
 fR:=by show 0 + ah.size B≤ah.size B; omega
 hR h:=h
 kf an bh _ bx:=by
  have h:=JO an (ah.len bx) bh
  show ah.rep _ _ ((List.drop _ _).take _) _
  rw [Nat.add_zero,h]; exact bx
def dq {B:Type} [ah B] {P:Type} {S:rN P} :zG (dc B S) B where
 off:=0
 get b:=b.1
 set b g:=(g,b.2)
 fR:=by show 0 + ah.size B≤ah.size B + S.size; omega
 hR h:=h.1
 kf {A W cs n o b ds g} an bh h bx:=by
  have bh:o + (ah.size B + S.size)≤n:=bh
  refine⟨?_,S.p7 h.2 an (ah.len bx) (by omega) (by omega)⟩
  rw [Nat.add_zero,JO an (ah.len bx) (by omega)]; exact bx
def bs {B:Type} [ah B] {P:Type} {S:rN P} {G:Type} [ah G] (l:zG S G):zG (dc B S) G where
 off:=ah.size B + l.off
 get b:=l.get b.2
 set b g:=(b.1,l.set b.2 g)
 fR:=by have:=l.fR; show ah.size B + l.off + ah.size G≤ah.size B + S.size; omega
 hR h:=by rw [← Nat.add_assoc]; exact l.hR h.2
 kf {A W cs n o b ds g} an bh h bx:=by
  have bh:o + (ah.size B + S.size)≤n:=bh
  have au:=l.fR
  have ae:=l.kf an (by omega) h.2 bx
  rw [Nat.add_assoc o] at ae
  exact⟨by rw [DV an (ah.len bx) (by omega) (.inl (by omega))]; exact h.1,ae⟩
def aK.str {T P G:Type} [ah G] {S:rN P} {to:T→P} {N:Nat} (l:zG S G) (off:Nat) (get:T→G) (set:T→G→T) (kA:S.size=N:=by rfl) (bh:l.off=off:=by rfl) (aa:∀ b,l.get (to b)=get b:=by intro b; rfl) (ae:∀ b g,l.set (to b) g=to (set b g):=by intro b g; rfl): @aK T G (ah.str S to N kA) _:=
 @aK.mk T G (ah.str S to N kA) _ off get set (by have:=l.fR; show off + ah.size G≤N; omega)
  (fun {A W cs b} h=>by have:=l.hR h.2; rw [Nat.zero_add,bh,aa] at this; exact this)
  (fun {A W cs b ds g} h bx=>by
   have aD:=l.kf h.1 (by omega) h.2 bx
   rw [Nat.zero_add,bh,ae] at aD
   have aZ:=l.fR
   exact⟨RU h.1 (ah.len bx) (by omega),aD⟩)
class a8 (α:Type) [ah α] [Inhabited α] where
 cells:List Value
 ok:∀ A W,ah.rep A W cells (default:α)
instance:a8 Bool:=⟨[.bool false],fun _ _=>rfl⟩
instance:a8 Int:=⟨[.int .i64 0],fun _ _=>rfl⟩
instance:a8 (BitVec 64):=⟨[.int .u64 0],fun _ _=>rfl⟩
instance:a8 (BitVec 32):=⟨[.int .u32 0],fun _ _=>rfl⟩
instance:a8 (BitVec 16):=⟨[.int .u16 0],fun _ _=>rfl⟩
instance:a8 (BitVec 8):=⟨[.int .u8 0],fun _ _=>rfl⟩
instance:a8 ByteArray:=⟨[.string ByteArray.empty],fun _ _=>rfl⟩
instance {α:Type} [ah α]:a8 (List α):=⟨[.slice none 0 0],fun _ _=>⟨_,rfl,.inl ⟨rfl,rfl⟩⟩⟩
theorem Jb {α:Type} [ah α] {A W} {G7:List Value} {z:α} (h:ah.rep A W G7 z):∀ n,fW A W (List.replicate n G7).flatten (List.replicate n z)
 | 0=>⟨by simp,fun i au=>by simp at au⟩
 | n + 1=>by
   have aa:=Jb h n
   have ae:fW A W G7 [z]:=⟨by simp [ah.len h],fun i au=>by
    have:i=0:=by simpa using au
    subst this
    rw [Nat.zero_mul,List.drop_zero,← ah.len h,List.take_length]; exact h⟩
   have:=qW ae aa
   simpa [List.replicate_succ] using this
instance {α:Type} [ah α] [Inhabited α] [a8 α] {n:Nat} :a8 (Vector α n):=⟨(List.replicate n (a8.cells α)).flatten,fun A W=>by
 have:=Jb (a8.ok (α:=α) A W) n
 show fW A W _ (Vector.replicate n default).toList
 simpa using this⟩
def FH (α:Type) [ah α] [Inhabited α] [a8 α]:Value:=if ah.agg α=true then .agg (a8.cells α).toArray else(a8.cells α).headD undef
theorem cE.of {P:Program} {t:TypeId} {α:Type} [ah α] [Inhabited α] [a8 α] (h:(P.info? t).bind (·.zero)=some (FH α)):cE P t (default:α) where
 zero:=by
  cases au:P.info? t with
  | none=>simp [au] at h
  | some i=>
    refine⟨i,FH α,rfl,by simpa [au] using h,fun A W=> ?_⟩
    have ok:=a8.ok (α:=α) A W
    unfold FH
    cases bn:ah.agg α with
    | true=>simp only [if_true]; exact⟨by simp [shaped,bn],by simpa [Value.cells] using ok⟩
    | false=>
      have aa:=ah.len ok
      rw [ah.flat bn] at aa
      obtain⟨v,a2⟩:=List.length_eq_one_iff.1 aa
      have aD:v.oneCell'=true:=ah.one ok v (by rw [a2]; simp)
      simp only [Bool.false_eq_true,if_false,a2,List.headD_cons]
      exact⟨by simp [shaped,bn,aD],by rw [m7 aD]; rw [a2] at ok; exact ok⟩
theorem bq.of {P:Program} {t:TypeId} {α:Type} [ah α] {d:TypeDesc} (bn:(match d with | .struct _ | .array _ _=>true | _=>false)=ah.agg α) (hu:P.underlying t=some d) (hs:(P.info? t).map (·.size)=some (ah.size α)):bq P t α:=⟨hs,d,hu,bn⟩
theorem b9.of {P:Program} {s f o:Nat} {fB:Array Field} {fd:Field} {γ:Type} [ah γ] (hu:P.underlying s=some (.struct fB)) (ba:fB[f]? =some fd) (bh:fd.offset=o) (dR:bq P fd.type γ) (hs:Nat.beq (ah.size γ) 0=false):b9 P s f o:=by
 obtain⟨i,aa,ae⟩:=dR.info
 exact⟨fB,fd,i,hu,ba,bh,aa,fun h=>by rw [← ae,h] at hs; cases hs⟩
theorem nY.of {P:Program} {t n e s:Nat} {γ:Type} [ah γ] (hu:P.underlying t=some (.array n e)) (dR:bq P e γ) (hs:ah.size γ=s):nY P t n s:=by
 obtain⟨i,aa,ae⟩:=dR.info
 exact⟨e,i,hu,aa,by rw [ae,hs]⟩
theorem bind_some {α β:Type} {m:Option α} {f:α→Option β} {r:β} (h:m.bind f=some r):∃ y,m=some y∧f y=some r:=Option.bind_eq_some_iff.1 h
theorem gI {α:Type} {b:Bool} {p q:Option α} {r:α} (hb:b=true) (h:cond b p q=some r):p=some r:=by rw [hb] at h; exact h
theorem gJ {α:Type} {b:Bool} {p q:Option α} {r:α} (hb:b=false) (h:cond b p q=some r):q=some r:=by rw [hb] at h; exact h
theorem aH {α:Type} {a b:α} (h:some a=some b):a=b:=Option.some.inj h
def cC {α:Type} [Inhabited α] (b want:Bool) (m:Option α):Option α:=if b=want then m else some default
theorem fC {α:Type} [Inhabited α] {b want:Bool} {m:Option α} {y:α} (h:cC b want m=some y) (hb:b=want):m=some y:=by unfold cC at h; rw [if_pos hb] at h; exact h
def eu:Nat:=2 ^ 80
theorem bC.nn {c E L a W} (h:bC c E L a W) (n:Nat):bC c E (L.drop n) a W:=
 h.sub (fun e he=>List.mem_of_mem_drop he) (by
   have:(aN (L.drop n)).Sublist (aN L):=by
    induction L generalizing n with
    | nil=>simp
    | cons x r b0=>
      cases n with
      | zero=>simp
      | succ n=>
        have aU:∀ n,(aN (r.drop n)).Sublist (aN r):=by
         intro n
         have key:∀ (r:List aL) n,(aN (r.drop n)).Sublist (aN r):=by
          intro r
          induction r with
          | nil=>intro n; simp
          | cons y r Mv=>
            intro n
            cases n with
            | zero=>simp
            | succ n=>
              simp only [List.drop_succ_cons]
              cases ax:y.key with
              | none=>simpa [aN,ax] using Mv n
              | some p=>simp only [aN,ax]; exact(Mv n).cons _
         exact key r n
        simp only [List.drop_succ_cons]
        cases ax:x.key with
        | none=>simpa [aN,ax] using aU n
        | some p=>simp only [aN,ax]; exact(aU n).cons _
   exact h.nodup.sublist this)
section
variable {c:cY} {E:List (Nat × I)} {L:List aL} {ops:Array Oper} {Q:Exit→Act→World→Prop}
theorem ag.cC {γ:Type} {x:Operand} {b:Bool} {y z:Code} (E':γ→List (Nat × I)) (L':γ→List aL) (an:a7 c E L x (.of b)) (r3:∀ g,ab c Q .normal (E' g) (L' g))
 (cr:(∀ g,ab c Q .normal (E' g) (L' g))→b=true→ag c Q y E L) (ba:(∀ g,ab c Q .normal (E' g) (L' g))→b=false→ag c Q z E L):ag c Q (.cond x y z) E L:=
 ag.cond an (cr r3) (ba r3)
theorem ab.meet {x:Exit} {E':List (Nat × I)} {L':List aL} (n:Nat) (ao:L.drop n=L') (h:gY E E') (k:ab c Q x E' L'):ab c Q x E L:=fun a W s=>k a W (by rw [← ao]; exact(s.nn n).less h.look)
def v9 {σ ε γ δ:Type} (c:cY) (E:σ→γ→List (Nat × I)) (L:σ→γ→List aL) (xs:ε→Exit) (fu:ε→δ→List (Nat × I)) (Lx:ε→δ→List aL):σ ⊕ ε→Exit→Act→World→Prop
 | .inl s,x,a,W=>x= .normal∧ ∃ g,bC c (E s g) (L s g) a W
 | .inr e,x,a,W=>x≠ .normal∧x=xs e∧ ∃ g,bC c (fu e g) (Lx e g) a W
theorem ab.RV {σ ε γ δ:Type} {E':σ→γ→List (Nat × I)} {L':σ→γ→List aL} {xs:ε→Exit} {fu:ε→δ→List (Nat × I)} {Lx:ε→δ→List aL} {s:σ} (g:γ) (n:Nat)
 (ao:L.drop n=L' s g) (h:gY E (E' s g)):ab c (v9 c E' L' xs fu Lx (.inl s)) .normal E L:=fun a W st=>⟨rfl,g,by rw [← ao]; exact(st.nn n).less h.look⟩
theorem ab.RW {σ ε γ δ:Type} {E':σ→γ→List (Nat × I)} {L':σ→γ→List aL} {xs:ε→Exit} {fu:ε→δ→List (Nat × I)} {Lx:ε→δ→List aL} {e:ε} {x:Exit} (g:δ) (n:Nat)
 (aq:x=xs e) (aP:x≠ .normal) (ao:L.drop n=Lx e g) (h:gY E (fu e g)):ab c (v9 c E' L' xs fu Lx (.inr e)) x E L:=fun a W st=>⟨aP,aq,g,by rw [← ao]; exact(st.nn n).less h.look⟩
theorem ag.sR {σ ε γ δ:Type} {body:Code} {N:Nat} {b:σ→Option (σ ⊕ ε)} {b1:σ} {e:ε} (an:dW N b b1=some e)
 (E':σ→γ→List (Nat × I)) (L':σ→γ→List aL) (xs:ε→Exit) (fu:ε→δ→List (Nat × I)) (Lx:ε→δ→List aL) (g0:γ) (ao:L=L' b1 g0) (aE:gY E (E' b1 g0))
 (p3:∀ s r,b s=some r→ ∀ g,ag c (v9 c E' L' xs fu Lx r) body (E' s g) (L' s g))
 (ng:∀ g,ab c Q (xs e) (fu e g) (Lx e g)):ag c Q (.loop body) E L:=fun a W st=>by
 subst ao
 exact IK b (fun s a W=> ∃ g,bC c (E' s g) (L' s g) a W) (fun e x a W=>x=xs e∧ ∃ g,bC c (fu e g) (Lx e g) a W)
  (fun s r hs a W ⟨g,j9⟩=>wpIn_mono (p3 s r hs g a W j9) (fun x a W h=>by
   cases r with
   | inl bZ=>exact h
   | inr e'=>exact⟨h.1,h.2⟩)) Q e (fun x a W ⟨aq,g,hs⟩=>by subst aq; exact ng g a W hs) an ⟨g0,st.less aE.look⟩
end
end Gv
namespace Gv
open Go
set_option linter.unusedVariables false
set_option linter.unusedSimpArgs false
theorem bY.as {c E L o} {α:Type} [ah α] {a b:α} (h:bY c E L o (.of a)) (e:a=b):bY c E L o (.of b):=by subst e; exact h
def I.th {α β:Type} [ah α] [ah β] (P:Program) (F:α→Option β):I where
 holds A W v:= ∃ f fst cap,v= .func (.func f) fst cap∧bM P f∧ ∀ cQ W',Ext A W cQ W'→ (∀ k∈cQ,k < W'.heap.size)→ ∀ x r oQ,F x=some r→ (I.of x).holds cQ W' oQ→
  Calls P f (fst ++ #[oQ] ++ cap) W' fun e zH=> ∃ v,e= .returned v∧Fr [] W' zH∧ (I.of r).holds cQ zH v
 mono e h:=let⟨f,fst,cap,aa,ae,aD⟩:=h; ⟨f,fst,cap,aa,ae,fun cQ W' e'=>aD cQ W' (e.trans e')⟩
def I.Cl {α β γ:Type} [ah α] [ah β] [ah γ] (P:Program) (F:α→β→Option γ):I where
 holds A W v:= ∃ f fst cap,v= .func (.func f) fst cap∧bM P f∧ ∀ cQ W',Ext A W cQ W'→ (∀ k∈cQ,k < W'.heap.size)→ ∀ x y r oQ CU,F x y=some r→ (I.of x).holds cQ W' oQ→ (I.of y).holds cQ W' CU→
  Calls P f (fst ++ #[oQ,CU] ++ cap) W' fun e zH=> ∃ v,e= .returned v∧Fr [] W' zH∧ (I.of r).holds cQ zH v
 mono e h:=let⟨f,fst,cap,aa,ae,aD⟩:=h; ⟨f,fst,cap,aa,ae,fun cQ W' e'=>aD cQ W' (e.trans e')⟩
section
variable {c:cY} {E:List (Nat × I)} {L:List aL} {d:Option Tmp} {ty:TypeId} {pos:String} {af:Array Edge} {g:Option (Nat × Bool)}
theorem Qs {α β:Type} [ah α] [ah β] {F:α→Option β} {f:FuncId} (dS:bM c.P f) (h:∀ x r,F x=some r→bE c.P f [.of x] (.of r)):a7 c E L (.func f) (.th c.P F):=fun a W s=>
 ⟨f,#[],#[],rfl,dS,fun cQ W' _ fU x r oQ lh aq=>by simpa using h x r lh cQ W' [oQ] fU (.cons aq .nil)⟩
theorem Be {α β:Type} [ah α] [ah β] {F:α→Option β} {mZ x:Operand} {ats:Array TypeId} {Aa:α} {r:β} (ba:a7 c E L mZ (.th c.P F)) (aq:a7 c E L x (.of Aa)) (h:F Aa=some r):
 bY c E L ⟨d,.call ⟨.value mZ,#[x],ats⟩,ty,pos,af,g⟩ (.of r):=fun a W s=>by
 obtain⟨f,fst,cap,aa,dS,ae⟩:=ba a W s
 refine .sv (f:=f) (args:=fst ++ #[a.eval x] ++ cap) (W':=W) ?_ (ae _ W (Ext.refl _ _) s.Bu _ _ _ h (aq a W s))
 simp [execOp,resolve,Deferred.ofValue,aa,invoke,dS.run]
theorem I5 {α β γ:Type} [ah α] [ah β] [ah γ] {F:α→β→Option γ} {mZ x y:Operand} {ats:Array TypeId} {Aa:α} {M5:β} {r:γ} (ba:a7 c E L mZ (.Cl c.P F)) (aq:a7 c E L x (.of Aa)) (a9:a7 c E L y (.of M5)) (h:F Aa M5=some r):
 bY c E L ⟨d,.call ⟨.value mZ,#[x,y],ats⟩,ty,pos,af,g⟩ (.of r):=fun a W s=>by
 obtain⟨f,fst,cap,aa,dS,ae⟩:=ba a W s
 refine .sv (f:=f) (args:=fst ++ #[a.eval x,a.eval y] ++ cap) (W':=W) ?_ (ae _ W (Ext.refl _ _) s.Bu _ _ _ _ _ h (aq a W s) (a9 a W s))
 simp [execOp,resolve,Deferred.ofValue,aa,invoke,dS.run]
end
end Gv
namespace Gv
open Go Go.ChangeShapes Go.WideShapes Go.RowKit
set_option linter.unusedVariables false
structure Arg (P:Program) (t:TypeId) (α:Type) [ah α]:Prop where
 cells:P.cellsOf t=ah.size α
 read:∀ {H:Type} {enc:TypeId × Value→H} {W:World} {n:Nat} {cs:List Value} {x:DataW H × List MemPlace},DataW.trod enc P W 0 (fun _=>true) true n t cs=some x→ ∃ a:α,ah.rep [] W cs a
 form:∀ {W:World} {b:Nat} {v:Value},Value.okWide P W .any b t v→shaped (ah.agg α) v
variable {P:Program} {t e:TypeId}
theorem P6 (hu:P.underlying t=some .bool) {H:Type} {enc:TypeId × Value→H} {W:World} {n:Nat} {cs:List Value} {x:DataW H × List MemPlace} (h:DataW.trod enc P W 0 (fun _=>true) true n t cs=some x):
 ∃ b:Bool,cs= [.bool b]:=by
 cases n with
 | zero=>simp [DataW.trod] at h
 | succ n=>
   unfold DataW.trod at h
   rw [hu] at h
   split at h <;> first | exact⟨_,rfl⟩ | (simp at h)
   all_goals simp_all
theorem Arg.bool (hu:P.underlying t=some .bool) (ar:P.cellsOf t=1):Arg P t Bool where
 cells:=ar
 read {H enc W n cs x} h:=by
  obtain⟨b,rfl⟩:=P6 hu h
  exact⟨b,rfl⟩
 form {W b v} h:=by
  unfold Value.okWide Cell.okWide at h
  simp only [hu] at h
  unfold Cell.ok at h
  rw [hu] at h
  cases v <;> first | rfl | simp at h
theorem xP {k:IntKind} (hu:P.underlying t=some (.int k)) {H:Type} {enc:TypeId × Value→H} {W:World} {n:Nat} {cs:List Value} {x:DataW H × List MemPlace} (h:DataW.trod enc P W 0 (fun _=>true) true n t cs=some x):
 ∃ z:Int,cs= [.int k z]∧k.min≤z∧z≤k.max:=by
 cases n with
 | zero=>simp [DataW.trod] at h
 | succ n=>
   unfold DataW.trod at h
   rw [hu] at h
   split at h <;> simp_all [Lit.wf]
theorem xQ {k:IntKind} (hu:P.underlying t=some (.int k)) {W:World} {b:Nat} {v:Value} (h:Value.okWide P W .any b t v):v.oneCell'=true:=by
 unfold Value.okWide Cell.okWide at h
 simp only [hu] at h
 unfold Cell.ok at h
 rw [hu] at h
 cases v <;> first | rfl | simp at h
theorem Arg.int (hu:P.underlying t=some (.int .i64)) (ar:P.cellsOf t=1):Arg P t Int where
 cells:=ar
 read h:=by obtain⟨z,rfl,_⟩:=xP hu h; exact⟨z,rfl⟩
 form h:=xQ hu h
theorem Arg.u64 (hu:P.underlying t=some (.int .u64)) (ar:P.cellsOf t=1):Arg P t (BitVec 64) where
 cells:=ar
 read h:=by
  obtain⟨z,rfl,aa,ae⟩:=xP hu h
  simp [IntKind.min,IntKind.max,IntKind.signed,IntKind.bits] at aa ae
  exact⟨BitVec.ofInt 64 z,by show [_]= [_]; simp; omega⟩
 form h:=xQ hu h
theorem Arg.u32 (hu:P.underlying t=some (.int .u32)) (ar:P.cellsOf t=1):Arg P t (BitVec 32) where
 cells:=ar
 read h:=by
  obtain⟨z,rfl,aa,ae⟩:=xP hu h
  simp [IntKind.min,IntKind.max,IntKind.signed,IntKind.bits] at aa ae
  exact⟨BitVec.ofInt 32 z,by show [_]= [_]; simp; omega⟩
 form h:=xQ hu h
theorem Arg.u16 (hu:P.underlying t=some (.int .u16)) (ar:P.cellsOf t=1):Arg P t (BitVec 16) where
 cells:=ar
 read h:=by
  obtain⟨z,rfl,aa,ae⟩:=xP hu h
  simp [IntKind.min,IntKind.max,IntKind.signed,IntKind.bits] at aa ae
  exact⟨BitVec.ofInt 16 z,by show [_]= [_]; simp; omega⟩
 form h:=xQ hu h
theorem Arg.u8 (hu:P.underlying t=some (.int .u8)) (ar:P.cellsOf t=1):Arg P t (BitVec 8) where
 cells:=ar
 read h:=by
  obtain⟨z,rfl,aa,ae⟩:=xP hu h
  simp [IntKind.min,IntKind.max,IntKind.signed,IntKind.bits] at aa ae
  exact⟨BitVec.ofInt 8 z,by show [_]= [_]; simp; omega⟩
 form h:=xQ hu h
theorem Jc (hs:(∃ fB,P.underlying t=some (.struct fB))∨ (∃ n e,P.underlying t=some (.array n e))) {W:World} {b:Nat} {v:Value} (h:Value.okWide P W .any b t v):shaped true v:=by
 unfold Value.okWide at h
 rcases hs with⟨fB,hu⟩ | ⟨n,e,hu⟩ <;> rw [hu] at h <;> exact⟨h.choose,h.choose_spec.1⟩
theorem Arg.arr {α:Type} [ah α] [Inhabited α] {n:Nat} (hu:P.underlying t=some (.array n e)) (he:Arg P e α) (ar:P.cellsOf t=n * ah.size α):Arg P t (Vector α n) where
 cells:=ar
 read {H enc W m cs x} h:=by
  obtain⟨xs,q,_,_,an,hlen,ba⟩:=DataW.trod_array hu h
  have aU:∀ i,i < n→ ∃ a:α,ah.rep [] W ((cs.drop (i * ah.size α)).take (ah.size α)) a:=by
   intro i au
   have aa:=ba i au
   rw [List.getElem?_eq_getElem (by omega)] at aa
   rw [← he.cells]
   exact he.read aa
  refine⟨Vector.ofFn fun i=>(aU i.1 i.2).choose,by rw [an,ar]; simp,fun i au=> ?_⟩
  have jl:i < n:=by simpa using au
  have:=(aU i jl).choose_spec
  simpa using this
 form h:=Jc (.inr ⟨_,_,hu⟩) h
theorem Jd {H:Type} {enc:TypeId × Value→H} {W:World} {n:Nat} {cs:List Value} {α:Type} [ah α] {fB:Array Field} {xs:List (DataW H × List MemPlace)} {f:Field} (i:Nat) (bn:Arg P f.type α) (au:fB[i]? =some f) (hlen:xs.length=fB.size)
 (ba:∀ (i:Nat) (f:Field),fB[i]? =some f→DataW.trod enc P W 0 (fun _=>true) true n f.type ((cs.drop f.offset).take (P.cellsOf f.type))=xs[i]?):∃ a:α,ah.rep [] W ((cs.drop f.offset).take (ah.size α)) a:=by
 have aa:=ba i f au
 rw [List.getElem?_eq_getElem (by have:=(Array.getElem?_eq_some_iff.1 au).1; omega)] at aa
 rw [← bn.cells]
 exact bn.read aa
theorem IP {H:Type} {enc:TypeId × Value→H} {W W':World} (an:laidOutB P=true) {sp:Nat→Bool} :∀ {gQ:List TypeId} {vs:List Value} {ds:List (DataW H)} {bf:List MemPlace},
 (∀ t∈gQ,P.readableRec t=true∧t < P.types.size)→DataW.TrodAll enc P W 0 (fun _=>true) true gQ vs ds bf→ (∀ p∈bf,W.sameAt W' p)→ (∀ p∈bf,sp p.block=true)→DataW.TrodAll enc P W' 0 sp true gQ vs ds bf
 | [],_,_,_,_,h,_,_=>by
   obtain⟨rfl,rfl,rfl⟩:=trodAll_nil h
   exact rfl
 | _ :: _,_,_,_,cr,h,hs,hp=>by
   obtain⟨v,Gb,d,Gc,p,q,rfl,rfl,rfl,aa,ae⟩:=trodAll_cons h
   have bT:=cr _ (List.mem_cons_self ..)
   exact⟨p,q,WideElems.Trod_stays an bT.1 bT.2 aa (fun x aq=>hs x (by simp [aq])) (fun x aq=>hp x (by simp [aq])),
    IP an (fun t zz=>cr t (List.mem_cons_of_mem _ zz)) ae (fun x aq=>hs x (by simp [aq])) (fun x aq=>hp x (by simp [aq])),rfl⟩
theorem Fr.below {W W':World} (h:Fr [] W W'):Below W.heap.size W W':=⟨h.os,h.tape,h.output,h.size,fun k ax=>h.block k ax (by simp)⟩
theorem QA {H:Type} {enc:TypeId × Value→H} {f:Func} {s:ChangeSpec} {W W':World} {args:Array Value} {ds gs:List (DataW H)} {before:List MemPlace} {eb:TypeId}
 (an:laidOutB P=true) (hp:∀ t∈f.params.toList,P.readableRec t=true∧t < P.types.size) (aU:f.resultTypes= #[eb]) (hb:P.underlying eb=some .bool) (a2:s.vars= [])
 (hs:s.fn H ds= { results:= [.lit (.bool true)],args:=ds })
 (wm:DataW.Whole enc P f.params.toList s.vars false W args.toList ds gs before) (lh:Fr [] W W'):
 s.post enc P f false true false false W args (.bool true) W':=by
 have VN:=wm
 obtain⟨p,q,fU,G8,rfl,eS,aP⟩:=VN
 rw [a2] at G8
 obtain⟨rfl,rfl⟩:=trodVars_none G8
 have cl:∀ x∈p,x.block < W.heap.size:=fun x aq=>wm.lt x (by simpa using aq)
 have zI:=lh.below
 have Tx:∀ x∈p,W.sameAt W' x:=fun x aq=>zI.same (cl x aq)
 have U0:∀ (b:Nat) (sp:Nat→Bool) (hd:Bool),DataW.TrodAll enc P W' b sp hd f.resultTypes.toList ((Value.bool true).resultList f.resultTypes.size) [.lit (.bool true)] []:=by
  intro b sp hd
  rw [aU]
  exact⟨[],[],shut_bool hb true,rfl,rfl⟩
 refine⟨ds,[],p ++ [],[],p,[],wm,?_,?_,?_,World.keptBut_mono (fun x aq=> ?_) (zI.frame fun _=>False),fun h=>by cases h⟩
 ·rw [List.append_nil,hs]; exact U0 _ _ _
 ·rw [List.append_nil,hs]; exact IP an hp fU Tx (fun x aq=>by simpa using cl x aq)
 ·rw [List.append_nil,hs,a2]; rfl
 ·exact aq.elim
end Gv
namespace Gv
open Go Go.ChangeShapes Go.WideShapes Go.RowKit
set_option linter.unusedVariables false
set_option linter.unusedSimpArgs false
theorem QB {P:Program} {fits:TypeId→Bool} {d:Nat} {e:TypeId} {count off n:Nat} (h:rowAt P fits d e count off n=true):off≤count * P.cellsOf e:=by
 cases d with
 | zero=>cases h
 | succ d=>
   unfold rowAt at h
   simp only at h
   split at h
   ·cases h
   ·rename_i hs
    have hp:0 < P.cellsOf e:=Nat.pos_of_ne_zero hs
    have Xd:=Nat.div_add_mod off (P.cellsOf e)
    rw [Bool.or_eq_true] at h
    rcases h with h | h
    ·simp only [Bool.and_eq_true,beq_iff_eq,decide_eq_true_eq] at h
     have:P.cellsOf e * (off / P.cellsOf e)≤P.cellsOf e * count:=Nat.mul_le_mul_left _ (by omega)
     rw [Nat.mul_comm count]; omega
    ·simp only [Bool.and_eq_true,decide_eq_true_eq] at h
     have hm:=Nat.mod_lt off hp
     have:P.cellsOf e * (off / P.cellsOf e + 1)≤P.cellsOf e * count:=Nat.mul_le_mul_left _ (by omega)
     rw [Nat.mul_add] at this
     rw [Nat.mul_comm count]; omega
theorem IQ {P:Program} :∀ {d:Nat} {e:TypeId} {count off:Nat} {u:TypeId} {n:Nat},liesAt P d e count off u n=true→off≤count * P.cellsOf e
 | 0,_,_,_,_,_,h=>by cases h
 | d + 1,e,count,off,u,n,h=>by
   unfold liesAt at h
   rw [Bool.or_eq_true] at h
   rcases h with h | h
   ·exact QB h
   ·split at h
    ·exact IQ h
    ·cases h
structure pj (P:Program) (t:TypeId) (α:Type) [ah α]:Prop where
 top:∀ {H:Type} {enc:TypeId × Value→H} {W:World} {n b:Nat} {v:Value} {x:DataW H × List MemPlace},DataW.trod enc P W 0 (fun _=>true) true n t v.cells.toList=some x→Value.okWide P W .any b t v→ ∃ a:α,(I.of a).holds [] W v
variable {P:Program} {t e:TypeId}
theorem pj.of {α:Type} [ah α] (h:Arg P t α):pj P t α where
 top aa ae:=let⟨a,aD⟩:=h.read aa; ⟨a,h.form ae,aD⟩
theorem QC {α:Type} [ah α] (hu:P.underlying t=some (.slice e)) (he:Arg P e α) (eS:Nat.beq (ah.size α) 0=false) {H:Type} {enc:TypeId × Value→H} {W:World} {n b:Nat} {v:Value} {x:DataW H × List MemPlace}
 (h:DataW.trod enc P W 0 (fun _=>true) true n t [v]=some x) (hy:Cell.okWide P W .any b t v):∃ a:List α,(I.of a).holds [] W v:=by
 have jJ:ah.size α≠0:=fun h=>by rw [h] at eS; cases eS
 rcases DataW.trod_slice hu h with⟨aa,_⟩ | ⟨a,len,cap,elems,rest,m,_,aa,_,_,Xe,vY,Xf,U1,WZ,_⟩
 ·have:=List.singleton_inj.1 aa
  subst this
  exact⟨[],lQ.2 (.inl ⟨rfl,rfl⟩)⟩
 ·have:=List.singleton_inj.1 aa
  subst this
  unfold Cell.okWide at hy
  simp only [hu] at hy
  unfold Cell.ok at hy
  rw [hu] at hy
  obtain⟨_,_,_,Lg,row,cells,wa,U2⟩:=hy
  obtain⟨M6,qI,Xg⟩:=a
  simp only at Lg
  subst Lg
  unfold World.shape? at wa
  cases dZ:W.heap[M6]? with
  | none=>rw [dZ] at wa; cases wa
  | some ja=>
    rw [dZ] at wa
    cases ja <;> simp at wa
    rename_i rO T gq
    obtain⟨CV,eK⟩:=wa
    have W3:qI≤rO.size:=by
     have a6:qI≤_:=IQ U2
     have bl:=Nat.div_mul_le_self cells (P.cellsOf row)
     omega
    have Ty:=he.cells
    have fw:∀ i,i < len→ ∃ a:α,ah.rep [] W ((rO.toList.drop (qI + i * ah.size α)).take (ah.size α)) a∧qI + (i + 1) * ah.size α≤rO.size:=fun i au=>by
     have a6:=U1 i au
     rw [List.getElem?_eq_getElem (by omega)] at a6
     obtain⟨dA,bl,cZ⟩:=Option.bind_eq_some_iff.1 a6
     obtain⟨_,an,ar⟩:=World.cells?_some bl
     rw [Ty] at an ar bl
     have p4:∀ j,j < ah.size α→rO[qI + i * ah.size α + j]? =dA[j]? :=fun j aG=>by
      rw [← ar j aG,iN,iN]
      unfold World.cell?
      simp [dZ]
     have heq:(rO.toList.drop (qI + i * ah.size α)).take (ah.size α)=dA:=by
      apply List.ext_getElem?
      intro j
      rw [List.getElem?_take]
      by_cases aG:j < ah.size α
      ·rw [if_pos aG,List.getElem?_drop,Array.getElem?_toList]; exact p4 j aG
      ·rw [if_neg aG]; symm; exact List.getElem?_eq_none (by omega)
     obtain⟨a,bn⟩:=he.read cZ
     refine⟨a,by rw [heq]; exact bn,?_⟩
     have eN:=p4 (ah.size α - 1) (by omega)
     rw [List.getElem?_eq_getElem (show ah.size α - 1 < dA.length by omega)] at eN
     have:=(Array.getElem?_eq_some_iff.1 eN).1
     rw [Nat.add_mul]; omega
    have hex:∃ xs:List α,xs.length=len∧ ∀ i (h:i < xs.length),ah.rep [] W ((rO.toList.drop (qI + i * ah.size α)).take (ah.size α)) xs[i]:=by
     refine⟨List.ofFn fun i:Fin len=>(fw i.1 i.2).choose,by simp,fun i au=> ?_⟩
     have jl:i < len:=by simpa using au
     rw [List.getElem_ofFn]
     exact(fw i jl).choose_spec.1
    obtain⟨xs,zF,VO⟩:=hex
    have hbound:qI + xs.length * ah.size α≤rO.size:=by
     rw [zF]
     rcases Nat.eq_zero_or_pos len with bT | bT
     ·rw [bT]; omega
     ·have:=(fw (len - 1) (by omega)).choose_spec.2
      rw [show len - 1 + 1=len by omega] at this
      exact this
    refine⟨xs,lQ.2 (.inr ⟨M6,qI,cap,rO,T,gq,by rw [zF],by simp,dZ,by omega,by omega,hbound,?_,fun i au=> ?_⟩)⟩
    ·rw [List.length_take,List.length_drop]; simp; omega
    ·have hle:(i + 1) * ah.size α≤xs.length * ah.size α:=Nat.mul_le_mul_right _ au
     rw [Nat.succ_mul] at hle
     rw [si _ _ _ _ _ hle]
     exact VO i au
theorem pj.Mw {α:Type} [ah α] (hu:P.underlying t=some (.slice e)) (he:Arg P e α) (eS:Nat.beq (ah.size α) 0=false):pj P t (List α) where
 top {H enc W n b v x} h hy:=by
  have vM:Cell.okWide P W .any b t v:=by
   unfold Value.okWide at hy
   simp only [hu] at hy
   exact hy
  have U3:v.oneCell'=true:=by
   unfold Cell.okWide at vM
   simp only [hu] at vM
   unfold Cell.ok at vM
   rw [hu] at vM
   cases v <;> first | rfl | simp at vM
  rw [m7 U3] at h
  exact QC hu he eS h vM
theorem A7 {H:Type} {enc:TypeId × Value→H} {W:World} {gQ:List TypeId} {vs:List Value} {ds:List (DataW H)} {bf:List MemPlace} {α:Type} [ah α] {b:Nat} (bn:pj P t α)
 (h:DataW.TrodAll enc P W 0 (fun _=>true) true (t :: gQ) vs ds bf) (hy:∀ (j:Nat) u v,(t :: gQ)[j]? =some u→vs[j]? =some v→Value.okWide P W .any b u v):
 ∃ (a:α) (v:Value) (Gd:List Value) (Mx:List (DataW H)) (mb:List MemPlace) (d:DataW H),vs=v :: Gd∧ds=d :: Mx∧ (I.of a).holds [] W v∧DataW.TrodAll enc P W 0 (fun _=>true) true gQ Gd Mx mb∧
   (∀ (j:Nat) u w,gQ[j]? =some u→Gd[j]? =some w→Value.okWide P W .any b u w):=by
 obtain⟨v,Gb,d,Gc,p,q,rfl,rfl,rfl,⟨n,aa⟩,ae⟩:=trodAll_cons h
 obtain⟨a,aD⟩:=bn.top aa (hy 0 t v rfl rfl)
 exact⟨a,v,Gb,Gc,q,d,rfl,rfl,aD,ae,fun j u w aG hw=>hy (j + 1) u w (by simpa using aG) (by simpa using hw)⟩
end Gv
namespace Gv
open Go
set_option linter.unusedVariables false
set_option linter.unusedSimpArgs false
theorem Pw {L' L:List aL} (h:L'.Sublist L):(aN L').Sublist (aN L):=by
 induction h with
 | slnil=>simp [aN]
 | cons e _ b0=>cases ax:e.key <;> simp only [aN,ax] <;> first | exact b0 | exact b0.cons _
 | cons_cons e _ b0=>cases ax:e.key <;> simp only [aN,ax] <;> first | exact b0 | exact b0.cons_cons _
theorem aL.q8 {e:aL} {A cQ W W'} (h:e.ok A W) (x:Ext A W cQ W') (hb:∀ p,e.key=some p→W'.heap[p]? =W.heap[p]?):e.ok cQ W':=by
 unfold aL.ok at *
 cases ax:e.key with
 | none=>rw [ax] at h; exact h
 | some p=>
   rw [ax] at h
   obtain⟨o,aa,ae⟩:=h
   exact⟨o,by rw [hb p ax]; exact aa,dx.mono _ x ae⟩
def jh (X bP:List Nat) (hY:World) {δ:Type} (ρ:δ→I) (Lo:δ→List aL):Ending→World→Prop:=fun e W'=>
 ∃ v d,e= .returned v∧Fr X hY W'∧ (aN (Lo d)).Nodup∧ (∀ k∈aN (Lo d),k < W'.heap.size∧ (k < hY.heap.size→k∈X)∧k ∉ bP)∧ (∀ e∈Lo d,e.ok (aN (Lo d) ++ bP) W')∧ (ρ d).holds (aN (Lo d) ++ bP) W' v
def cf (P:Program) (f:FuncId) (τs:List I) (Lin:List aL) {δ:Type} (ρ:δ→I) (Lo:δ→List aL):Prop:=
 ∀ (A:List Nat) (W:World) (vs:List Value),(∀ k∈A,k < W.heap.size∧k ∉ aN Lin)→ (aN Lin).Nodup→ (∀ k∈aN Lin,k < W.heap.size)→ (∀ e∈Lin,e.ok (aN Lin ++ A) W)→fV (aN Lin ++ A) W τs vs→
   Calls P f vs.toArray W (jh (aN Lin) A W ρ Lo)
theorem cf.of {P:Program} {f:FuncId} {fn:Func} {code:Code} {n:Nat} {τs:List I} {Lin:List aL} {δ:Type} {ρ:δ→I} {Lo:δ→List aL} (ba:P.funcs[f]? =some fn) (hb:fn.body=some code) (aP:fn.ntmps=n) (hlen:Nat.ble τs.length n=true)
 (h:∀ W A,ag ⟨P,n,W,aN Lin,A,none,[]⟩ (bodyPost P fn (jh (aN Lin) A W ρ Lo)) code (params 0 τs) Lin):cf P f τs Lin ρ Lo:=by
 intro A W vs fU ij cl hy a2
 refine calls_of_wp ba hb (wpIn_wide.1 (h W A _ _ ?_))
 have an:=a2.length
 have hle:τs.length≤n:=Nat.le_of_ble_eq_true hlen
 exact
 {defers:=rfl
  size:=by simp [aP,an]; omega
  env:=fun t τ kM=>by
   obtain⟨_,v,ae,aD⟩:=sm a2 0 t τ kM
   refine⟨v,?_,aD⟩
   have cl:t < vs.length:=(List.getElem?_eq_some_iff.1 ae).1
   rw [Array.getElem?_append_left (by simpa using cl)]
   simpa using ae
  dm:= .refl _ _
  own:=hy
  nodup:=ij
  lt:=cl
  fI:=fun k ax _=>ax
  eB:=fU }
section
variable {c:cY} {E:List (Nat × I)} {L:List aL} {ops:Array Oper} {Q:Exit→Act→World→Prop}
variable {d:Option Tmp} {ty:TypeId} {pos:String} {af:Array Edge} {g:Option (Nat × Bool)} {x y:Operand} {t t2:TypeId}
def rP (c:cY) (E:List (Nat × I)) (L:List aL) (r:ResultVar) (τ:I):Prop:=
 ∀ a W,bC c E L a W→ ∃ v,(sI a.tmps r).run c.P W= .ok v W∧τ.holds (aN L ++ c.bP) W v
theorem dV {t:Nat} {τ:I} (h:look E t=some τ):rP c E L (.tmp t) τ:=fun a W s=>by
 obtain⟨v,aa,ae⟩:=s.env t τ h
 exact⟨v,by simp [sI,aa],ae⟩
theorem jy {t:Nat} {ty:TypeId} {i p:Nat} {α:Type} [ah α] {x:α} (dR:bq c.P ty α) (h:look E t=some (.eq (.pointer (some ⟨p,0,none⟩)))) (ao:L[i]? =some ⟨some p,.var x⟩):rP c E L (.cell t ty) (.of x):=fun a W s=>by
 obtain⟨v,aa,ae⟩:=s.env t _ h
 subst ae
 obtain⟨ja,dZ,cs,T,rfl,fw⟩:=s.own _ (List.mem_of_getElem? ao)
 have an:cs.toList.length=ah.size α:=ah.len fw
 have eK:cs.size=ah.size α:=by simpa using an
 obtain⟨v,aD,aZ⟩:=se (A:=aN L ++ c.bP) (off:=0) dR dZ (by omega) (by rw [List.drop_zero,← an,List.take_length]; exact fw)
 exact⟨v,by simp [sI,aa,asAddr,aD],aZ⟩
theorem bC.ends {a:Act} {W:World} (s:bC c E L a W) {δ:Type} {ρ:δ→I} {Lo:δ→List aL} (a4:δ) (hs:(Lo a4).Sublist L) {v:Value} (a2:(ρ a4).holds (aN L ++ c.bP) W v):jh c.X c.bP c.hY ρ Lo (.returned v) W:=by
 have k2:=Pw hs
 have ax:∀ k∈aN (Lo a4),k∈aN L:=fun k ax=>k2.subset ax
 have gC:Ext (aN L ++ c.bP) W (aN (Lo a4) ++ c.bP) W:= .drop fun k hm=>by
  rcases List.mem_append.1 hm with hm | hm
  ·exact List.mem_append.2 (.inl (ax k hm))
  ·exact List.mem_append.2 (.inr hm)
 exact⟨v,a4,rfl,s.dm,s.nodup.sublist k2,fun k hm=>⟨s.lt k (ax k hm),s.fI k (ax k hm),fun bn=>(s.eB k bn).2 (ax k hm)⟩,
  fun e he=>aL.q8 (s.own e (hs.subset he)) gC fun _ _=>rfl,I.mono _ gC a2⟩
theorem ab.gv {fn:Func} {r:ResultVar} {τ:I} {δ:Type} {ρ:δ→I} {Lo:δ→List aL} (a4:δ) (hs:(Lo a4).Sublist L) (aU:fn.results= #[r]) (qv:ρ a4=τ) (h:rP c E L r τ) (ht:c.ds= []:=by rfl):ab c (bodyPost c.P fn (jh c.X c.bP c.hY ρ Lo)) .ret E L:=fun a W s=>by
 subst qv
 obtain⟨v,aa,ae⟩:=h a W s
 exact⟨s.su ht,v,by simp [so,aU,aa],s.ends a4 hs ae⟩
theorem ab.kF {fn:Func} {r ia:ResultVar} {τ mV:I} {δ:Type} {ρ:δ→I} {Lo:δ→List aL} (a4:δ) (hs:(Lo a4).Sublist L) (aU:fn.results= #[r,ia]) (qv:ρ a4= .cG [τ,mV]) (h:rP c E L r τ) (ae:rP c E L ia mV) (ht:c.ds= []:=by rfl):ab c (bodyPost c.P fn (jh c.X c.bP c.hY ρ Lo)) .ret E L:=fun a W s=>by
 obtain⟨v,aD,aZ⟩:=h a W s
 obtain⟨v2,a6,bl⟩:=ae a W s
 exact⟨s.su ht,.tuple #[v,v2],by simp [so,aU,aD,a6],s.ends a4 hs (by rw [qv]; exact⟨_,rfl,.cons aZ (.cons bl .nil)⟩)⟩
theorem ab.E7 {fn:Func} {r ia pC:ResultVar} {τ mV zC:I} {δ:Type} {ρ:δ→I} {Lo:δ→List aL} (a4:δ) (hs:(Lo a4).Sublist L) (aU:fn.results= #[r,ia,pC]) (qv:ρ a4= .cG [τ,mV,zC]) (h:rP c E L r τ) (ae:rP c E L ia mV) (aD:rP c E L pC zC) (ht:c.ds= []:=by rfl):ab c (bodyPost c.P fn (jh c.X c.bP c.hY ρ Lo)) .ret E L:=fun a W s=>by
 obtain⟨v,av,f1⟩:=h a W s
 obtain⟨v2,aX,f2⟩:=ae a W s
 obtain⟨wk,dk,f3⟩:=aD a W s
 exact⟨s.su ht,.tuple #[v,v2,wk],by simp [so,aU,av,aX,dk],s.ends a4 hs (by rw [qv]; exact⟨_,rfl,.cons f1 (.cons f2 (.cons f3 .nil))⟩)⟩
theorem qX:∀ {L:List aL} {i:Nat} {e:aL},L[i]? =some e→L.Perm (e :: L.eraseIdx i)
 | [],i,e,h=>by simp at h
 | x :: r,0,e,h=>by simp only [List.getElem?_cons_zero,Option.some.injEq] at h; subst h; exact .refl _
 | x :: r,i + 1,e,h=>by
   simp only [List.getElem?_cons_succ] at h
   exact((qX h).cons x).trans (.swap e x _)
theorem bC.bI {a:Act} {W:World} (s:bC c E L a W) {i:Nat} {e:aL} (h:L[i]? =some e):bC c E (e :: L.eraseIdx i) a W:=s.perm (qX h)
theorem ai.bI {l:List Oper} (i:Nat) {e:aL} (h:L[i]? =some e) (k:ai c ops Q l E (e :: L.eraseIdx i)):ai c ops Q l E L:=fun a W s=>k a W (s.bI h)
theorem ab.bI {z:Exit} (i:Nat) {e:aL} (h:L[i]? =some e) (k:ab c Q z E (e :: L.eraseIdx i)):ab c Q z E L:=fun a W s=>k a W (s.bI h)
theorem bC.after {a:Act} {W W':World} {Lin Lr:List aL} (s:bC c E (Lin ++ Lr) a W) {Lo:List aL} (ba:Fr (aN Lin) W W') (ij:(aN Lo).Nodup)
 (ax:∀ k∈aN Lo,k < W'.heap.size∧ (k < W.heap.size→k∈aN Lin)∧k ∉ aN Lr ++ c.bP) (hy:∀ e∈Lo,e.ok (aN Lo ++ (aN Lr ++ c.bP)) W'):bC c E (Lo ++ Lr) a W':=by
 have gC:Ext (aN (Lin ++ Lr) ++ c.bP) W (aN (Lo ++ Lr) ++ c.bP) W':=
  ⟨ba.size,fun k cl bn=>ba.block k cl fun hm=>bn (by rw [eH]; simp [hm]),fun k hm cl=>by
   rw [eH] at hm ⊢
   simp only [List.mem_append] at hm ⊢
   rcases hm with(hm | hm) | hm
   ·exact .inl (.inl ((ax k hm).2.1 cl))
   ·exact .inl (.inr hm)
   ·exact .inr hm⟩
 have k3:=s.nodup
 rw [eH] at k3
 obtain⟨mc,px,oI⟩:=List.nodup_append.1 k3
 have My:∀ k∈aN Lr,k < W.heap.size∧k ∉ aN Lin:=fun k hm=>⟨s.lt k (by rw [eH]; exact List.mem_append.2 (.inr hm)),fun h=>oI k h k hm rfl⟩
 exact
 {defers:=s.defers
  size:=s.size
  env:=fun t τ an=>let⟨v,aa,ae⟩:=s.env t τ an; ⟨v,aa,τ.mono gC ae⟩
  dm:=⟨ba.os.trans s.dm.os,ba.tape.trans s.dm.tape,ba.output.trans s.dm.output,Nat.le_trans s.dm.size ba.size,fun k cl aq=>
   (ba.block k (Nat.lt_of_lt_of_le cl s.dm.size) fun hm=>aq (s.fI k (by rw [eH]; exact List.mem_append.2 (.inl hm)) cl)).trans (s.dm.block k cl aq)⟩
  own:=fun e he=>by
   rcases List.mem_append.1 he with he | he
   ·have:=hy e he
    refine aL.q8 this (.drop fun k hm=> ?_) fun _ _=>rfl
    rw [eH] at hm
    simp only [List.mem_append] at hm ⊢
    rcases hm with(hm | hm) | hm
    ·exact .inl hm
    ·exact .inr (.inl hm)
    ·exact .inr (.inr hm)
   ·exact aL.q8 (s.own e (List.mem_append.2 (.inr he))) gC fun p hp=>by
     have:=My p (kh.2 ⟨e,he,hp⟩)
     exact ba.block p this.1 this.2
  nodup:=by
   rw [eH]
   exact List.nodup_append.2 ⟨ij,px,fun k aa j ae e=>by subst e; exact(ax k aa).2.2 (List.mem_append.2 (.inl ae))⟩
  lt:=fun k hm=>by
   rw [eH] at hm
   rcases List.mem_append.1 hm with hm | hm
   ·exact(ax k hm).1
   ·exact Nat.lt_of_lt_of_le (My k hm).1 ba.size
  fI:=fun k hm bT=>by
   rw [eH] at hm
   have cl:k < W.heap.size:=Nat.lt_of_lt_of_le bT s.dm.size
   rcases List.mem_append.1 hm with hm | hm
   ·exact s.fI k (by rw [eH]; exact List.mem_append.2 (.inl ((ax k hm).2.1 cl))) bT
   ·exact s.fI k (by rw [eH]; exact List.mem_append.2 (.inr hm)) bT
  eB:=fun k hm=>by
   obtain⟨aa,ae⟩:=s.eB k hm
   refine⟨Nat.lt_of_lt_of_le aa ba.size,fun h=> ?_⟩
   rw [eH] at h ae
   rcases List.mem_append.1 h with h | h
   ·exact(ax k h).2.2 (List.mem_append.2 (.inr hm))
   ·exact ae (List.mem_append.2 (.inr h)) }
theorem g1.Km {xs:List Operand} {τs:List I} (h:g1 c E L xs τs) {a:Act} {W:World} (s:bC c E L a W):fV (aN L ++ c.bP) W τs (xs.map a.eval):=h.holds a W s
theorem xG {a:Act} {W:World} {f:FuncId} {xs:List Operand} {ats:Array TypeId} {τs:List I} {Lin Lr:List aL} {δ:Type} {ρ:δ→I} {Lo:δ→List aL} (dS:bM c.P f) (h:cf c.P f τs Lin ρ Lo)
 (s:bC c E (Lin ++ Lr) a W) (aq:fV (aN (Lin ++ Lr) ++ c.bP) W τs (xs.map a.eval)):
 gh c.P ⟨d,.call ⟨.value (.func f),xs.toArray,ats⟩,ty,pos,af,g⟩ a W fun v W'=> ∃ a4,bC c E (Lo a4 ++ Lr) a W'∧ (ρ a4).holds (aN (Lo a4 ++ Lr) ++ c.bP) W' v:=by
 have k3:=s.nodup
 rw [eH] at k3
 obtain⟨mc,px,oI⟩:=List.nodup_append.1 k3
 have l2:Ext (aN (Lin ++ Lr) ++ c.bP) W (aN Lin ++ (aN Lr ++ c.bP)) W:= .drop fun k hm=>by
  rw [eH]
  simp only [List.mem_append] at hm ⊢
  rcases hm with hm | hm | hm
  ·exact .inl (.inl hm)
  ·exact .inl (.inr hm)
  ·exact .inr hm
 have fU:∀ k∈aN Lr ++ c.bP,k < W.heap.size∧k ∉ aN Lin:=fun k hm=>by
  rcases List.mem_append.1 hm with hm | hm
  ·exact⟨s.lt k (by rw [eH]; exact List.mem_append.2 (.inr hm)),fun h=>oI k h k hm rfl⟩
  ·obtain⟨aa,ae⟩:=s.eB k hm
   exact⟨aa,fun h=>ae (by rw [eH]; exact List.mem_append.2 (.inl h))⟩
 have cl:∀ k∈aN Lin,k < W.heap.size:=fun k hm=>s.lt k (by rw [eH]; exact List.mem_append.2 (.inl hm))
 refine .sv (f:=f) (args:=(xs.map a.eval).toArray) (W':=W) (by simp [execOp,resolve,Deferred.ofValue,Act.eval,invoke,dS.run]) ?_
 refine(h (aN Lr ++ c.bP) W (xs.map a.eval) fU mc cl (fun e he=>aL.q8 (s.own e (List.mem_append.2 (.inl he))) l2 fun _ _=>rfl) (aq.mono l2)).mono fun e W' ⟨v,a4,he,ba,aa,ae,aD,aZ⟩=> ?_
 refine⟨v,he,a4,s.after ba aa ae aD,(ρ a4).mono (.drop fun k hm=> ?_) aZ⟩
 rw [eH] at hm
 simp only [List.mem_append] at hm ⊢
 rcases hm with(hm | hm) | hm
 ·exact .inl hm
 ·exact .inr (.inl hm)
 ·exact .inr (.inr hm)
theorem ai.kZ {rest:List Oper} {a4:Nat} {f:FuncId} {xs:List Operand} {ats:Array TypeId} {τs:List I} {Lin Lr:List aL} {δ:Type} {ρ:δ→I} {Lo:δ→List aL} (dS:bM c.P f) (h:cf c.P f τs Lin ρ Lo)
 (aq:g1 c E (Lin ++ Lr) xs τs) (aP:Nat.blt a4 c.n=true) (k:∀ q,ai c ops Q rest ((a4,ρ q) :: E) (Lo q ++ Lr)):
 ai c ops Q (⟨some a4,.call ⟨.value (.func f),xs.toArray,ats⟩,ty,pos,af,none⟩ :: rest) E (Lin ++ Lr):=fun a W s=>
 hI rfl (xG dS h s (aq.holds a W s)) fun v W' ⟨q,bZ,a2⟩=>k q _ _ (bZ.put (by simpa using aP) a2)
end
end Gv
namespace Gv
open Go
set_option linter.unusedVariables false
set_option linter.unusedSimpArgs false
def iB {α:Type} (xs:List α) (k:Nat) (v:α):List α:=xs.set k v
section
variable {c:cY} {E:List (Nat × I)} {L:List aL} {ops:Array Oper} {Q:Exit→Act→World→Prop}
variable {d:Option Tmp} {ty:TypeId} {pos:String} {af:Array Edge} {g:Option (Nat × Bool)} {x y:Operand} {t t2:TypeId}
theorem bC.rowAt {a:Act} {W:World} (s:bC c E L a W) {i:Nat} {key:Option Nat} {T cap:Nat} {α:Type} [ah α] {xs:List α} (ao:L[i]? =some ⟨key,.row T xs cap⟩) (aq:0 < xs.length):
 ∃ p cs,key=some p∧W.heap[p]? =some (.cells cs T (0,0))∧cs.size=cap * ah.size α∧xs.length≤cap∧cap≤maxLen∧fW (aN L ++ c.bP) W (cs.toList.take (xs.length * ah.size α)) xs:=by
 have bh:=s.own _ (List.mem_of_getElem? ao)
 cases key with
 | none=>have:xs= []:=bh.1; subst this; simp at aq
 | some p=>
   obtain⟨o,dZ,cs,rfl,aa,ae,aD,aZ⟩:=bh
   exact⟨p,cs,rfl,dZ,aa,ae,aD,aZ⟩
theorem rq {e i k T cap:Nat} {key:Option Nat} {α:Type} [ah α] {xs:List α} {z:Int} (hu:c.P.underlying t=some (.slice e)) (fh:bq c.P e α) (aq:a7 c E L x (.eq (aV key xs.length cap))) (a9:a7 c E L y (.of z))
 (ao:L[i]? =some ⟨key,.row T xs cap⟩) (ax:k < xs.length∧z=k):bY c E L ⟨d,.indexAddr t x y,ty,pos,af,g⟩ (.eq (.pointer (some ⟨key.getD 0,k * ah.size α,none⟩))):= .pure fun a W s=>by
 obtain⟨bl,rfl⟩:=ax
 obtain⟨p,cs,rfl,_⟩:=s.rowAt ao (by omega)
 have aa:a.eval x=_:=aq a W s
 have a6:=of_int.1 (a9 a W s)
 obtain⟨gP,eo,eK⟩:=fh.info
 exact⟨_,by simp [execOp,Instr.indexAt,asIntOf,run_underlying hu,aa,a6,bl,Go.sizeOf,typeInfo,eo,eK,iN,aV]; rfl,by simp [I.eq]⟩
theorem ve {k n s:Nat} (h:k < n):k * s + s≤n * s:=by rw [← Nat.succ_mul]; exact Nat.mul_le_mul_right _ h
theorem Ed {i k T cap o:Nat} {key:Option Nat} {α γ:Type} [ah α] [Inhabited α] [ah γ] {xs:List α} (l:aK α γ) {r:γ} (dR:bq c.P t γ) (aq:a7 c E L x (.eq (.pointer (some ⟨key.getD 0,o,none⟩))))
 (ao:L[i]? =some ⟨key,.row T xs cap⟩) (ax:k < xs.length) (bh:o=k * ah.size α + l.off) (aU:l.get (aF xs k)=r):bY c E L ⟨d,.load t x,ty,pos,af,g⟩ (.of r):= .pure fun a W s=>by
 subst bh; subst aU
 obtain⟨p,cs,rfl,dZ,aa,ae,aD,aZ⟩:=s.rowAt ao (by omega)
 have fc:=ve (s:=ah.size α) ax
 have an:=l.fR
 have hle:xs.length * ah.size α≤cap * ah.size α:=Nat.mul_le_mul_right _ ae
 have fw:=l.hR (aZ.2 k ax)
 rw [si _ _ _ _ _ l.fR,List.drop_take,List.take_take,Nat.min_eq_left (by omega)] at fw
 rw [fx xs ax]
 obtain⟨v,a6,bl⟩:=se (A:=aN L ++ c.bP) dR dZ (off:=k * ah.size α + l.off) (by omega) fw
 have cZ:a.eval x=_:=aq a W s
 simp only [Option.getD_some] at cZ
 exact⟨v,by simp [execOp,Instr.loadAt,Instr.sureAddr,cZ,a6],bl⟩
theorem ai.x4 {rest:List Oper} {i k T cap o:Nat} {key:Option Nat} {α γ:Type} [ah α] [Inhabited α] [ah γ] {xs r:List α} {v:γ} (l:aK α γ) (dR:bq c.P t γ) (aq:a7 c E L x (.eq (.pointer (some ⟨key.getD 0,o,none⟩)))) (a9:a7 c E L y (.of v))
 (ao:L[i]? =some ⟨key,.row T xs cap⟩) (ax:k < xs.length) (bh:o=k * ah.size α + l.off) (aU:iB xs k (l.set (aF xs k) v)=r)
 (k':ai c ops Q rest E (L.set i ⟨key,.row T r cap⟩)):ai c ops Q (⟨none,.store t x y,ty,pos,af,none⟩ :: rest) E L:=fun a W s=>by
 subst bh; subst aU
 obtain⟨p,cs,rfl,dZ,aa,ae,aD,aZ⟩:=s.rowAt ao (by omega)
 have fc:=ve (s:=ah.size α) ax
 have an:=l.fR
 have hle:xs.length * ah.size α≤cap * ah.size α:=Nat.mul_le_mul_right _ ae
 have a2:=a9 a W s
 have wb:(a.eval y).cells.toList.length=ah.size γ:=ah.len a2.2
 have a6:=xj (A:=aN L ++ c.bP) dR dZ (off:=k * ah.size α + l.off) (by omega) a2
 have cZ:a.eval x=_:=aq a W s
 simp only [Option.getD_some] at cZ
 refine hI rfl (R:=fun v W'=>W'=W.setRow p (fy cs.toList (k * ah.size α + l.off) (a.eval y).cells.toList).toArray) (.u4 ?_ rfl) fun u W' hw=> ?_
 ·simp [execOp,Instr.storeAt,Instr.sureAddr,cZ,a6]
 ·subst hw
  refine k' _ _ (s.store ao dZ ?_)
  have lb:cs.toList.length=cap * ah.size α:=by simpa using aa
  have k7:(fy cs.toList (k * ah.size α + l.off) (a.eval y).cells.toList).length=cs.toList.length:=by
   simp only [fy,List.length_append,List.length_take,List.length_drop,wb]; omega
  refine⟨_,rfl,by simpa [lb] using k7,by simpa [iB] using ae,aD,?_⟩
  have aw:=aZ.2 k ax
  have a5:=l.kf aw a2.2
  have bA:=DU aZ ax a5
  have tF:(cs.toList.take (xs.length * ah.size α)).length=xs.length * ah.size α:=by rw [List.length_take]; omega
  rw [IM _ _ _ _ _ _ l.fR (by omega)] at bA
  have hlen:(iB xs k (l.set (aF xs k) v)).length=xs.length:=by simp [iB]
  rw [hlen,List.toList_toArray]
  have e:(fy cs.toList (k * ah.size α + l.off) (a.eval y).cells.toList).take (xs.length * ah.size α)=
   (cs.toList.take (xs.length * ah.size α)).take (k * ah.size α + l.off) ++ (a.eval y).cells.toList ++ (cs.toList.take (xs.length * ah.size α)).drop (k * ah.size α + l.off + ah.size γ):=by
   have av:(cs.toList.take (k * ah.size α + l.off)).length=k * ah.size α + l.off:=by rw [List.length_take]; omega
   have aX:(cs.toList.take (k * ah.size α + l.off) ++ (a.eval y).cells.toList).length=k * ah.size α + l.off + ah.size γ:=by rw [List.length_append,av,wb]
   rw [fy,wb,List.take_append,aX,List.take_of_length_le (by omega),List.take_take,Nat.min_eq_left (by omega),List.drop_take]
  rw [e,show iB xs k (l.set (aF xs k) v)=xs.set k (l.set xs[k] v) by rw [iB,fx xs ax]]
  exact bA
def ie (key:Option Nat) (lo n cap size:Nat):Value:=match key with
 | some p=> .slice (some (if cap=lo then⟨p,0,none⟩ else⟨p,lo * size,none⟩)) n (cap - lo)
 | none=> .slice none 0 0
theorem A9 {key:Option Nat} {n cap size:Nat} :ie key 0 n cap size=aV key n cap:=by
 cases key <;> simp [ie,aV]
theorem I8 {i T cap:Nat} {key:Option Nat} {α:Type} [ah α] {xs:List α} {e:TypeId} {lo au:Option Operand} {m n:Nat} {Ab Ac:Int} (hu:c.P.underlying t=some (.slice e)) (fh:bq c.P e α) (aq:a7 c E L x (.eq (aV key xs.length cap)))
 (ao:L[i]? =some ⟨key,.row T xs cap⟩) (hv:r2 c E L lo Ab 0) (ed:r2 c E L au Ac xs.length) (hm:Ab=m) (aP:Ac=n) (h:m≤n∧n≤xs.length):
 bY c E L ⟨d,.slice t x lo au none,ty,pos,af,g⟩ (.eq (ie key m (n - m) cap (ah.size α))):= .pure fun a W s=>by
 subst hm; subst aP
 obtain⟨tC,mW⟩:=h
 obtain⟨gP,eo,eK⟩:=fh.info
 have aa:a.eval x=_:=aq a W s
 have bh:=s.own _ (List.mem_of_getElem? ao)
 cases key with
 | none=>
   have h8:xs= []:=bh.1
   subst h8
   have rM:n=0:=by simpa using mW
   have gV:m=0:=by omega
   subst rM
   subst gV
   refine⟨.slice none 0 0,?_,rfl⟩
   have ao:(match lo.map a.eval with | some v=>Instr.sliceBound v 0 .sliceB | none=>pure 0:Sem Nat).run c.P W= .ok 0 W:=by
    cases hv with
    | none=>rfl
    | some an=>exact oX (Nat.le_refl _) (of_int.1 (an a W s))
   have iG:(match au.map a.eval,(none:Option Value) with | some v,some _=>Instr.sliceBound v 0 .slice3B | some v,none=>Instr.sliceBound v 0 .sliceAcap | none,none=>pure 0 | none,some _=>stuck "Slice: max without high" :Sem Nat).run c.P W= .ok 0 W:=by
    cases ed with
    | none=>rfl
    | some an=>exact oX (Nat.le_refl _) (of_int.1 (an a W s))
   cases hv <;> cases ed
   all_goals
    simp only [aV,execOp,Instr.sliceAt,Instr.slice,Instr.sliceBounds,aa,Sem.run_bind,run_underlying hu,Result.andThen_ok,Option.map_none,Option.map_some,Option.isSome_none,Bool.false_eq_true,if_false,if_true,Sem.run_pure] at ao iG ⊢
    try simp only [ao,iG,Result.andThen_ok,Go.sizeOf,typeInfo,Sem.run_bind,run_program,eo,Sem.run_pure]
    try simp [eo]
 | some p=>
   obtain⟨o,dZ,cs,rfl,aw,a5,bA,cD⟩:=bh
   refine⟨_,?_,rfl⟩
   simp only [ie]
   have ao:∀ v,v=Value.int .i64 m→ (Instr.sliceBound v n .sliceB).run c.P W= .ok m W:=fun v a2=>oX tC a2
   have iG:∀ v,v=Value.int .i64 n→ (Instr.sliceBound v cap .sliceAcap).run c.P W= .ok n W:=fun v a2=>oX (by omega) a2
   generalize fc:(n:Int)=MZ at ed
   generalize zE:(m:Int)=M0 at hv
   generalize zF:(xs.length:Int)=M1 at ed
   generalize Mt:(0:Int)=M3 at hv
   cases hv with
   | none=>
     have gV:m=0:=by omega
     cases ed with
     | none=>
       have mW:n=xs.length:=by omega
       subst mW
       subst gV
       simp [execOp,Instr.sliceAt,Instr.slice,Instr.sliceBounds,aa,aV,run_underlying hu,Go.sizeOf,typeInfo,eo,eK,iN]
     | some ch=>
       subst fc
       subst gV
       simp [execOp,Instr.sliceAt,Instr.slice,Instr.sliceBounds,aa,aV,run_underlying hu,Go.sizeOf,typeInfo,eo,eK,iN,iG _ (of_int.1 (ch a W s))]
   | some an=>
     subst zE
     cases ed with
     | none=>
       have mW:n=xs.length:=by omega
       subst mW
       simp [execOp,Instr.sliceAt,Instr.slice,Instr.sliceBounds,aa,aV,run_underlying hu,Go.sizeOf,typeInfo,eo,eK,iN,ao _ (of_int.1 (an a W s))]
       split <;> rfl
     | some ch=>
       subst fc
       simp [execOp,Instr.sliceAt,Instr.slice,Instr.sliceBounds,aa,aV,run_underlying hu,Go.sizeOf,typeInfo,eo,eK,iN,ao _ (of_int.1 (an a W s)),iG _ (of_int.1 (ch a W s))]
       split <;> rfl
theorem bC.again {a:Act} {W:World} (s:bC c E L a W) {i:Nat} {key:Option Nat} {cp cp':dx} (ao:L[i]? =some ⟨key,cp⟩) (h:∀ A W o,cp.holds A W o→cp'.holds A W o) (aP:cp.mI→cp'.mI):bC c E (L.set i ⟨key,cp'⟩) a W:=by
 have gG:aN (L.set i ⟨key,cp'⟩)=aN L:=vc (e:=⟨key,cp⟩) (cp:=cp') ao
 exact
 {defers:=s.defers
  size:=s.size
  env:=fun t τ an=>by rw [gG]; exact s.env t τ an
  dm:=s.dm
  own:=fun e he=>by
   rw [gG]
   obtain⟨j,aG⟩:=List.mem_iff_getElem?.1 he
   rw [List.getElem?_set] at aG
   split at aG
   ·split at aG
    ·simp only [Option.some.injEq] at aG
     subst aG
     have bh:=s.own _ (List.mem_of_getElem? ao)
     cases key with
     | none=>exact aP bh
     | some p=>obtain⟨o,aa,ae⟩:=bh; exact⟨o,aa,h _ _ _ ae⟩
    ·cases aG
   ·exact s.own e (List.mem_of_getElem? aG)
  nodup:=by rw [gG]; exact s.nodup
  lt:=by rw [gG]; exact s.lt
  fI:=by rw [gG]; exact s.fI
  eB:=by rw [gG]; exact s.eB }
theorem Je {T cap n:Nat} {α:Type} [ah α] {xs:List α} (aP:n≤xs.length) {A W o} (h:(dx.row T xs cap).holds A W o):(dx.row T (xs.take n) cap).holds A W o:=by
 obtain⟨cs,rfl,aa,ae,aD,aZ⟩:=h
 have an:(xs.take n).length=n:=by rw [List.length_take]; omega
 have hle:n * ah.size α≤xs.length * ah.size α:=Nat.mul_le_mul_right _ aP
 have Cc:xs.length * ah.size α≤cap * ah.size α:=Nat.mul_le_mul_right _ ae
 refine⟨cs,rfl,aa,by omega,aD,?_⟩
 rw [an]
 have lb:cs.toList.length=cap * ah.size α:=by simpa using aa
 refine⟨by rw [List.length_take,an]; omega,fun i au=> ?_⟩
 have jl:i < n:=by omega
 have fc:=ve (s:=ah.size α) jl
 have:=aZ.2 i (by omega)
 rw [List.drop_take,List.take_take,Nat.min_eq_left (by omega)] at this ⊢
 rw [List.getElem_take]
 exact this
end
end Gv
namespace Gv
open Go
set_option linter.unusedVariables false
set_option linter.unusedSimpArgs false
def sJ {α:Type} [Inhabited α] (xs:List α) (lo n:Nat):List α:=xs.take lo ++ List.replicate n default ++ xs.drop (lo + n)
theorem IS {α:Type} [ah α] {A W} {cs ds:List Value} {xs ys:List α} {lo:Nat} (h:fW A W cs xs) (cX:fW A W ds ys) (ax:lo + ys.length≤xs.length):
 fW A W (cs.take (lo * ah.size α) ++ ds ++ cs.drop (lo * ah.size α + ds.length)) (xs.take lo ++ ys ++ xs.drop (lo + ys.length)):=by
 have an:=h.1
 have hle:lo * ah.size α≤xs.length * ah.size α:=Nat.mul_le_mul_right _ (by omega)
 have t1:fW A W (cs.take (lo * ah.size α)) (xs.take lo):=by
  have e:(xs.take lo).length=lo:=by rw [List.length_take]; omega
  refine⟨by rw [List.length_take,e]; omega,fun i au=> ?_⟩
  have jl:i < lo:=by omega
  have:=h.2 i (by omega)
  have fc:=ve (s:=ah.size α) jl
  rw [List.drop_take,List.take_take,Nat.min_eq_left (by omega),List.getElem_take]
  exact this
 have t3:fW A W (cs.drop (lo * ah.size α + ds.length)) (xs.drop (lo + ys.length)):=by
  have e:lo * ah.size α + ds.length=(lo + ys.length) * ah.size α:=by rw [cX.1,Nat.add_mul]
  rw [e]
  refine⟨by rw [List.length_drop,List.length_drop,an,← Nat.sub_mul],fun i au=> ?_⟩
  rw [List.length_drop] at au
  have:=h.2 (lo + ys.length + i) (by omega)
  rw [List.drop_drop,← Nat.add_mul,List.getElem_drop]
  exact this
 exact qW (qW t1 cX) t3
section
variable {c:cY} {E:List (Nat × I)} {L:List aL} {ops:Array Oper} {Q:Exit→Act→World→Prop}
variable {d:Option Tmp} {ty:TypeId} {pos:String} {af:Array Edge} {g:Option (Nat × Bool)} {x y:Operand} {t t2:TypeId}
theorem ai.clear {rest:List Oper} {i e T cap lo n:Nat} {key:Option Nat} {α:Type} [ah α] [Inhabited α] {xs r:List α} (hu:c.P.underlying t=some (.slice e)) (fh:bq c.P e α) (gr:cE c.P e (default:α)) (eK:Nat.beq (ah.size α) 0=false)
 (aq:a7 c E L x (.eq (ie key lo n cap (ah.size α)))) (ao:L[i]? =some ⟨key,.row T xs cap⟩) (aP:lo + n≤xs.length) (aU:sJ xs lo n=r)
 (k:ai c ops Q rest E (L.set i ⟨key,.row T r cap⟩)):ai c ops Q (⟨none,.call ⟨.builtin .clear,#[x],#[t]⟩,ty,pos,af,none⟩ :: rest) E L:=fun a W s=>by
 subst aU
 have aa:a.eval x=_:=aq a W s
 have bh:=s.own _ (List.mem_of_getElem? ao)
 have l2:∀ cp,L.set i ⟨key,cp⟩=L.set i ⟨key,cp⟩:=fun _=>rfl
 by_cases bT:n=0∨key=none
 ·have h8:sJ xs lo n=xs:=by
   rcases bT with bT | bT
   ·subst bT; simp [sJ]
   ·subst bT
    have:xs= []:=bh.1
    subst this
    have:n=0:=by simp at aP; omega
    subst this; simp [sJ]
  have kk:(execOp a.eval ⟨none,.call ⟨.builtin .clear,#[x],#[t]⟩,ty,pos,af,none⟩).run c.P W= .ok (.value (.tuple #[])) W:=by
   rcases bT with bT | bT
   ·subst bT
    cases key <;> simp [execOp,resolve,invoke,builtin,Builtin.clear_,aa,ie,run_underlying hu]
   ·subst bT
    simp [execOp,resolve,invoke,builtin,Builtin.clear_,aa,ie,run_underlying hu]
  refine hI rfl (R:=fun v W'=>W'=W) (.lq kk rfl) fun v W' hw=> ?_
  subst hw
  rw [h8] at k
  have:L.set i ⟨key,.row T xs cap⟩=L:=by
   apply List.ext_getElem?
   intro j
   rw [List.getElem?_set]
   split
   ·rename_i eY; subst eY
    have:=(List.getElem?_eq_some_iff.1 ao).1
    rw [if_pos this,ao]
   ·rfl
  rw [this] at k
  exact k _ _ s
 ·have rM:0 < n:=by
   rcases Nat.eq_zero_or_pos n with h | h
   ·exact absurd (.inl h) bT
   ·exact h
  obtain⟨p,cs,rfl,dZ,aw,a5,bA,cD⟩:=s.rowAt ao (by omega)
  obtain⟨gP,dM,eo,eS,Ge⟩:=gr.zero
  have Cx:=Ge (aN L ++ c.bP) W
  have VP:dM.cells.toList.length=ah.size α:=ah.len Cx.2
  have jJ:ah.size α≠0:=fun h=>by rw [h] at eK; cases eK
  have zJ:=xI Cx n jJ
  have tE:dM.cells.size=ah.size α:=by simpa using VP
  have Gf:Builtin.zeroCells dM.cells n=(Array.range (n * ah.size α)).map (dM.cells[· % dM.cells.size]!):=by rw [Builtin.zeroCells,tE]
  rw [← Gf] at zJ
  generalize ka:(Builtin.zeroCells dM.cells n).toList=D at zJ
  have Xh:D.length=n * ah.size α:=by rw [zJ.1]; simp
  have hv:cap≠lo:=by omega
  have hle:(lo + n) * ah.size α≤cap * ah.size α:=Nat.mul_le_mul_right _ (by omega)
  rw [Nat.add_mul] at hle
  have kr:=run_storeCells_at (P:=c.P) p (lo * ah.size α) _ D 0 cs W dZ (by omega) zJ.one
  have kk:(execOp a.eval ⟨none,.call ⟨.builtin .clear,#[x],#[t]⟩,ty,pos,af,none⟩).run c.P W= .ok (.value (.tuple #[])) (W.setRow p (fy cs.toList (lo * ah.size α) D).toArray):=by
   obtain⟨m,rfl⟩:∃ m,n=m + 1:=⟨n - 1,by omega⟩
   simp only [Nat.add_zero] at kr
   simp [execOp,resolve,invoke,builtin,Builtin.clear_,aa,ie,run_underlying hu,hv,zeroValue,typeInfo,run_program,eo,eS,ka,kr,fy]
  refine hI rfl (R:=fun v W'=>W'=W.setRow p (fy cs.toList (lo * ah.size α) D).toArray) (.lq kk rfl) fun v W' hw=> ?_
  subst hw
  refine k _ _ (s.store ao dZ ?_)
  have lb:cs.toList.length=cap * ah.size α:=by simpa using aw
  have hlen:(sJ xs lo n).length=xs.length:=by simp [sJ]; omega
  have tF:(cs.toList.take (xs.length * ah.size α)).length=xs.length * ah.size α:=by
   rw [List.length_take]
   have:xs.length * ah.size α≤cap * ah.size α:=Nat.mul_le_mul_right _ a5
   omega
  have U4:(lo + n) * ah.size α≤xs.length * ah.size α:=Nat.mul_le_mul_right _ aP
  rw [Nat.add_mul] at U4
  have W4:xs.length * ah.size α≤cap * ah.size α:=Nat.mul_le_mul_right _ a5
  refine⟨_,rfl,?_,by rw [hlen]; exact a5,bA,?_⟩
  ·simp only [List.size_toArray,fy,List.length_append,List.length_take,List.length_drop]; omega
  ·rw [hlen,List.toList_toArray]
   have gW:=IS (lo:=lo) cD zJ (by simpa using aP)
   have e:(fy cs.toList (lo * ah.size α) D).take (xs.length * ah.size α)=(cs.toList.take (xs.length * ah.size α)).take (lo * ah.size α) ++ D ++ (cs.toList.take (xs.length * ah.size α)).drop (lo * ah.size α + D.length):=by
    have av:(cs.toList.take (lo * ah.size α)).length=lo * ah.size α:=by rw [List.length_take]; omega
    have aX:(cs.toList.take (lo * ah.size α) ++ D).length=lo * ah.size α + D.length:=by rw [List.length_append,av]
    rw [fy,List.take_append,aX,List.take_of_length_le (by omega),List.take_take,Nat.min_eq_left (by omega),List.drop_take]
   rw [e]
   simpa [sJ] using gW
theorem bC.share {a:Act} {W:World} (s:bC c E L a W) {i eT p:Nat} {α:Type} [ah α] {z:α} (an:look E eT=some (.eq (.pointer (some ⟨p,0,none⟩)))) (ao:L[i]? =some ⟨some p,.var z⟩):bC c ((eT,.ptr z) :: E) (L.set i ⟨none,.dead⟩) a W:=by
 have ax:=s.kill i
 refine { ax with env:=fun t τ eC=> ?_ }
 simp only [look] at eC
 by_cases e:Nat.beq eT t=true
 ·rw [e] at eC
  simp only [cond_true,Option.some.injEq] at eC
  subst eC
  have:=eO.1 e
  subst this
  obtain⟨v,aa,ae⟩:=s.env eT _ an
  have la:v=_:=ae
  subst la
  obtain⟨o,dZ,cs,T,rfl,aU⟩:=s.own _ (List.mem_of_getElem? ao)
  have hlen:cs.toList.length=ah.size α:=ah.len aU
  refine⟨_,aa,p,0,cs,T,(0,0),rfl,s.xO ao,dZ,by simp at hlen; omega,?_⟩
  rw [List.drop_zero,← hlen,List.take_length]
  have k2:=uB (L:=L) (i:=i) (cp:= .dead)
  exact ah.mono (.drop fun k hm=>by
   rcases List.mem_append.1 hm with hm | hm
   ·exact List.mem_append.2 (.inl (k2.subset hm))
   ·exact List.mem_append.2 (.inr hm)) aU
 ·simp only [Bool.not_eq_true] at e
  rw [e] at eC
  exact ax.env t τ eC
theorem ai.share {l:List Oper} {p:Nat} {α:Type} [ah α] {z:α} (i eT:Nat) (an:look E eT=some (.eq (.pointer (some ⟨p,0,none⟩)))) (ao:L[i]? =some ⟨some p,.var z⟩) (k:ai c ops Q l ((eT,.ptr z) :: E) (L.set i ⟨none,.dead⟩)):ai c ops Q l E L:=
 fun a W s=>k a W (s.share an ao)
theorem ag.share {code:Code} {p:Nat} {α:Type} [ah α] {z:α} (i eT:Nat) (an:look E eT=some (.eq (.pointer (some ⟨p,0,none⟩)))) (ao:L[i]? =some ⟨some p,.var z⟩) (k:ag c Q code ((eT,.ptr z) :: E) (L.set i ⟨none,.dead⟩)):ag c Q code E L:=
 fun a W s=>k a W (s.share an ao)
theorem Ez {α β:Type} [ah α] [ah β] {F:α→Option β} {f:FuncId} {xs:List Operand} {τs:List I} (dS:bM c.P f) (aq:g1 c E L xs τs) (h:∀ x r,F x=some r→bE c.P f (.of x :: τs) (.of r)):
 bY c E L ⟨d,.makeFunc (.func f) #[] xs.toArray,ty,pos,af,g⟩ (.th c.P F):= .pure fun a W s=>by
 have ch:=aq.holds a W s
 refine⟨.func (.func f) #[] (xs.map a.eval).toArray,by simp [execOp,Instr.makeFunc],f,_,_,rfl,dS,fun cQ W' e fU x r oQ lh a2=> ?_⟩
 simpa using h x r lh cQ W' (oQ :: xs.map a.eval) fU (.cons a2 (ch.mono e))
def I.Flat (τ:I):Prop:= ∀ A W cQ W' v,τ.holds A W v→τ.holds cQ W' v
theorem Ba {b:Bool} :(I.of b).Flat:=fun _ _ _ _ _ h=>h
theorem uV {b:Int} :(I.of b).Flat:=fun _ _ _ _ _ h=>h
def I.L3 {α:Type} (xs:List α):I where
 holds _ _ v:= ∃ b:Bool,v= .bool b∧ (b=true→xs= [])
 mono _ h:=h
theorem Iu {P:Program} {e:TypeId} (W:World) (d:Nat) {t:TypeId} (a:Option Addr) (l cp:Nat) (h:P.underlying t=some (.slice e)):(Op.equalIn (d + 1) t (.slice a l cp) (.slice none 0 0)).run P W= .ok a.isNone W:=by
 cases a <;> simp [Op.equalIn,run_underlying h]
theorem KI {α:Type} [ah α] {xs:List α} {e:TypeId} (hu:c.P.underlying t=some (.slice e)) (aq:a7 c E L x (.of xs)):bY c E L ⟨d,.binOp .eql t x (.const (.slice none 0 0)) t2,ty,pos,af,g⟩ (.L3 xs):= .pure fun a W s=>by
 have aP:a.eval (.const (.slice none 0 0))= .slice none 0 0:=rfl
 rcases lQ.1 (aq a W s) with⟨aa,rfl⟩ | ⟨b,off,cap,cur,T,gq,aa,ae⟩
 ·exact⟨.bool true,by
   simp only [execOp,eqGuard,binOp,aa,aP,Op.equal,Op.maxDepth]
   simp [Iu W 9999 none 0 0 hu],true,rfl,fun _=>rfl⟩
 ·exact⟨.bool false,by
   simp only [execOp,eqGuard,binOp,aa,aP,Op.equal,Op.maxDepth]
   simp [Iu W 9999 (some ⟨b,off,none⟩) xs.length cap hu],false,rfl,fun h=>by cases h⟩
theorem ag.KJ {α:Type} {y z:Code} {xs:List α} (an:a7 c E L x (.L3 xs)) (cr:xs= []→ag c Q y E L) (ba:ag c Q z E L):ag c Q (.cond x y z) E L:=fun a W s=>by
 obtain⟨b,aa,ae⟩:=an a W s
 exact wpIn_cond_split aa (fun h=>cr (ae h) a W s) (fun _=>ba a W s)
end
end Gv
