/-
  The library of the decompiler, as far as it is needed here. Conditions: none.
-/
import Derived.Maps.RangeRun
import Derived.Test.YtmnggbjcnoffeaaGreatMl1
namespace Gv
open Go
set_option linter.unusedVariables false
set_option linter.unusedSimpArgs false
def aK.any (α:Type):aK α:=fun Q=> ∀ x,Q x
theorem aK.any_bind {α β:Type} {k:α→aK β} {R:β→Prop} (h:aK.bind (aK.any α) k R) (x:α):k x R:=h x
theorem gW.append {A:List Nat} {W:World} :∀ {τs σs:List I} {vs us:List Value},gW A W τs vs→gW A W σs us→gW A W (τs ++ σs) (vs ++ us)
 | _,_,_,_,.nil,h=>h
 | _,_,_,_,.cons h r,ab=> .cons h (r.append ab)
section
variable {c:c8} {E:List (Nat × I)} {L:List aN} {ops:Array Oper} {Q:Exit→Act→World→Prop}
variable {d:Option Tmp} {ty:TypeId} {pos:String} {af:Array Edge} {g:Option (Nat × Bool)} {x y:Operand} {t t2:TypeId}
def hi (c:c8) (E:List (Nat × I)) (L:List aN) (o:Oper) {δ:Type} (ρ:δ→I) (aC:δ→List aN):Prop:=
 ∀ a W,bG c E L a W→gj c.P o a W fun v W'=> ∃ q,bG c E (aC q) a W'∧ (ρ q).holds (aP (aC q) ++ c.b2) W' v
theorem ak.PX {o:Oper} {rest:List Oper} {bc:Nat} {δ:Type} {ρ:δ→I} {aC:δ→List aN} (h:hi c E L o ρ aC) (bZ:o.guard=none) (hd:o.dst=some bc) (aO:Nat.blt bc c.n=true)
 (k:∀ q,ak c ops Q rest ((bc,ρ q) :: E) (aC q)):ak c ops Q (o :: rest) E L:=fun a W s=>
 ib bZ (h a W s) fun v W' ⟨q,f,a3⟩=>by
  rw [hd]
  exact k q _ _ (f.put (by simpa using aO) a3)
theorem hi.perm {gU:List aN} {o:Oper} {δ:Type} {ρ:δ→I} {aC L2:δ→List aN} (p:L.Perm gU) (Qd:∀ q,(aC q).Perm (L2 q)) (h:hi c E gU o ρ aC):hi c E L o ρ L2:=fun a W s=>by
 have:=h a W (s.perm p)
 unfold gj at this ⊢
 exact Oper.wp_mono (fun gI W' ⟨v,J,q,ab,aE⟩=>⟨v,J,q,ab.perm (Qd q),(ρ q).mono (mO (Qd q)) aE⟩) this
theorem hi.to {o:Oper} {δ:Type} {ρ:δ→I} {aC L2:δ→List aN} (e:∀ q,aC q=L2 q) (h:hi c E L o ρ aC):hi c E L o ρ L2:=by
 have:aC=L2:=funext e
 subst this; exact h
theorem hi.YY {o:Oper} {δ:Type} {τ:I} (h:hi c E L o (fun _:δ=>τ) (fun _=>L)):jx c E L o τ:=fun a W s=>by
 have:=h a W s
 unfold gj at this ⊢
 exact Oper.wp_mono (fun gI W' ⟨v,J,q,ab,aE⟩=>⟨v,J,ab,aE⟩) this
theorem hi.call {o:Oper} {f:FuncId} {as:Act→List Value} {τs:List I} {Lin Lr:List aN} {δ:Type} {ρ:δ→I} {Lo:δ→List aN} (h:cG c.P f τs Lin ρ Lo)
 (ao:∀ a W,bG c E (Lin ++ Lr) a W→ (execOp a.eval o).run c.P W= .ok (.enter f (as a).toArray) W∧gW (aP (Lin ++ Lr) ++ c.b2) W τs (as a)):hi c E (Lin ++ Lr) o ρ (fun q=>Lo q ++ Lr):=fun a W s=>by
 obtain⟨kK,an⟩:=ao a W s
 have lH:=s.nodup
 rw [e0] at lH
 obtain⟨mD,nQ,pk⟩:=List.nodup_append.1 lH
 have jY:Ext (aP (Lin ++ Lr) ++ c.b2) W (aP Lin ++ (aP Lr ++ c.b2)) W:=yX
 have fL:∀ k∈aP Lr ++ c.b2,k < W.heap.size∧k ∉ aP Lin:=fun k hm=>by
  rcases List.mem_append.1 hm with hm | hm
  ·exact⟨s.lt k (by rw [e0]; exact List.mem_append.2 (.inr hm)),fun h=>pk k h k hm rfl⟩
  ·obtain⟨J,ab⟩:=s.eQ k hm
   exact⟨J,fun h=>ab (by rw [e0]; exact List.mem_append.2 (.inl h))⟩
 have cv:∀ k∈aP Lin,k < W.heap.size:=fun k hm=>s.lt k (by rw [e0]; exact List.mem_append.2 (.inl hm))
 refine .tH (f:=f) (args:=(as a).toArray) (W':=W) kK ?_
 refine(h (aP Lr ++ c.b2) W (as a) fL mD cv (fun e he=>aN.sf (s.own e (List.mem_append.2 (.inl he))) jY fun _ _=>rfl) (an.mono jY)).mono fun e W' ⟨v,bc,he,a7,J,ab,aE,aW⟩=> ?_
 exact⟨v,he,bc,s.after a7 J ab aE,(ρ bc).mono Fv aW⟩
theorem hi.Xn {o:Oper} {b6:Type} [fi b6] {hp:bg b6} {Lin Lr:List aN} {δ:Type} {ρ:δ→I} {Lo:δ→List aN} {hq:δ→bg b6} (n m:Nat) (av:L.drop n=bz hp) (J:(L.take n).take m=Lin) (ab:(L.take n).drop m=Lr)
 (h:hi c E ((Lin ++ bz hp) ++ Lr) o ρ (fun q=>(Lo q ++ bz (hq q)) ++ Lr)):hi c E L o ρ (fun q=>(Lo q ++ Lr) ++ bz (hq q)):=by
 have e:L=(Lin ++ Lr) ++ bz hp:=by rw [← J,← ab,List.take_append_drop,← av,List.take_append_drop]
 clear av J ab
 subst e
 exact h.perm n8 fun q=>n8
theorem hi.sw {f:FuncId} {xs:List Operand} {ats:Array TypeId} {b6:Type} [fi b6] {hp:bg b6} {τs:List I} {Lin Lr:List aN} {δ:Type} {ρ:δ→I} {Lo:δ→List aN} {hq:δ→bg b6} (n m:Nat) (av:L.drop n=bz hp) (eo:bH c.P f) (h:cG c.P f τs (Lin ++ bz hp) ρ (fun d=>Lo d ++ bz (hq d)))
 (J:(L.take n).take m=Lin) (ab:(L.take n).drop m=Lr) (an:hO c E L xs τs):hi c E L ⟨d,.call ⟨.value (.func f),xs.toArray,ats⟩,ty,pos,af,g⟩ ρ (fun q=>(Lo q ++ Lr) ++ bz (hq q)):=by
 have e:L=(Lin ++ Lr) ++ bz hp:=by rw [← J,← ab,List.take_append_drop,← av,List.take_append_drop]
 refine hi.Xn n m av J ab (hi.call (as:=fun a=>xs.map a.eval) h fun a W s=>⟨by simp [execOp,resolve,Deferred.ofValue,Act.eval,invoke,eo.run],?_⟩)
 subst e
 exact(an.holds a W (s.perm n8.symm)).mono (mO n8)
theorem hi.lX {f:FuncId} {xs:List Operand} {ats:Array TypeId} {τs:List I} {Lin Lr:List aN} {δ:Type} {ρ:δ→I} {Lo:δ→List aN} (m:Nat) (eo:bH c.P f) (h:cG c.P f τs Lin ρ Lo)
 (J:L.take m=Lin) (ab:L.drop m=Lr) (an:hO c E L xs τs):hi c E L ⟨d,.call ⟨.value (.func f),xs.toArray,ats⟩,ty,pos,af,g⟩ ρ (fun q=>Lo q ++ Lr):=by
 have e:L=Lin ++ Lr:=by rw [← J,← ab,List.take_append_drop]
 clear J ab
 subst e
 exact hi.call (as:=fun a=>xs.map a.eval) h fun a W s=>⟨by simp [execOp,resolve,Deferred.ofValue,Act.eval,invoke,eo.run],an.holds a W s⟩
theorem bb.UE {pw:Operand} {f:FuncId} {zY τs:List I} {xs:List Operand} {ats:Array TypeId} (eo:bH c.P f) (a7:bb c E L pw (.hy f zY)) (an:hO c E L xs τs) {a:Act} {W:World} (s:bG c E L a W):
 ∃ hM:List Value,(execOp a.eval ⟨d,.call ⟨.value pw,xs.toArray,ats⟩,ty,pos,af,g⟩).run c.P W= .ok (.enter f (xs.map a.eval ++ hM).toArray) W∧gW (aP L ++ c.b2) W (τs ++ zY) (xs.map a.eval ++ hM):=by
 obtain⟨hM,J,ab⟩:=a7 a W s
 exact⟨hM,by simp [execOp,resolve,Deferred.ofValue,J,invoke,eo.run],(an.holds a W s).append ab⟩
theorem hi.hy {pw:Operand} {f:FuncId} {zY τs:List I} {xs:List Operand} {ats:Array TypeId} {Lin Lr:List aN} {δ:Type} {ρ:δ→I} {Lo:δ→List aN} (m:Nat) (eo:bH c.P f) (a7:bb c E L pw (.hy f zY)) (h:cG c.P f (τs ++ zY) Lin ρ Lo)
 (J:L.take m=Lin) (ab:L.drop m=Lr) (an:hO c E L xs τs):hi c E L ⟨d,.call ⟨.value pw,xs.toArray,ats⟩,ty,pos,af,g⟩ ρ (fun q=>Lo q ++ Lr):=by
 have e:L=Lin ++ Lr:=by rw [← J,← ab,List.take_append_drop]
 clear J ab
 subst e
 intro a W s
 obtain⟨hM,aE,aW⟩:=bb.UE (d:=d) (ty:=ty) (pos:=pos) (af:=af) (g:=g) (ats:=ats) eo a7 an s
 have lH:=s.nodup
 rw [e0] at lH
 obtain⟨mD,nQ,pk⟩:=List.nodup_append.1 lH
 have jY:Ext (aP (Lin ++ Lr) ++ c.b2) W (aP Lin ++ (aP Lr ++ c.b2)) W:=yX
 have fL:∀ k∈aP Lr ++ c.b2,k < W.heap.size∧k ∉ aP Lin:=fun k hm=>by
  rcases List.mem_append.1 hm with hm | hm
  ·exact⟨s.lt k (by rw [e0]; exact List.mem_append.2 (.inr hm)),fun h=>pk k h k hm rfl⟩
  ·obtain⟨J,ab⟩:=s.eQ k hm
   exact⟨J,fun h=>ab (by rw [e0]; exact List.mem_append.2 (.inl h))⟩
 have cv:∀ k∈aP Lin,k < W.heap.size:=fun k hm=>s.lt k (by rw [e0]; exact List.mem_append.2 (.inl hm))
 refine .tH (f:=f) (W':=W) aE ?_
 refine(h (aP Lr ++ c.b2) W _ fL mD cv (fun e he=>aN.sf (s.own e (List.mem_append.2 (.inl he))) jY fun _ _=>rfl) (aW.mono jY)).mono fun e W' ⟨v,bc,he,a7,J,ab,aE,aW⟩=> ?_
 exact⟨v,he,bc,s.after a7 J ab aE,(ρ bc).mono Fv aW⟩
theorem hO.perm {gU:List aN} (p:L.Perm gU):∀ {xs:List Operand} {τs:List I},hO c E L xs τs→hO c E gU xs τs
 | [],[],h=>h
 | _ :: _,_ :: _,h=>⟨h.1.perm p,hO.perm p h.2⟩
 | [],_ :: _,h=>h.elim
 | _ :: _,[],h=>h.elim
theorem hi.obj {f:FuncId} {xs:List Operand} {ats:Array TypeId} {b6:Type} [fi b6] {hp:bg b6} {p:Nat} {k:b6} {τs:List I} {Lin:List aN} {δ:Type} {ρ:δ→I} {Lo:δ→List aN} (n:Nat) (k':δ→b6) (av:L.drop n=bz hp) (hp':pat hp p=some k) (eo:bH c.P f) (h:cG c.P f τs Lin ρ Lo)
 (aq:fi.ih p k=Lin) (j5:∀ q,fi.ih p (k' q)=Lo q) (an:hO c E L xs τs):hi c E L ⟨d,.call ⟨.value (.func f),xs.toArray,ats⟩,ty,pos,af,g⟩ ρ (fun q=>L.take n ++ bz (ea hp p (k' q))):=by
 obtain⟨R,bf,bw⟩:=vY hp'
 have e:L=L.take n ++ bz hp:=by rw [← av,List.take_append_drop]
 have fp:∀ {M X:List aN},M.Perm (X ++ R)→ (L.take n ++ M).Perm (X ++ (R ++ L.take n)):=fun h=>List.perm_append_comm.trans ((h.append_right _).trans (by rw [List.append_assoc]))
 have IE:L.Perm (Lin ++ (R ++ L.take n)):=by
  conv=>lhs; rw [e]
  exact fp (by rw [← aq]; exact bf)
 refine hi.perm IE (fun q=>(fp (bw (k' q))).symm) ?_
 refine hi.to (fun q=>by rw [j5]) (hi.call (Lr:=R ++ L.take n) (as:=fun a=>xs.map a.eval) h fun a W s=>⟨by simp [execOp,resolve,Deferred.ofValue,Act.eval,invoke,eo.run],?_⟩)
 exact(an.holds a W (s.perm IE.symm)).mono (mO IE)
theorem jx.obj {f:FuncId} {xs:List Operand} {ats:Array TypeId} {b6:Type} [fi b6] {hp:bg b6} {p:Nat} {k:b6} {τs:List I} {Lin:List aN} {δ:Type} {τ:I} (n:Nat) (av:L.drop n=bz hp) (hp':pat hp p=some k) (eo:bH c.P f) (h:cG c.P f τs Lin (fun _:δ=>τ) (fun _=>Lin))
 (aq:fi.ih p k=Lin) (an:hO c E L xs τs):jx c E L ⟨d,.call ⟨.value (.func f),xs.toArray,ats⟩,ty,pos,af,g⟩ τ:=by
 have e:L=L.take n ++ bz hp:=by rw [← av,List.take_append_drop]
 have ZN:ea hp p k=hp:=by
  clear e av h aq
  induction hp with
  | nil=>rfl
  | cons z r bO=>
    obtain⟨q,abz⟩:=z
    simp only [pat] at hp'
    simp only [ea]
    split at hp'
    ·rename_i e; simp only [Option.some.injEq] at hp'; rw [if_pos e,hp']
    ·rename_i e; rw [if_neg e,bO hp']
 refine hi.YY (hi.to (fun q=> ?_) (hi.obj (d:=d) (ty:=ty) (pos:=pos) (af:=af) (g:=g) (ats:=ats) n (fun _=>k) av hp' eo h aq (fun _=>aq) an))
 rw [ZN,← e]
theorem ak.W2 {l:List Oper} {b6:Type} [fi b6] {hp:bg b6} {p:Nat} {Lin Lr:List aN} (n m:Nat) (mk:b6) (av:L.drop n=bz hp) (J:(L.take n).take m=Lin) (ab:(L.take n).drop m=Lr) (aq:fi.ih p mk=Lin) (hm:p∈aP Lin)
 (k:∀ a:Nat × bg b6,a.1 ∉ hp.map (·.1)∧a.2=(a.1,mk) :: hp→a.1=p→ak c ops Q l E (Lr ++ bz a.2)):ak c ops Q l E L:=fun a W s=>by
 have e:L=(Lin ++ Lr) ++ bz hp:=by rw [← J,← ab,List.take_append_drop,← av,List.take_append_drop]
 have fp:L.Perm (Lr ++ bz ((p,mk) :: hp)):=by
  rw [e,bz,aq,← List.append_assoc]
  exact List.perm_append_comm.append_right _
 refine k (p,(p,mk) :: hp) ⟨fun ZO=> ?_,rfl⟩ rfl _ _ (s.perm fp)
 have hA:=s.nodup
 rw [e,e0,e0] at hA
 exact(List.nodup_append.1 hA).2.2 p (List.mem_append.2 (.inl hm)) p (MX ZO) rfl
end
end Gv
namespace Gv
open Go
set_option linter.unusedVariables false
section
variable {c:c8} {E:List (Nat × I)} {L:List aN} {ops:Array Oper} {Q:Exit→Act→World→Prop}
theorem fk.q {hs:List ei} {i np:Nat} {o:Oper} {h:ei} (cE:fk c ops Q hs E L i o h):Gm c ops Q hs E L np i o h:=fun hd E' aC J ab _=>cE hd E' aC J ab
structure y6 (P:Program) (f:FuncId) (τs:List I) {b6:Type} [fi b6] (hp:bg b6) {α:Type} (τ:α→I) (run:∀ {σ ε:Type},(α→σ→Option (σ ⊕ ε))→σ→Option (σ ⊕ ε)):Prop where
 go:∀ {σ ε γ:Type} (Ls:σ→γ→List aN) (Lx:ε→γ→List aN) (jz:σ→γ→List aN),(∀ s g,Ls s g=jz s g ++ bz hp)→Is P f τs [] τ (run (σ:=σ) (ε:=ε)) Ls Lx
theorem y6.of {P:Program} {f:FuncId} {fn:Func} {code:Code} {n:Nat} {τs:List I} {b6:Type} [fi b6] {hp:bg b6} {α:Type} {τ:α→I} {run:∀ {σ ε:Type},(α→σ→Option (σ ⊕ ε))→σ→Option (σ ⊕ ε)}
 (a7:P.funcs[f]? =some fn) (hb:fn.body=some code) (aO:fn.ntmps=n) (hlen:Nat.ble (τs.length + 1) n=true)
 (h:∀ {σ ε γ:Type} (Ls:σ→γ→List aN) (Lx:ε→γ→List aN) (jz:σ→γ→List aN),(∀ s g,Ls s g=jz s g ++ bz hp)→ ∀ (step:α→σ→Option (σ ⊕ ε)) (cf:σ) (g0:γ) (r:σ ⊕ ε),run step cf=some r→
  ∀ W A u,u1 P u τ Ls Lx step (fun c0 W'=>Ext (aP (Ls cf g0) ++ A) W c0 W')→
    ag ⟨P,n,W,aP (Ls cf g0),A,none,[]⟩ (bodyPost P fn (jV (aP (Ls cf g0)) A W (fun _:γ=> .eI []) (fun g=> [] ++ Lr Ls Lx r g))) code (params 0 (.eq u :: τs)) (Ls cf g0)):y6 P f τs hp τ run:=by
 refine⟨?_⟩
 intro σ ε γ Ls Lx jz my step cf g0 r aQ A W u vs al a3 a4
 refine calls_of_wp a7 hb (wpIn_wide.1 (h Ls Lx jz my step cf g0 r aQ W A u a4 _ _ ?_))
 have oF:gW (aP (Ls cf g0) ++ A) W (.eq u :: τs) (u :: vs):= .cons rfl a3
 have lg:=oF.length
 have hle:τs.length + 1≤n:=Nat.le_of_ble_eq_true hlen
 exact
 {defers:=rfl
  size:=by simp at lg; simp [aO,lg]; omega
  env:=fun t τ ev=>by
   obtain⟨_,v,ab,aE⟩:=tB oF 0 t τ ev
   refine⟨v,?_,aE⟩
   have cv:t < (u :: vs).length:=(List.getElem?_eq_some_iff.1 ab).1
   rw [Array.getElem?_append_left (by simpa using cv)]
   simpa using ab
  dw:= .refl _ _
  own:=al.ok
  nodup:=al.nodup
  lt:=al.lt
  fH:=fun k aq _=>aq
  eQ:=al.eQ }
theorem Wa {b6:Type} [fi b6] {σ γ:Type} {Ls jz:σ→γ→List aN} {hp:bg b6} {s:σ} {g:γ} {p:Nat} {k:b6} {e:aN} (n:Nat) (av:L.drop n=Ls s g) (my:∀ s g,Ls s g=jz s g ++ bz hp) (h:pat hp p=some k) (aq:fi.ih p k= [e]):e∈L:=
 NA (hq:=fun _=>hp) n av my h aq
theorem SW {gt p:Nat} {assign body:Code} {f:FuncId} {l7:List I} {b6:Type} [fi b6] {hp:bg b6} {α σ ε γ:Type} {τ:α→I} {run:∀ {σ ε:Type},(α→σ→Option (σ ⊕ ε))→σ→Option (σ ⊕ ε)}
 {Ls:σ→γ→List aN} {Lx:ε→γ→List aN} {step:α→σ→Option (σ ⊕ ε)} {cf:σ} {g0:γ} {r:σ ⊕ ε} (jz:σ→γ→List aN) (eV:ε→Code)
 (ao:c.rd=none) (eo:bH c.P f) (bZ:look E gt=some (.hy f l7)) (ky:y6 c.P f l7 hp τ run) (aQ:run step cf=some r) (my:∀ s g,Ls s g=jz s g ++ bz hp) (av:L=Ls cf g0) (hp':Nat.blt p c.n=true)
 (oe:∀ x s r,step x s=some r→ ∀ g (ld:World) (lu lf:List Nat) (l D:Nat) (rec:Loop),rec.state= .ready→
  ag ⟨c.P,c.n,ld,lu,lf,some l,[]⟩ (Exit.then (A2 ⟨c.P,c.n,ld,lu,lf,some l,[]⟩ l body (A1 ⟨c.P,c.n,ld,lu,lf,some l,[]⟩ eV l D { rec with state:= .busy } Ls Lx r)) (fun _ _ _=>False)) assign ((p,τ x) :: E) (⟨some l,.is (.loop rec)⟩ :: ⟨some D,.dI⟩ :: Ls s g))
 (nz:∀ b8,r= .inl b8→ ∀ g D,ae { c with ds:=D :: c.ds } Q .normal E (⟨some D,.dI⟩ :: Ls b8 g))
 (uu:∀ q,r= .inr q→ ∀ g D,ag { c with ds:=D :: c.ds } Q (eV q) E (⟨some D,.dI⟩ :: Lx q g)):
 ag c Q (.rangeFunc (.tmp gt) #[p] assign body) E L:=
 La (Lin:= []) (run:=run) eV ao eo bZ (fun ay aS me=>ky.go (fun s g=>ay :: aS :: Ls s g) me (fun s g=>ay :: aS :: jz s g) (fun s g=>by rw [my]; rfl)) aQ av hp' oe nz uu
end
end Gv
namespace Gv
open Go
set_option linter.unusedVariables false
structure Raw where
 f:FuncId
 us:Option (List Value)
instance:Inhabited Raw:=⟨⟨0,none⟩⟩
def Raw.val:Raw→Value
 | ⟨f,some us⟩=> .func (.func f) #[] us.toArray
 | ⟨_,none⟩=> .nilFunc
instance:ah Raw where
 size:=1
 agg:=false
 rep _ _ cs x:=cs= [x.val]
 len h:=by rw [h]; rfl
 one h:=by
  intro v a3
  rw [h,List.mem_singleton] at a3
  subst a3
  rename_i x
  obtain⟨f,us⟩:=x
  cases us <;> rfl
 flat _:=rfl
 mono _ h:=h
instance:ba Raw:=⟨[.nilFunc],fun _ _=>rfl⟩
section
variable {c:c8} {E:List (Nat × I)} {L:List aN} {ops:Array Oper} {Q:Exit→Act→World→Prop}
variable {d:Option Tmp} {ty:TypeId} {pos:String} {af:Array Edge} {g:Option (Nat × Bool)} {x y:Operand} {t t2:TypeId}
end
end Gv
namespace Gv
open Go
set_option linter.unusedVariables false
section
variable {c:c8} {E:List (Nat × I)} {L:List aN} {ops:Array Oper} {Q:Exit→Act→World→Prop}
theorem ak.W3 {l:List Oper} {p q:Nat} (fa:Nat) (al:look E fa=some (.eq (.pointer (some ⟨p,0,none⟩)))) (he:q=p) (k:ak c ops Q l ((fa,.of (some q:Ref)) :: E) L):ak c ops Q l E L:=fun a W s=>by
 subst he
 refine k a W (s.less fun t τ h=> ?_)
 simp only [look] at h
 by_cases e:Nat.beq fa t=true
 ·rw [e] at h
  simp only [cond_true,Option.some.injEq] at h
  have:=ep.1 e
  subst this
  subst h
  exact⟨_,al,fun A W v a3=>wx.2 a3⟩
 ·simp only [Bool.not_eq_true] at e
  rw [e] at h
  exact⟨τ,h,fun _ _ _ h=>h⟩
end
end Gv
namespace Gv
open Go
set_option linter.unusedVariables false
set_option linter.unusedSimpArgs false
section
variable {c:c8} {E:List (Nat × I)} {L:List aN} {ops:Array Oper} {Q:Exit→Act→World→Prop}
theorem c1.tail {l:List Oper} {f:Nat} {bl:Array Bool} (n:Nat) (a7:(l.drop n).length=f) (hs:Region.seqB .any l.toArray f n bl=true) (h:ak c l.toArray Q (l.drop n) E L):c1 c l.toArray Q f bl E L:=fun a W s=>by
 subst a7
 exact BU (l.drop n) n bl a W (fun j=>by simp) hs (h a W s)
theorem aK.ex {α β:Type} {m:aK α} {k:α→aK β} {R:β→Prop} (h:aK.bind m k R):∃ K:α→Prop,m K∧ ∀ r,K r→k r R:=⟨_,h,fun _ h=>h⟩
end
end Gv
namespace Gv
open Go
set_option linter.unusedVariables false
theorem cG.law {P:Program} {f:FuncId} {τs:List I} {b6:Type} [fi b6] {R:Bool × bg b6→Prop} {Lo: {r:Bool × bg b6 // R r} × Unit→List aN} (h:cG P f τs ([] ++ bz ([]:bg b6)) (fun d: {r:Bool × bg b6 // R r} × Unit=>I.of d.1.1.1) Lo) (fJ:∀ r,R r→r.1=true):bn P f τs (I.of true):=by
 intro A W vs fL a3
 refine(h A W vs (fun k aq=>⟨fL k aq,by simp [bz,aP]⟩) (by simp [bz,aP]) (fun k aq=>by simp [bz,aP] at aq) (fun e he=>by simp [bz] at he) (by simpa [bz,aP] using a3)).mono ?_
 intro e W' ⟨v,d,J,ab,_,_,_,aE⟩
 refine⟨v,J,by simpa [bz,aP] using ab,?_⟩
 have aW:=fJ d.1.1 d.1.2
 rw [of_bool] at aE ⊢
 rw [aE,aW]
end Gv
namespace Gv
open Go
set_option linter.unusedVariables false
section
variable {c:c8} {E:List (Nat × I)} {L:List aN} {ops:Array Oper} {Q:Exit→Act→World→Prop}
theorem TP {n:Nat} (aO:n≤ops.size) (PA:∀ i o,i < n→ops[i]? =some o→ ∀ e∈o.after,Region.binds .any e=true→e.on < i)
 (zr:n=ops.size∨ (Region.sinkB .any ops n=true∧Region.chainB .any ops n=true))
 (uG:Region.seqB .any ops (ops.size - n) n ((List.range n).foldl (fun l i=>l.setIfInBounds i true) (Array.replicate ops.size false))=true)
 (S:Array Bool→Act→World→Prop)
 (ur:∀ (bl:Array Bool) (i:Nat) (o:Oper) (a:Act) (W:World),HeadInv .any ops n bl→i < n→ops[i]? =some o→bl.getD i false=false→ (∀ e∈o.after,Region.binds .any e=true→bl.getD e.on false=true)→S bl a W→
  wpOpIn c.F 9 c.P ops Q i (fun gI W'=>S (bl.setIfInBounds i true) gI W') a W)
 (m6:∀ (bl:Array Bool) (a:Act) (W:World),(∀ i,i < n→bl.getD i false=true)→S bl a W→c.p6 ops Q (ops.toList.drop n) a W):
 ∀ m (bl:Array Bool) (a:Act) (W:World),((List.range n).filter fun i=> !bl.getD i true).length≤m→HeadInv .any ops n bl→S bl a W→wpAnyIn c.F 9 c.P .any ops Q (m + (ops.size - n)) bl a W:=by
 have pZ:∀ i,i < n→ ∃ o,ops[i]? =some o:=fun i aj=>⟨ops[i],by simp⟩
 have nz:∀ (bl:Array Bool) (a:Act) (W:World),(∀ i,i < n→bl.getD i true=true)→HeadInv .any ops n bl→S bl a W→wpAnyIn c.F 9 c.P .any ops Q (ops.size - n) bl a W:=by
  intro bl a W sB inv st
  have al:=KF inv aO sB
  have rq:=uG
  rw [← al] at rq
  have jq:(ops.toList.drop n).length=ops.size - n:=by simp
  rw [← jq] at rq ⊢
  exact BU (ops.toList.drop n) n bl a W (fun j=>by simp) rq (m6 bl a W (fun i aj=>by
   have J:=sB i aj
   have ab:i < bl.size:=by rw [inv.size]; omega
   simpa [ab] using J) st)
 have more:∀ f (bl:Array Bool) a W,wpAnyIn c.F 9 c.P .any ops Q f bl a W→wpAnyIn c.F 9 c.P .any ops Q (f + 1) bl a W:=by
  intro f
  induction f with
  | zero=>intro bl a W h; exact⟨fun _=>h.2,fun i aj=>by rw [h.1] at aj; cases aj⟩
  | succ f HW=>intro bl a W h; exact⟨h.1,fun i aj=>wpOpIn_mono (fun gI oJ cR=>HW _ gI oJ cR) (h.2 i aj)⟩
 intro m
 induction m with
 | zero=>
   intro bl a W hm inv st
   rw [Nat.zero_add]
   refine nz bl a W (fun i aj=> ?_) inv st
   cases h:bl.getD i true with
   | true=>rfl
   | false=>
     have:i∈ (List.range n).filter fun i=> !bl.getD i true:=List.mem_filter.2 ⟨List.mem_range.2 aj,by rw [h]; rfl⟩
     rw [List.length_eq_zero_iff.1 (Nat.le_zero.1 hm)] at this
     cases this
 | succ m bO=>
   intro bl a W hm inv st
   rw [show m + 1 + (ops.size - n)=(m + (ops.size - n)) + 1 by omega]
   by_cases Od:∀ i,i < n→bl.getD i true=true
   ·have J:=nz bl a W Od inv st
    have key:∀ k,wpAnyIn c.F 9 c.P .any ops Q (k + (ops.size - n)) bl a W:=by
     intro k
     induction k with
     | zero=>rw [Nat.zero_add]; exact J
     | succ k HX=>rw [show k + 1 + (ops.size - n)=(k + (ops.size - n)) + 1 by omega]; exact more _ _ _ _ HX
    exact more _ _ _ _ (key m)
   have hex:∃ i,i < n∧bl.getD i true=false:=by
    false_or_by_contra
    rename_i ab
    exact Od fun i aj=>by
     cases h:bl.getD i true with
     | true=>rfl
     | false=>exact absurd ⟨i,aj,h⟩ ab
   have Gj:∀ t∈Region.ready .any ops bl,t < n:=by
    intro t sZ
    rcases Nat.lt_or_ge t n with h | h
    ·exact h
    ·obtain⟨i,aj,j6⟩:=hex
     have aaV:t < ops.size:=by
      obtain⟨_,o,bo,_⟩:=mem_ready.1 sZ
      exact(Array.getElem?_eq_some_iff.1 bo).1
     rcases zr with J | J
     ·omega
     ·exact absurd sZ (tail_waits J.1 J.2 (by omega) inv _ i rfl aj j6 t h)
   refine⟨fun bP=> ?_,fun i aj=> ?_⟩
   ·exfalso
    have key:∀ d i,i≤d→i < n→bl.getD i true=true:=by
     intro d
     induction d with
     | zero=>
       intro i Ac aj
       cases al:bl.getD i true with
       | true=>rfl
       | false=>
         obtain⟨o,bo⟩:=pZ i aj
         have:i∈Region.ready .any ops bl:=mem_ready.2 ⟨al,o,bo,fun e he hb=>by have:=PA i o aj bo e he hb; omega⟩
         rw [bP] at this; cases this
     | succ d Ik=>
       intro i Ac aj
       cases al:bl.getD i true with
       | true=>rfl
       | false=>
         obtain⟨o,bo⟩:=pZ i aj
         have:i∈Region.ready .any ops bl:=mem_ready.2 ⟨al,o,bo,fun e he hb=>by
          have J:=PA i o aj bo e he hb
          have ab:=Ik e.on (by omega) (by omega)
          have aE:e.on < bl.size:=by rw [inv.size]; omega
          simpa [aE] using ab⟩
         rw [bP] at this; cases this
    obtain⟨i,aj,j6⟩:=hex
    have:=key i i (Nat.le_refl _) aj
    rw [j6] at this; cases this
   ·have eJ:i < n:=Gj i aj
    obtain⟨j6,o,bo,oc⟩:=mem_ready.1 aj
    have sK:i < bl.size:=by rw [inv.size]; omega
    have q9:((List.range n).filter fun j=> !(bl.setIfInBounds i true).getD j true).length≤m:=by
     have:((List.range n).filter fun j=> !(bl.setIfInBounds i true).getD j true).length < ((List.range n).filter fun j=> !bl.getD j true).length:=by
      refine Gi (fun j=> !bl.getD j true) (fun j=> !(bl.setIfInBounds i true).getD j true) i (by simp only [j6]; rfl) ?_ (fun j aF=> ?_) n eJ
      ·simp [sK]
      ·by_cases e:i=j
       ·subst e; simp only [j6]; rfl
       ·rw [getD_set_ne true e] at aF; exact aF
     omega
    exact wpOpIn_mono (fun gI W' nR=>bO _ gI W' q9 (inv.set aj eJ) nR) (ur bl i o a W inv eJ bo (getD_both j6) oc st)
def hN (ls:Nat→Bool) (E:List (Nat × I)):Nat→List (Option (Nat × I))→List (Nat × I)
 | _,[]=>E
 | k,none :: r=>hN ls E (k + 1) r
 | k,some x :: r=>bif ls k then x :: hN ls E (k + 1) r else hN ls E (k + 1) r
def n0 (fs:List (Option (Nat × I))) (E:List (Nat × I)):List Nat→List (Nat × I)
 | []=>E
 | i :: r=>match fs[i]? with
   | some (some x)=>x :: n0 fs E r
   | _=>n0 fs E r
def iG (fs:List (Option (Nat × I))):List Nat:=fs.filterMap fun x=>x.map (·.1)
theorem Gn {ls:Nat→Bool} {E:List (Nat × I)} {t:Nat} {τ:I} :∀ {fs:List (Option (Nat × I))} {k:Nat},look (hN ls E k fs) t=some τ→ (∃ j,ls (k + j)=true∧fs[j]? =some (some (t,τ)))∨look E t=some τ
 | [],k,h=> .inr h
 | none :: r,k,h=>by
   rcases Gn (fs:=r) (k:=k + 1) h with⟨j,J,ab⟩ | J
   ·exact .inl ⟨j + 1,by rw [← J]; congr 1; omega,by simpa using ab⟩
   ·exact .inr J
 | some x :: r,k,h=>by
   have aQ:look (hN ls E (k + 1) r) t=some τ→ (∃ j,ls (k + j)=true∧ (some x :: r)[j]? =some (some (t,τ)))∨look E t=some τ:=fun h=>by
    rcases Gn (fs:=r) (k:=k + 1) h with⟨j,J,ab⟩ | J
    ·exact .inl ⟨j + 1,by rw [← J]; congr 1; omega,by simpa using ab⟩
    ·exact .inr J
   unfold hN at h
   cases aq:ls k with
   | false=>rw [aq] at h; exact aQ h
   | true=>
     rw [aq] at h
     simp only [cond_true,look] at h
     cases hb:Nat.beq x.1 t with
     | true=>
       rw [hb] at h
       have J:x.2=τ:=by simpa using h
       have ab:=ep.1 hb
       exact .inl ⟨0,aq,by rw [← J,← ab]; rfl⟩
     | false=>rw [hb] at h; exact aQ h
theorem wh {ls:Nat→Bool} {E:List (Nat × I)} {t:Nat} :∀ {fs:List (Option (Nat × I))} {k:Nat},t ∉ iG fs→look (hN ls E k fs) t=look E t
 | [],k,h=>rfl
 | none :: r,k,h=>wh (fs:=r) (k:=k + 1) h
 | some x :: r,k,h=>by
   have J:t≠x.1∧t ∉ iG r:=by simpa [iG] using h
   unfold hN
   cases aq:ls k with
   | false=>exact wh J.2
   | true=>
     have hb:Nat.beq x.1 t=false:=by
      cases hb:Nat.beq x.1 t with
      | false=>rfl
      | true=>exact absurd (ep.1 hb).symm J.1
     simp only [cond_true,look,hb,cond_false]
     exact wh J.2
theorem Ch {fs:List (Option (Nat × I))} {j:Nat} {x:Nat × I} (h:fs[j]? =some (some x)):x.1∈iG fs:=
 List.mem_filterMap.2 ⟨_,List.mem_of_getElem? h,rfl⟩
theorem CN {ls:Nat→Bool} {E:List (Nat × I)} :∀ {fs:List (Option (Nat × I))} {k j:Nat} {x:Nat × I},(iG fs).Nodup→fs[j]? =some (some x)→ls (k + j)=true→look (hN ls E k fs) x.1=some x.2
 | [],k,j,x,_,h,_=>by simp at h
 | none :: r,k,j,x,aO,h,al=>by
   cases j with
   | zero=>simp at h
   | succ j=>exact CN (fs:=r) (k:=k + 1) (j:=j) aO (by simpa using h) (by rw [← al]; congr 1; omega)
 | some y :: r,k,j,x,aO,h,al=>by
   have nQ:y.1 ∉ iG r∧ (iG r).Nodup:=by simpa [iG] using aO
   cases j with
   | zero=>
     have:y=x:=by simpa using h
     subst this
     have al:ls k=true:=al
     unfold hN
     simp only [al,cond_true,look,Nat.beq_refl]
   | succ j=>
     have cR:r[j]? =some (some x):=by simpa using h
     have aj:=CN (fs:=r) (k:=k + 1) (E:=E) (ls:=ls) nQ.2 cR (by rw [← al]; congr 1; omega)
     unfold hN
     cases aq:ls k with
     | false=>exact aj
     | true=>
       have hb:Nat.beq y.1 x.1=false:=by
        cases hb:Nat.beq y.1 x.1 with
        | false=>rfl
        | true=>exact absurd (by rw [ep.1 hb]; exact Ch cR) nQ.1
       simp only [cond_true,look,hb,cond_false]
       exact aj
theorem M0 {fs:List (Option (Nat × I))} {E:List (Nat × I)} {t:Nat} {τ:I} :∀ {us:List Nat},look (n0 fs E us) t=some τ→ (∃ j∈us,fs[j]? =some (some (t,τ)))∨look E t=some τ
 | [],h=> .inr h
 | i :: r,h=>by
   have aQ:look (n0 fs E r) t=some τ→ (∃ j∈i :: r,fs[j]? =some (some (t,τ)))∨look E t=some τ:=fun h=>by
    rcases M0 h with⟨j,J,ab⟩ | J
    ·exact .inl ⟨j,List.mem_cons_of_mem _ J,ab⟩
    ·exact .inr J
   unfold n0 at h
   split at h
   ·rename_i x an
    simp only [look] at h
    cases hb:Nat.beq x.1 t with
    | true=>
      rw [hb] at h
      have J:x.2=τ:=by simpa using h
      have ab:=ep.1 hb
      exact .inl ⟨i,by simp,by rw [an,← J,← ab]⟩
    | false=>rw [hb] at h; exact aQ h
   ·exact aQ h
theorem Xo {fs:List (Option (Nat × I))} {E:List (Nat × I)} {ls:Nat→Bool} {us:List Nat} (aO:(iG fs).Nodup) (aL:∀ t∈iG fs,look E t=none) (hu:∀ j∈us,ls j=true) {t:Nat} {τ:I} (h:look (n0 fs E us) t=some τ):look (hN ls E 0 fs) t=some τ:=by
 rcases M0 h with⟨j,J,ab⟩ | J
 ·exact CN aO ab (by rw [Nat.zero_add]; exact hu j J)
 ·rw [wh fun ab=>by rw [aL t ab] at J; cases J]; exact J
theorem LA:∀ {E:List (Nat × I)} {t:Nat},(E.map (·.1)).contains t=false→look E t=none
 | [],t,_=>rfl
 | (s,σ) :: r,t,h=>by
   have J: ¬ t=s∧ (r.map (·.1)).contains t=false:=by simpa using h
   have hb:Nat.beq s t=false:=by
    cases hb:Nat.beq s t with
    | false=>rfl
    | true=>exact absurd (ep.1 hb).symm J.1
   simp only [look,hb,cond_false]
   exact LA J.2
def M1 (ops:Array Oper) (n w mh xi:Nat) (gk:List (Option Nat)) (oG:List (List Nat)) (E:List Nat):Bool:=
 decide (gk.length=n) && decide (n≤ops.size) && decide (w < n) && decide (mh :: gk.filterMap id).Nodup && ((mh :: gk.filterMap id).all fun s=> !E.contains s && Nat.blt s xi) &&
 ((List.range n).all fun i=>((ops[i]?).map fun o=>(o.dst ==if i=w then some mh else(gk[i]?).getD none) && o.guard.isNone && (decide (i=w) || ((gk[i]?).getD none).isSome) && o.after.all fun e=> !Region.binds .any e || decide (e.on < i)).getD false &&
   ((oG[i]?).getD []).all fun k=>decide (k≠w) && Region.waitsFor .any ops i k) &&
 decide ((gk[w]?).getD none=none) &&
 (decide (n=ops.size) || (Region.sinkB .any ops n && Region.chainB .any ops n)) &&
 Region.seqB .any ops (ops.size - n) n ((List.range n).foldl (fun l i=>l.setIfInBounds i true) (Array.replicate ops.size false))
def qO (c:c8) (E:List (Nat × I)) (L:List aN) {γ:Type} (K:γ→Prop) (gU:γ→List aN) (fs:List (Option (Nat × I))):List Oper→List (Option (Nat × I))→List (List Nat)→Prop
 | o :: os,some x :: r,u :: us=>(b3 c (n0 fs E u) L o x.2∧ ∀ y,K y→b3 c (n0 fs E u) (gU y) o x.2)∧qO c E L K gU fs os r us
 | _ :: os,none :: r,_ :: us=>qO c E L K gU fs os r us
 | _,_,_=>True
theorem qO.get {γ:Type} {K:γ→Prop} {gU:γ→List aN} {fs:List (Option (Nat × I))} :∀ {os:List Oper} {rs:List (Option (Nat × I))} {us:List (List Nat)},qO c E L K gU fs os rs us→ ∀ {i:Nat} {o:Oper} {x:Nat × I} {u:List Nat},os[i]? =some o→rs[i]? =some (some x)→us[i]? =some u→
 b3 c (n0 fs E u) L o x.2∧ ∀ y,K y→b3 c (n0 fs E u) (gU y) o x.2
 | o :: os,some x :: r,u :: us,h,0,o',Ei,Ej,J,ab,aE=>by
   have ay:o=o':=by simpa using J
   have aS:x=Ei:=by simpa using ab
   have cW:u=Ej:=by simpa using aE
   subst ay aS cW
   exact h.1
 | o :: os,some x :: r,u :: us,h,i + 1,o',Ei,Ej,J,ab,aE=>qO.get h.2 (i:=i) (by simpa using J) (by simpa using ab) (by simpa using aE)
 | o :: os,none :: r,u :: us,h,0,o',Ei,Ej,J,ab,aE=>by simp at ab
 | o :: os,none :: r,u :: us,h,i + 1,o',Ei,Ej,J,ab,aE=>by
   have h:qO c E L K gU fs os r us:=h
   exact qO.get h (i:=i) (by simpa using J) (by simpa using ab) (by simpa using aE)
 | [],_,_,_,i,_,_,_,J,_,_=>by simp at J
 | _ :: _,[],_,_,i,_,_,_,_,ab,_=>by simp at ab
 | _ :: _,_ :: _,[],_,i,_,_,_,_,_,aE=>by simp at aE
theorem U7 {pf:Nat} {l:List Oper} (hm:c.P.follows .mixedOrders=true) (n w mh xi:Nat) {γ:Type} {K:γ→Prop} (fs:List (Option (Nat × I))) (gk:List (Option Nat)) (oG:List (List Nat)) (es:List Nat) (DW:γ→I) (gU:γ→List aN)
 {Jl:Oper} {Jm:List Nat} (ZP:l[w]? =some Jl) (ZQ:oG[w]? =some Jm) (IF:c.n=xi) (ZR:(fs.map fun x=>x.map (·.1))=gk) (abb:oG.length=n) (u0:E.map (·.1)=es) (g2:M1 l.toArray n w mh xi gk oG es=true)
 (cE:qO c E L K gU fs (l.take n) fs oG)
 (hw:∀ (rG:Exit→Act→World→Prop) (E':List (Nat × I)),(∀ {t τ},look (n0 fs E Jm) t=some τ→look E' t=some τ)→ (∀ y,K y→ae c rG .normal ((mh,DW y) :: E') (gU y))→ak c l.toArray rG [Jl] E' L)
 (cc:∀ y,K y→ak c l.toArray Q (l.drop n) ((mh,DW y) :: hN (fun _=>true) E 0 fs) (gU y)):ag c Q (.region pf l.toArray true) E L:=fun a W s=>by
 subst IF ZR u0
 refine wpIn_region_any hm ?_
 simp only [M1,Bool.and_eq_true,decide_eq_true_eq,Bool.or_eq_true] at g2
 obtain⟨⟨⟨⟨⟨⟨⟨⟨hlen,aO⟩,ZS⟩,hA⟩,PB⟩,ix⟩,ZT⟩,zr⟩,uG⟩:=g2
 have hlen:fs.length=n:=by simpa using hlen
 have ZU:(fs.map fun x=>x.map (·.1)).filterMap id=iG fs:=by
  unfold iG; rw [List.filterMap_map]; rfl
 rw [ZU] at hA PB
 obtain⟨PC,hA⟩:=List.nodup_cons.1 hA
 have ZV:∀ t,(E.map (·.1)).contains t=false→look E t=none:=fun t h=>LA h
 have aL:∀ t∈mh :: iG fs,look E t=none∧Nat.blt t c.n=true:=fun t cc=>by
  have:=List.all_eq_true.1 PB t cc
  simp only [Bool.and_eq_true,Bool.not_eq_true'] at this
  exact⟨ZV t this.1,this.2⟩
 have IG:∀ t∈iG fs,look E t=none:=fun t cc=>(aL t (List.mem_cons_of_mem _ cc)).1
 have rr:∀ i o,i < n→l.toArray[i]? =some o→ (o.dst=if i=w then some mh else((fs[i]?).getD none).map (·.1))∧o.guard=none∧ (i=w∨ ∃ x,fs[i]? =some (some x))∧ (∀ e∈o.after,Region.binds .any e=true→e.on < i)∧ ∀ k∈ (oG[i]?).getD [],k≠w∧Region.waitsFor .any l.toArray i k=true:=fun i o aj bo=>by
  have J:=List.all_eq_true.1 ix i (List.mem_range.2 aj)
  simp only [Bool.and_eq_true] at J
  obtain⟨ab,aE⟩:=J
  simp only [bo,Option.map_some,Option.getD_some,Bool.and_eq_true,beq_iff_eq] at ab
  obtain⟨⟨⟨aW,aX⟩,bk⟩,cV⟩:=ab
  have ZW:((fs.map fun x=>x.map (·.1))[i]?).getD none=((fs[i]?).getD none).map (·.1):=by
   rw [List.getElem?_map]
   cases fs[i]? with
   | none=>rfl
   | some x=>rfl
  rw [ZW] at aW bk
  refine⟨aW,by simpa using aX,?_,fun e he hb=> ?_,fun k aq=> ?_⟩
  ·simp only [Bool.or_eq_true,decide_eq_true_eq] at bk
   rcases bk with bk | bk
   ·exact .inl bk
   ·right
    cases an:fs[i]? with
    | none=>rw [an] at bk; cases bk
    | some x=>
      cases x with
      | none=>rw [an] at bk; cases bk
      | some x=>exact⟨x,rfl⟩
  ·have:=Array.all_eq_true_iff_forall_mem.1 cV e he
   simp [hb] at this
   exact this
  ·have:=List.all_eq_true.1 aE k aq
   simpa using this
 have YZ:fs[w]? =some none:=by
  have J:((fs.map fun x=>x.map (·.1))[w]?).getD none=none:=ZT
  rw [List.getElem?_map] at J
  cases an:fs[w]? with
  | none=>have:=List.getElem?_eq_none_iff.1 an; omega
  | some x=>
    cases x with
    | none=>rfl
    | some x=>rw [an] at J; cases J
 let S:Array Bool→Act→World→Prop:=fun bl a W=>(bl.getD w false=false→bG c (hN (fun i=>bl.getD i false) E 0 fs) L a W)∧ (bl.getD w false=true→ ∃ y,K y∧bG c ((mh,DW y) :: hN (fun i=>bl.getD i false) E 0 fs) (gU y) a W)
 have h:=TP (c:=c) (ops:=l.toArray) (Q:=Q) aO (fun i o aj bo=>(rr i o aj bo).2.2.2.1) zr uG S ?_ ?_ n (Array.replicate l.toArray.size false) a W.drew (Nat.le_trans (List.length_filter_le _ _) (by simp)) ?_ ?_
 ·rw [show n + (l.toArray.size - n)=l.toArray.size by omega] at h
  exact h
 ·
  intro bl i o a W inv aj bo j6 oc u9
  obtain⟨dT,cT,qf,Ee,AU⟩:=rr i o aj bo
  have sK:i < bl.size:=by rw [inv.size]; omega
  have DS:(bl.setIfInBounds i true).getD i false=true:=by simp [sK]
  have g6:∀ j,j≠i→ (bl.setIfInBounds i true).getD j false=bl.getD j false:=fun j aF=>getD_set_ne false (fun e=>aF e.symm)
  have IH:i < oG.length:=by omega
  have Dv:∀ k∈oG[i],bl.getD k false=true:=fun k aq=>by
   have:=AU k (by rw [List.getElem?_eq_getElem IH]; exact aq)
   obtain⟨nf,kP,e,he,hb,nN⟩:=Region.waitsFor_spec this.2
   rw [bo] at kP; cases kP
   rw [← nN]; exact oc e he hb
  have PD:l[i]? =some o:=by simpa using bo
  have HC:∀ {t τ},look (n0 fs E oG[i]) t=some τ→look (hN (fun i=>bl.getD i false) E 0 fs) t=some τ:=fun {t τ} h=>Xo hA IG Dv h
  by_cases DX:i=w
  ·subst DX
   rw [if_pos rfl] at dT
   have ay:Jl=o:=Option.some.inj (ZP.symm.trans PD)
   have aS:Jm=oG[i]:=Option.some.inj (ZQ.symm.trans (List.getElem?_eq_getElem IH))
   subst ay aS
   have Il:=hw (px (fun gI W'=>S (bl.setIfInBounds i true) gI W') Q) (hN (fun i=>bl.getD i false) E 0 fs) HC fun y a4 gI W' st=> ?_
   ·exact BZ bo (Il a W (u9.1 j6))
   ·refine⟨fun h=>(by rw [DS] at h; cases h),fun _=>⟨y,a4,?_⟩⟩
    have:hN (fun j=>(bl.setIfInBounds i true).getD j false) E 0 fs=hN (fun j=>bl.getD j false) E 0 fs:=by
     have key:∀ (gs:List (Option (Nat × I))) (k:Nat),(∀ j,gs[j]? ≠none→gs[j]? =fs[k + j]?)→hN (fun j=>(bl.setIfInBounds i true).getD j false) E k gs=hN (fun j=>bl.getD j false) E k gs:=by
      intro gs
      induction gs with
      | nil=>intro k _; rfl
      | cons x r bO=>
        intro k aq
        have aQ:=bO (k + 1) fun j aF=>by
         have:=aq (j + 1) (by simpa using aF)
         rw [List.getElem?_cons_succ] at this
         rw [this]; congr 1; omega
        cases x with
        | none=>exact aQ
        | some x=>
          have bP:=aq 0 (by simp)
          have uY:k≠i:=fun e=>by
           rw [e,Nat.add_zero,YZ] at bP
           simp at bP
          unfold hN
          simp only [g6 k uY,aQ]
     exact key fs 0 fun j _=>by rw [Nat.zero_add]
    rw [this]; exact st
  ·obtain⟨x,an⟩:=qf.resolve_left DX
   rw [if_neg DX,an] at dT
   have s0:(bl.setIfInBounds i true).getD w false=bl.getD w false:=g6 w fun e=>DX e.symm
   have bZ:=qO.get cE (i:=i) (by rw [List.getElem?_take,if_pos aj]; exact PD) an (List.getElem?_eq_getElem IH)
   have AA:=Ch an
   have aaW:∀ (iN:List (Nat × I)),(∀ t τ,look ((x.1,x.2) :: iN) t=some τ→True):=fun _ _ _ _=>trivial
   have Oe:∀ t τ,look (hN (fun j=>(bl.setIfInBounds i true).getD j false) E 0 fs) t=some τ→look ((x.1,x.2) :: hN (fun j=>bl.getD j false) E 0 fs) t=some τ:=fun t τ al=>by
    rcases Gn al with⟨j,Jn,Ek⟩ | J
    ·rw [Nat.zero_add] at Jn
     by_cases jb:j=i
     ·subst jb
      rw [an] at Ek; cases Ek
      simp only [look,Nat.beq_refl,cond_true]
     ·rw [g6 j jb] at Jn
      have ab:=CN (E:=E) (ls:=fun j=>bl.getD j false) (k:=0) hA Ek (by rw [Nat.zero_add]; exact Jn)
      cases hb:Nat.beq x.1 t with
      | false=>simp only [look,hb,cond_false]; exact ab
      | true=>
        exfalso
        have ay:=ep.1 hb
        have uniq:∀ (gs:List (Option (Nat × I))) (p q:Nat) (u v:Nat × I),(iG gs).Nodup→gs[p]? =some (some u)→gs[q]? =some (some v)→u.1=v.1→p=q:=by
         intro gs
         induction gs with
         | nil=>intro p q u v _ hp; simp at hp
         | cons z r bO=>
           intro p q u v aO hp hq e
           have aQ:(iG r).Nodup:=by
            cases z with
            | none=>exact aO
            | some z=>exact(show z.1 ∉ iG r∧ (iG r).Nodup by simpa [iG] using aO).2
           cases p with
           | zero=>
             have dh:z=some u:=by simpa using hp
             subst dh
             cases q with
             | zero=>rfl
             | succ q=>exact absurd (by rw [e]; exact Ch (by simpa using hq)) (show u.1 ∉ iG r∧ (iG r).Nodup by simpa [iG] using aO).1
           | succ p=>
             cases q with
             | zero=>
               have dh:z=some v:=by simpa using hq
               subst dh
               exact absurd (by rw [← e]; exact Ch (by simpa using hp)) (show v.1 ∉ iG r∧ (iG r).Nodup by simpa [iG] using aO).1
             | succ q=>rw [bO p q u v aQ (by simpa using hp) (by simpa using hq) e]
        exact jb (uniq fs j i _ _ hA Ek an ay.symm)
    ·have hb:Nat.beq x.1 t=false:=by
      cases hb:Nat.beq x.1 t with
      | false=>rfl
      | true=>
        have ay:=ep.1 hb
        rw [← ay,IG x.1 AA] at J; cases J
     simp only [look,hb,cond_false]
     rw [wh fun ab=>by rw [IG t ab] at J; cases J]; exact J
   have s6:=(aL x.1 (List.mem_cons_of_mem _ AA)).2
   refine BZ bo ?_
   cases DY:bl.getD w false with
   | false=>
     refine ak.v (τ:=x.2) (d:=x.1) (fun a W st=>bZ.1 a W (st.less fun t τ h=>⟨τ,HC h,fun _ _ _ h=>h⟩)) cT dT s6 (ak.nil fun gI W' st=>⟨fun _=>st.less fun t τ h=>⟨τ,Oe t τ h,fun _ _ _ h=>h⟩,fun h=> ?_⟩) a W (u9.1 DY)
     rw [s0,DY] at h; cases h
   | true=>
     obtain⟨y,a4,Ir⟩:=u9.2 DY
     have ZX:∀ {t τ},look (n0 fs E oG[i]) t=some τ→look ((mh,DW y) :: hN (fun i=>bl.getD i false) E 0 fs) t=some τ:=fun {t τ} h=>by
      have J:=HC h
      cases hb:Nat.beq mh t with
      | false=>simp only [look,hb,cond_false]; exact J
      | true=>
        exfalso
        have ay:=ep.1 hb
        subst ay
        rw [wh PC,(aL mh (by simp)).1] at J; cases J
     refine ak.v (τ:=x.2) (d:=x.1) (fun a W st=>bZ.2 y a4 a W (st.less fun t τ h=>⟨τ,ZX h,fun _ _ _ h=>h⟩)) cT dT s6 (ak.nil fun gI W' st=>⟨fun h=> ?_,fun _=>⟨y,a4,st.less fun t τ h=>⟨τ,?_,fun _ _ _ h=>h⟩⟩⟩) a W Ir
     ·rw [s0,DY] at h; cases h
     ·cases hb:Nat.beq mh t with
      | true=>
        have ay:=ep.1 hb
        subst ay
        have mA:Nat.beq x.1 mh=false:=by
         cases mA:Nat.beq x.1 mh with
         | false=>rfl
         | true=>exact absurd (by rw [← ep.1 mA]; exact AA) PC
        simp only [look,hb,cond_true] at h ⊢
        simp only [mA,cond_false]; exact h
      | false=>
        simp only [look,hb,cond_false] at h ⊢
        have:=Oe t τ h
        simp only [look] at this
        exact this
 ·intro bl a W sB u9
  obtain⟨y,a4,st⟩:=u9.2 (sB w ZS)
  refine cc y a4 a W (st.less fun t τ h=>⟨τ,?_,fun _ _ _ h=>h⟩)
  have key:∀ (gs:List (Option (Nat × I))) (k:Nat),k + gs.length≤n→hN (fun j=>bl.getD j false) E k gs=hN (fun _=>true) E k gs:=by
   intro gs
   induction gs with
   | nil=>intro k _; rfl
   | cons x r bO=>
     intro k aq
     have aQ:=bO (k + 1) (by simp only [List.length_cons] at aq; omega)
     cases x with
     | none=>exact aQ
     | some x=>
       unfold hN
       simp only [sB k (by simp only [List.length_cons] at aq; omega),aQ]
  rw [key fs 0 (by omega)]; exact h
 ·exact
  {size:=by simp
   closed:=fun j nf _ al=>by rw [getD_replicate_false] at al; cases al
   tail:=fun t _ cc=>by simp at cc; simp [cc] }
 ·refine⟨fun _=> ?_,fun h=>by rw [getD_replicate_false] at h; cases h⟩
  have key:∀ (gs:List (Option (Nat × I))) (k:Nat),hN (fun j=>(Array.replicate l.toArray.size false).getD j false) E k gs=E:=by
   intro gs
   induction gs with
   | nil=>intro k; rfl
   | cons x r bO=>
     intro k
     have aQ:=bO (k + 1)
     cases x with
     | none=>exact aQ
     | some x=>
       unfold hN
       simp only [getD_replicate_false,cond_false] at aQ ⊢
       exact aQ
  show bG c (hN (fun j=>(Array.replicate l.toArray.size false).getD j false) E 0 fs) L a W.drew
  rw [key]
  exact s.world (Fr.drew W)
end
end Gv
namespace Gv
open Go
set_option linter.unusedVariables false
set_option linter.unusedSimpArgs false
def q7 {α:Type} (n:Nat) (m:Option (List α)):Option (List α):=m.bind fun y=>if y.length=n then some y else none
theorem FI {α:Type} {n:Nat} {m:Option (List α)} {y:List α} (h:q7 n m=some y):m=some y:=by
 unfold q7 at h
 cases m with
 | none=>cases h
 | some z=>
   rw [Option.bind_some] at h
   split at h
   ·exact h
   ·cases h
theorem tF {α:Type} {n:Nat} {m:Option (List α)} {y:List α} (h:q7 n m=some y):y.length=n:=by
 unfold q7 at h
 cases m with
 | none=>cases h
 | some z=>
   rw [Option.bind_some] at h
   split at h
   ·rename_i e; cases h; exact e
   ·cases h
def aat (n:Nat) (DZ:List Nat):Option Nat→Prop
 | none=> ∀ j,j < n→j∈DZ
 | some j=>j < n∧j ∉ DZ
def aK.next (n:Nat) (DZ:List Nat):aK (Option Nat):=fun R=> ∀ j,aat n DZ j→R j
structure abA (es:Array MapEntry) (clock n:Nat):Prop where
 size:es.size=n
 born:∀ x∈es.toList,x.born < clock
 nodup:(es.toList.map MapEntry.born).Nodup
def dB.and (cp:dB) (o:Obj):dB where
 holds A W x:=cp.holds A W x∧x=o
 l1:=cp.l1
 mono e h:=⟨cp.mono e h.1,h.2⟩
section
variable {c:c8} {E:List (Nat × I)} {L:List aN} {ops:Array Oper} {Q:Exit→Act→World→Prop}
variable {d:Option Tmp} {ty:TypeId} {pos:String} {af:Array Edge} {g:Option (Nat × Bool)} {x y z:Operand} {t t2:TypeId}
variable {b6:Type} [fi b6] {hp:bg b6} {loc:List aN}
theorem TA {key:Option Nat} {n m cap:Nat} (aO:n=m) (h:bb c E L x (.eq (aZ key n cap))):bb c E L x (.eq (aZ key m cap)):=aO ▸ h
theorem bG.swap {aC:List aN} {a:Act} {W:World} (h:bG c E L a W) (aq:aP aC=aP L) (bo:∀ e∈aC,e.ok (aP L ++ c.b2) W):bG c E aC a W:=
 {defers:=h.defers
  size:=h.size
  env:=by rw [aq]; exact h.env
  dw:=h.dw
  own:=by rw [aq]; exact bo
  nodup:=by rw [aq]; exact h.nodup
  lt:=by rw [aq]; exact h.lt
  fH:=by rw [aq]; exact h.fH
  eQ:=by rw [aq]; exact h.eQ }
theorem j9.get {α β:Type} [ah α] [ah β] {A W} :∀ {es:List MapEntry} {ez:List (α × β)},j9 A W es ez→ ∀ {j:Nat} {x:α × β},ez[j]? =some x→ ∃ e,es[j]? =some e∧ (I.of x.1).holds A W e.key∧ (I.of x.2).holds A W e.val
 | _,_,.nil,j,x,h=>by simp at h
 | _,_,.cons J ab r,0,x,h=>by
   have h:some _=some x:=h
   cases h
   exact⟨_,rfl,J,ab⟩
 | _,_,.cons J ab r,j + 1,x,h=>by
   obtain⟨e,au,aT⟩:=r.get (j:=j) (by simpa using h)
   exact⟨e,by simpa using au,aT⟩
end
end Gv
