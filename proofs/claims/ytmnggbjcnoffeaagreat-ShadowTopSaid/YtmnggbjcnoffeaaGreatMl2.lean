/-
  The library of the decompiler, as far as it is needed here. Conditions: none.
-/
import Derived.Test.YtmnggbjcnoffeaaGreatMl1
namespace Gv
open Go
set_option linter.unusedVariables false
set_option linter.unusedSimpArgs false
def aG.any (α:Type):aG α:=fun Q=> ∀ x,Q x
theorem aG.any_bind {α β:Type} {k:α→aG β} {R:β→Prop} (h:aG.bind (aG.any α) k R) (x:α):k x R:=h x
theorem gl.append {A:List Nat} {W:World} :∀ {τs σs:List I} {vs us:List Value},gl A W τs vs→gl A W σs us→gl A W (τs ++ σs) (vs ++ us)
 | _,_,_,_,.nil,h=>h
 | _,_,_,_,.cons h r,ab=> .cons h (r.append ab)
section
variable {c:cU} {E:List (Nat × I)} {L:List aH} {ops:Array Oper} {Q:Exit→Act→World→Prop}
variable {d:Option Tmp} {ty:TypeId} {pos:String} {af:Array Edge} {g:Option (Nat × Bool)} {x y:Operand} {t t2:TypeId}
def gM (c:cU) (E:List (Nat × I)) (L:List aH) (o:Oper) {δ:Type} (ρ:δ→I) (ay:δ→List aH):Prop:=
 ∀ a W,bC c E L a W→fK c.P o a W fun v W'=> ∃ q,bC c E (ay q) a W'∧ (ρ q).holds (aJ (ay q) ++ c.bP) W' v
theorem ah.MN {o:Oper} {rest:List Oper} {a6:Nat} {δ:Type} {ρ:δ→I} {ay:δ→List aH} (h:gM c E L o ρ ay) (b0:o.guard=none) (hd:o.dst=some a6) (aO:Nat.blt a6 c.n=true)
 (k:∀ q,ah c ops Q rest ((a6,ρ q) :: E) (ay q)):ah c ops Q (o :: rest) E L:=fun a W s=>
 hH b0 (h a W s) fun v W' ⟨q,f,aY⟩=>by
  rw [hd]
  exact k q _ _ (f.put (by simpa using aO) aY)
theorem gM.perm {iK:List aH} {o:Oper} {δ:Type} {ρ:δ→I} {ay L2:δ→List aH} (p:L.Perm iK) (M4:∀ q,(ay q).Perm (L2 q)) (h:gM c E iK o ρ ay):gM c E L o ρ L2:=fun a W s=>by
 have:=h a W (s.perm p)
 unfold fK at this ⊢
 exact Oper.wp_mono (fun hZ W' ⟨v,J,q,ab,aC⟩=>⟨v,J,q,ab.perm (M4 q),(ρ q).mono (lY (M4 q)) aC⟩) this
theorem gM.to {o:Oper} {δ:Type} {ρ:δ→I} {ay L2:δ→List aH} (e:∀ q,ay q=L2 q) (h:gM c E L o ρ ay):gM c E L o ρ L2:=by
 have:ay=L2:=funext e
 subst this; exact h
theorem gM.U4 {o:Oper} {δ:Type} {τ:I} (h:gM c E L o (fun _:δ=>τ) (fun _=>L)):iF c E L o τ:=fun a W s=>by
 have:=h a W s
 unfold fK at this ⊢
 exact Oper.wp_mono (fun hZ W' ⟨v,J,q,ab,aC⟩=>⟨v,J,ab,aC⟩) this
theorem gM.call {o:Oper} {f:FuncId} {as:Act→List Value} {τs:List I} {Lin Lr:List aH} {δ:Type} {ρ:δ→I} {Lo:δ→List aH} (h:cz c.P f τs Lin ρ Lo)
 (ar:∀ a W,bC c E (Lin ++ Lr) a W→ (execOp a.eval o).run c.P W= .ok (.enter f (as a).toArray) W∧gl (aJ (Lin ++ Lr) ++ c.bP) W τs (as a)):gM c E (Lin ++ Lr) o ρ (fun q=>Lo q ++ Lr):=fun a W s=>by
 obtain⟨jU,an⟩:=ar a W s
 have kI:=s.nodup
 rw [eA] at kI
 obtain⟨lJ,o6,oj⟩:=List.nodup_append.1 kI
 have lA:Ext (aJ (Lin ++ Lr) ++ c.bP) W (aJ Lin ++ (aJ Lr ++ c.bP)) W:=xu
 have fE:∀ k∈aJ Lr ++ c.bP,k < W.heap.size∧k ∉ aJ Lin:=fun k hm=>by
  rcases List.mem_append.1 hm with hm | hm
  ·exact⟨s.lt k (by rw [eA]; exact List.mem_append.2 (.inr hm)),fun h=>oj k h k hm rfl⟩
  ·obtain⟨J,ab⟩:=s.er k hm
   exact⟨J,fun h=>ab (by rw [eA]; exact List.mem_append.2 (.inl h))⟩
 have cq:∀ k∈aJ Lin,k < W.heap.size:=fun k hm=>s.lt k (by rw [eA]; exact List.mem_append.2 (.inl hm))
 refine .sh (f:=f) (args:=(as a).toArray) (W':=W) jU ?_
 refine(h (aJ Lr ++ c.bP) W (as a) fE lJ cq (fun e he=>aH.qX (s.own e (List.mem_append.2 (.inl he))) lA fun _ _=>rfl) (an.mono lA)).mono fun e W' ⟨v,a6,he,a8,J,ab,aC,aU⟩=> ?_
 exact⟨v,he,a6,s.after a8 J ab aC,(ρ a6).mono DD aU⟩
theorem gM.TM {o:Oper} {bW:Type} [e1 bW] {hp:bb bW} {Lin Lr:List aH} {δ:Type} {ρ:δ→I} {Lo:δ→List aH} {hq:δ→bb bW} (n m:Nat) (au:L.drop n=bd hp) (J:(L.take n).take m=Lin) (ab:(L.take n).drop m=Lr)
 (h:gM c E ((Lin ++ bd hp) ++ Lr) o ρ (fun q=>(Lo q ++ bd (hq q)) ++ Lr)):gM c E L o ρ (fun q=>(Lo q ++ Lr) ++ bd (hq q)):=by
 have e:L=(Lin ++ Lr) ++ bd hp:=by rw [← J,← ab,List.take_append_drop,← au,List.take_append_drop]
 clear au J ab
 subst e
 exact h.perm nc fun q=>nc
theorem gM.mH {f:FuncId} {xs:List Operand} {ats:Array TypeId} {bW:Type} [e1 bW] {hp:bb bW} {τs:List I} {Lin Lr:List aH} {δ:Type} {ρ:δ→I} {Lo:δ→List aH} {hq:δ→bb bW} (n m:Nat) (au:L.drop n=bd hp) (dO:bQ c.P f) (h:cz c.P f τs (Lin ++ bd hp) ρ (fun d=>Lo d ++ bd (hq d)))
 (J:(L.take n).take m=Lin) (ab:(L.take n).drop m=Lr) (an:hf c E L xs τs):gM c E L ⟨d,.call ⟨.value (.func f),xs.toArray,ats⟩,ty,pos,af,g⟩ ρ (fun q=>(Lo q ++ Lr) ++ bd (hq q)):=by
 have e:L=(Lin ++ Lr) ++ bd hp:=by rw [← J,← ab,List.take_append_drop,← au,List.take_append_drop]
 refine gM.TM n m au J ab (gM.call (as:=fun a=>xs.map a.eval) h fun a W s=>⟨by simp [execOp,resolve,Deferred.ofValue,Act.eval,invoke,dO.run],?_⟩)
 subst e
 exact(an.holds a W (s.perm nc.symm)).mono (lY nc)
theorem gM.lu {f:FuncId} {xs:List Operand} {ats:Array TypeId} {τs:List I} {Lin Lr:List aH} {δ:Type} {ρ:δ→I} {Lo:δ→List aH} (m:Nat) (dO:bQ c.P f) (h:cz c.P f τs Lin ρ Lo)
 (J:L.take m=Lin) (ab:L.drop m=Lr) (an:hf c E L xs τs):gM c E L ⟨d,.call ⟨.value (.func f),xs.toArray,ats⟩,ty,pos,af,g⟩ ρ (fun q=>Lo q ++ Lr):=by
 have e:L=Lin ++ Lr:=by rw [← J,← ab,List.take_append_drop]
 clear J ab
 subst e
 exact gM.call (as:=fun a=>xs.map a.eval) h fun a W s=>⟨by simp [execOp,resolve,Deferred.ofValue,Act.eval,invoke,dO.run],an.holds a W s⟩
theorem ba.Rb {ow:Operand} {f:FuncId} {yP τs:List I} {xs:List Operand} {ats:Array TypeId} (dO:bQ c.P f) (a8:ba c E L ow (.gT f yP)) (an:hf c E L xs τs) {a:Act} {W:World} (s:bC c E L a W):
 ∃ ha:List Value,(execOp a.eval ⟨d,.call ⟨.value ow,xs.toArray,ats⟩,ty,pos,af,g⟩).run c.P W= .ok (.enter f (xs.map a.eval ++ ha).toArray) W∧gl (aJ L ++ c.bP) W (τs ++ yP) (xs.map a.eval ++ ha):=by
 obtain⟨ha,J,ab⟩:=a8 a W s
 exact⟨ha,by simp [execOp,resolve,Deferred.ofValue,J,invoke,dO.run],(an.holds a W s).append ab⟩
theorem gM.gT {ow:Operand} {f:FuncId} {yP τs:List I} {xs:List Operand} {ats:Array TypeId} {Lin Lr:List aH} {δ:Type} {ρ:δ→I} {Lo:δ→List aH} (m:Nat) (dO:bQ c.P f) (a8:ba c E L ow (.gT f yP)) (h:cz c.P f (τs ++ yP) Lin ρ Lo)
 (J:L.take m=Lin) (ab:L.drop m=Lr) (an:hf c E L xs τs):gM c E L ⟨d,.call ⟨.value ow,xs.toArray,ats⟩,ty,pos,af,g⟩ ρ (fun q=>Lo q ++ Lr):=by
 have e:L=Lin ++ Lr:=by rw [← J,← ab,List.take_append_drop]
 clear J ab
 subst e
 intro a W s
 obtain⟨ha,aC,aU⟩:=ba.Rb (d:=d) (ty:=ty) (pos:=pos) (af:=af) (g:=g) (ats:=ats) dO a8 an s
 have kI:=s.nodup
 rw [eA] at kI
 obtain⟨lJ,o6,oj⟩:=List.nodup_append.1 kI
 have lA:Ext (aJ (Lin ++ Lr) ++ c.bP) W (aJ Lin ++ (aJ Lr ++ c.bP)) W:=xu
 have fE:∀ k∈aJ Lr ++ c.bP,k < W.heap.size∧k ∉ aJ Lin:=fun k hm=>by
  rcases List.mem_append.1 hm with hm | hm
  ·exact⟨s.lt k (by rw [eA]; exact List.mem_append.2 (.inr hm)),fun h=>oj k h k hm rfl⟩
  ·obtain⟨J,ab⟩:=s.er k hm
   exact⟨J,fun h=>ab (by rw [eA]; exact List.mem_append.2 (.inl h))⟩
 have cq:∀ k∈aJ Lin,k < W.heap.size:=fun k hm=>s.lt k (by rw [eA]; exact List.mem_append.2 (.inl hm))
 refine .sh (f:=f) (W':=W) aC ?_
 refine(h (aJ Lr ++ c.bP) W _ fE lJ cq (fun e he=>aH.qX (s.own e (List.mem_append.2 (.inl he))) lA fun _ _=>rfl) (aU.mono lA)).mono fun e W' ⟨v,a6,he,a8,J,ab,aC,aU⟩=> ?_
 exact⟨v,he,a6,s.after a8 J ab aC,(ρ a6).mono DD aU⟩
theorem hf.perm {iK:List aH} (p:L.Perm iK):∀ {xs:List Operand} {τs:List I},hf c E L xs τs→hf c E iK xs τs
 | [],[],h=>h
 | _ :: _,_ :: _,h=>⟨h.1.perm p,hf.perm p h.2⟩
 | [],_ :: _,h=>h.elim
 | _ :: _,[],h=>h.elim
theorem gM.obj {f:FuncId} {xs:List Operand} {ats:Array TypeId} {bW:Type} [e1 bW] {hp:bb bW} {p:Nat} {k:bW} {τs:List I} {Lin:List aH} {δ:Type} {ρ:δ→I} {Lo:δ→List aH} (n:Nat) (k':δ→bW) (au:L.drop n=bd hp) (hp':pat hp p=some k) (dO:bQ c.P f) (h:cz c.P f τs Lin ρ Lo)
 (av:e1.hK p k=Lin) (ji:∀ q,e1.hK p (k' q)=Lo q) (an:hf c E L xs τs):gM c E L ⟨d,.call ⟨.value (.func f),xs.toArray,ats⟩,ty,pos,af,g⟩ ρ (fun q=>L.take n ++ bd (dz hp p (k' q))):=by
 obtain⟨R,aT,a7⟩:=uw hp'
 have e:L=L.take n ++ bd hp:=by rw [← au,List.take_append_drop]
 have eX:∀ {M X:List aH},M.Perm (X ++ R)→ (L.take n ++ M).Perm (X ++ (R ++ L.take n)):=fun h=>List.perm_append_comm.trans ((h.append_right _).trans (by rw [List.append_assoc]))
 have Gz:L.Perm (Lin ++ (R ++ L.take n)):=by
  conv=>lhs; rw [e]
  exact eX (by rw [← av]; exact aT)
 refine gM.perm Gz (fun q=>(eX (a7 (k' q))).symm) ?_
 refine gM.to (fun q=>by rw [ji]) (gM.call (Lr:=R ++ L.take n) (as:=fun a=>xs.map a.eval) h fun a W s=>⟨by simp [execOp,resolve,Deferred.ofValue,Act.eval,invoke,dO.run],?_⟩)
 exact(an.holds a W (s.perm Gz.symm)).mono (lY Gz)
theorem iF.obj {f:FuncId} {xs:List Operand} {ats:Array TypeId} {bW:Type} [e1 bW] {hp:bb bW} {p:Nat} {k:bW} {τs:List I} {Lin:List aH} {δ:Type} {τ:I} (n:Nat) (au:L.drop n=bd hp) (hp':pat hp p=some k) (dO:bQ c.P f) (h:cz c.P f τs Lin (fun _:δ=>τ) (fun _=>Lin))
 (av:e1.hK p k=Lin) (an:hf c E L xs τs):iF c E L ⟨d,.call ⟨.value (.func f),xs.toArray,ats⟩,ty,pos,af,g⟩ τ:=by
 have e:L=L.take n ++ bd hp:=by rw [← au,List.take_append_drop]
 have V0:dz hp p k=hp:=by
  clear e au h av
  induction hp with
  | nil=>rfl
  | cons z r bI=>
    obtain⟨q,XH⟩:=z
    simp only [pat] at hp'
    simp only [dz]
    split at hp'
    ·rename_i e; simp only [Option.some.injEq] at hp'; rw [if_pos e,hp']
    ·rename_i e; rw [if_neg e,bI hp']
 refine gM.U4 (gM.to (fun q=> ?_) (gM.obj (d:=d) (ty:=ty) (pos:=pos) (af:=af) (g:=g) (ats:=ats) n (fun _=>k) au hp' dO h av (fun _=>av) an))
 rw [V0,← e]
theorem ah.Tq {l:List Oper} {bW:Type} [e1 bW] {hp:bb bW} {p:Nat} {Lin Lr:List aH} (n m:Nat) (mk:bW) (au:L.drop n=bd hp) (J:(L.take n).take m=Lin) (ab:(L.take n).drop m=Lr) (av:e1.hK p mk=Lin) (hm:p∈aJ Lin)
 (k:∀ a:Nat × bb bW,a.1 ∉ hp.map (·.1)∧a.2=(a.1,mk) :: hp→a.1=p→ah c ops Q l E (Lr ++ bd a.2)):ah c ops Q l E L:=fun a W s=>by
 have e:L=(Lin ++ Lr) ++ bd hp:=by rw [← J,← ab,List.take_append_drop,← au,List.take_append_drop]
 have eX:L.Perm (Lr ++ bd ((p,mk) :: hp)):=by
  rw [e,bd,av,← List.append_assoc]
  exact List.perm_append_comm.append_right _
 refine k (p,(p,mk) :: hp) ⟨fun V1=> ?_,rfl⟩ rfl _ _ (s.perm eX)
 have h8:=s.nodup
 rw [e,eA,eA] at h8
 exact(List.nodup_append.1 h8).2.2 p (List.mem_append.2 (.inl hm)) p (Kq V1) rfl
end
end Gv
namespace Gv
open Go
set_option linter.unusedVariables false
section
variable {c:cU} {E:List (Nat × I)} {L:List aH} {ops:Array Oper} {Q:Exit→Act→World→Prop}
theorem eT.q {hs:List dG} {i np:Nat} {o:Oper} {h:dG} (ct:eT c ops Q hs E L i o h):El c ops Q hs E L np i o h:=fun hd E' ay J ab _=>ct hd E' ay J ab
structure xy (P:Program) (f:FuncId) (τs:List I) {bW:Type} [e1 bW] (hp:bb bW) {α:Type} (τ:α→I) (run:∀ {σ ε:Type},(α→σ→Option (σ ⊕ ε))→σ→Option (σ ⊕ ε)):Prop where
 go:∀ {σ ε γ:Type} (Ls:σ→γ→List aH) (Lx:ε→γ→List aH) (iG:σ→γ→List aH),(∀ s g,Ls s g=iG s g ++ bd hp)→Gm P f τs [] τ (run (σ:=σ) (ε:=ε)) Ls Lx
theorem xy.of {P:Program} {f:FuncId} {fn:Func} {code:Code} {n:Nat} {τs:List I} {bW:Type} [e1 bW] {hp:bb bW} {α:Type} {τ:α→I} {run:∀ {σ ε:Type},(α→σ→Option (σ ⊕ ε))→σ→Option (σ ⊕ ε)}
 (a8:P.funcs[f]? =some fn) (hb:fn.body=some code) (aO:fn.ntmps=n) (hlen:Nat.ble (τs.length + 1) n=true)
 (h:∀ {σ ε γ:Type} (Ls:σ→γ→List aH) (Lx:ε→γ→List aH) (iG:σ→γ→List aH),(∀ s g,Ls s g=iG s g ++ bd hp)→ ∀ (step:α→σ→Option (σ ⊕ ε)) (b2:σ) (g0:γ) (r:σ ⊕ ε),run step b2=some r→
  ∀ W A u,tk P u τ Ls Lx step (fun cH W'=>Ext (aJ (Ls b2 g0) ++ A) W cH W')→
    ai ⟨P,n,W,aJ (Ls b2 g0),A,none,[]⟩ (bodyPost P fn (ja (aJ (Ls b2 g0)) A W (fun _:γ=> .cF []) (fun g=> [] ++ Lr Ls Lx r g))) code (params 0 (.eq u :: τs)) (Ls b2 g0)):xy P f τs hp τ run:=by
 refine⟨?_⟩
 intro σ ε γ Ls Lx iG lE step b2 g0 r aS A W u vs aq aY a9
 refine calls_of_wp a8 hb (wpIn_wide.1 (h Ls Lx iG lE step b2 g0 r aS W A u a9 _ _ ?_))
 have nH:gl (aJ (Ls b2 g0) ++ A) W (.eq u :: τs) (u :: vs):= .cons rfl aY
 have ko:=nH.length
 have hle:τs.length + 1≤n:=Nat.le_of_ble_eq_true hlen
 exact
 {defers:=rfl
  size:=by simp at ko; simp [aO,ko]; omega
  env:=fun t τ dQ=>by
   obtain⟨_,v,ab,aC⟩:=sc nH 0 t τ dQ
   refine⟨v,?_,aC⟩
   have cq:t < (u :: vs).length:=(List.getElem?_eq_some_iff.1 ab).1
   rw [Array.getElem?_append_left (by simpa using cq)]
   simpa using ab
  dd:= .refl _ _
  own:=aq.ok
  nodup:=aq.nodup
  lt:=aq.lt
  fs:=fun k av _=>av
  er:=aq.er }
theorem So {bW:Type} [e1 bW] {σ γ:Type} {Ls iG:σ→γ→List aH} {hp:bb bW} {s:σ} {g:γ} {p:Nat} {k:bW} {e:aH} (n:Nat) (au:L.drop n=Ls s g) (lE:∀ s g,Ls s g=iG s g ++ bd hp) (h:pat hp p=some k) (av:e1.hK p k= [e]):e∈L:=
 KJ (hq:=fun _=>hp) n au lE h av
theorem PA {gt p:Nat} {assign body:Code} {f:FuncId} {k4:List I} {bW:Type} [e1 bW] {hp:bb bW} {α σ ε γ:Type} {τ:α→I} {run:∀ {σ ε:Type},(α→σ→Option (σ ⊕ ε))→σ→Option (σ ⊕ ε)}
 {Ls:σ→γ→List aH} {Lx:ε→γ→List aH} {step:α→σ→Option (σ ⊕ ε)} {b2:σ} {g0:γ} {r:σ ⊕ ε} (iG:σ→γ→List aH) (eo:ε→Code)
 (ar:c.rd=none) (dO:bQ c.P f) (b0:look E gt=some (.gT f k4)) (jG:xy c.P f k4 hp τ run) (aS:run step b2=some r) (lE:∀ s g,Ls s g=iG s g ++ bd hp) (au:L=Ls b2 g0) (hp':Nat.blt p c.n=true)
 (ni:∀ x s r,step x s=some r→ ∀ g (km:World) (kv kn:List Nat) (l D:Nat) (rec:Loop),rec.state= .ready→
  ai ⟨c.P,c.n,km,kv,kn,some l,[]⟩ (Exit.then (zP ⟨c.P,c.n,km,kv,kn,some l,[]⟩ l body (zO ⟨c.P,c.n,km,kv,kn,some l,[]⟩ eo l D { rec with state:= .busy } Ls Lx r)) (fun _ _ _=>False)) assign ((p,τ x) :: E) (⟨some l,.is (.loop rec)⟩ :: ⟨some D,.di⟩ :: Ls s g))
 (oR:∀ bV,r= .inl bV→ ∀ g D,ag { c with ds:=D :: c.ds } Q .normal E (⟨some D,.di⟩ :: Ls bV g))
 (sJ:∀ q,r= .inr q→ ∀ g D,ai { c with ds:=D :: c.ds } Q (eo q) E (⟨some D,.di⟩ :: Lx q g)):
 ai c Q (.rangeFunc (.tmp gt) #[p] assign body) E L:=
 IX (Lin:= []) (run:=run) eo ar dO b0 (fun az aX lf=>jG.go (fun s g=>az :: aX :: Ls s g) lf (fun s g=>az :: aX :: iG s g) (fun s g=>by rw [lE]; rfl)) aS au hp' ni oR sJ
end
end Gv
namespace Gv
open Go
set_option linter.unusedVariables false
structure Raw where
 f:FuncId
 us:Option (List Value)
instance:Inhabited Raw:=⟨⟨0,none⟩⟩
def Raw.val:Raw→Value
 | ⟨f,some us⟩=> .func (.func f) #[] us.toArray
 | ⟨_,none⟩=> .nilFunc
instance:ad Raw where
 size:=1
 agg:=false
 rep _ _ cs x:=cs= [x.val]
 len h:=by rw [h]; rfl
 one h:=by
  intro v aY
  rw [h,List.mem_singleton] at aY
  subst aY
  rename_i x
  obtain⟨f,us⟩:=x
  cases us <;> rfl
 flat _:=rfl
 mono _ h:=h
instance:a5 Raw:=⟨[.nilFunc],fun _ _=>rfl⟩
section
variable {c:cU} {E:List (Nat × I)} {L:List aH} {ops:Array Oper} {Q:Exit→Act→World→Prop}
variable {d:Option Tmp} {ty:TypeId} {pos:String} {af:Array Edge} {g:Option (Nat × Bool)} {x y:Operand} {t t2:TypeId}
end
end Gv
namespace Gv
open Go
set_option linter.unusedVariables false
section
variable {c:cU} {E:List (Nat × I)} {L:List aH} {ops:Array Oper} {Q:Exit→Act→World→Prop}
theorem ah.Tr {l:List Oper} {p q:Nat} (eM:Nat) (aq:look E eM=some (.eq (.pointer (some ⟨p,0,none⟩)))) (he:q=p) (k:ah c ops Q l ((eM,.of (some q:Ref)) :: E) L):ah c ops Q l E L:=fun a W s=>by
 subst he
 refine k a W (s.less fun t τ h=> ?_)
 simp only [look] at h
 by_cases e:Nat.beq eM t=true
 ·rw [e] at h
  simp only [cond_true,Option.some.injEq] at h
  have:=eF.1 e
  subst this
  subst h
  exact⟨_,aq,fun A W v aY=>uS.2 aY⟩
 ·simp only [Bool.not_eq_true] at e
  rw [e] at h
  exact⟨τ,h,fun _ _ _ h=>h⟩
end
end Gv
namespace Gv
open Go
set_option linter.unusedVariables false
set_option linter.unusedSimpArgs false
section
variable {c:cU} {E:List (Nat × I)} {L:List aH} {ops:Array Oper} {Q:Exit→Act→World→Prop}
theorem bs.tail {l:List Oper} {f:Nat} {bL:Array Bool} (n:Nat) (a8:(l.drop n).length=f) (hs:Region.seqB .any l.toArray f n bL=true) (h:ah c l.toArray Q (l.drop n) E L):bs c l.toArray Q f bL E L:=fun a W s=>by
 subst a8
 exact C4 (l.drop n) n bL a W (fun j=>by simp) hs (h a W s)
theorem aG.ex {α β:Type} {m:aG α} {k:α→aG β} {R:β→Prop} (h:aG.bind m k R):∃ K:α→Prop,m K∧ ∀ r,K r→k r R:=⟨_,h,fun _ h=>h⟩
end
end Gv
namespace Gv
open Go
set_option linter.unusedVariables false
theorem cz.law {P:Program} {f:FuncId} {τs:List I} {bW:Type} [e1 bW] {R:Bool × bb bW→Prop} {Lo: {r:Bool × bb bW // R r} × Unit→List aH} (h:cz P f τs ([] ++ bd ([]:bb bW)) (fun d: {r:Bool × bb bW // R r} × Unit=>I.of d.1.1.1) Lo) (h9:∀ r,R r→r.1=true):bx P f τs (I.of true):=by
 intro A W vs fE aY
 refine(h A W vs (fun k av=>⟨fE k av,by simp [bd,aJ]⟩) (by simp [bd,aJ]) (fun k av=>by simp [bd,aJ] at av) (fun e he=>by simp [bd] at he) (by simpa [bd,aJ] using aY)).mono ?_
 intro e W' ⟨v,d,J,ab,_,_,_,aC⟩
 refine⟨v,J,by simpa [bd,aJ] using ab,?_⟩
 have aU:=h9 d.1.1 d.1.2
 rw [of_bool] at aC ⊢
 rw [aC,aU]
end Gv
