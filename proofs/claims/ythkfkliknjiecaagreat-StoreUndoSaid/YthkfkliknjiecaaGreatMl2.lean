/-
  The library of the decompiler, as far as it is needed here. Conditions: none.
-/
import Derived.Maps.RangeRun
import Derived.Test.YthkfkliknjiecaaGreatMl1
set_option linter.unusedVariables false
set_option linter.unusedSimpArgs false
namespace Gv
open Go
def av.any (α:Type):av α:=fun Q=> ∀ x,Q x
theorem av.any_bind {α β:Type}{k:α→av β}{R:β→Prop}(h:av.bind (av.any α) k R)(x:α):k x R:=h x
theorem hk.append {A:List Nat}{W:World} :∀ {τs σs:List I} {vs us:List Value},hk A W τs vs→hk A W σs us→hk A W (τs++σs) (vs++us)
 | _,_,_,_,.nil,h=>h
 | _,_,_,_,.cons h r,ae=>.cons h (r.append ae)
section
variable {c:dB} {E:List (Nat×I)} {L:List aQ} {ops:Array Oper} {Q:Exit→Act→World→Prop}
variable {d:Option Tmp} {ty:TypeId} {pos:String} {af:Array Edge} {g:Option (Nat×Bool)} {x y:Operand} {t t2:TypeId}
def gl (c:dB)(E:List (Nat×I))(L:List aQ)(o:Oper){δ:Type}(ρ:δ→I)(L':δ→List aQ):Prop:=
 ∀ a W,bL c E L a W→hC c.P o a W fun v W'=> ∃ q,bL c E (L' q) a W'∧ (ρ q).holds (aU (L' q)++c.b7) W' v
theorem ah.sQ {o:Oper}{rest:List Oper}{a9:Nat}{δ:Type}{ρ:δ→I}{L':δ→List aQ}(h:gl c E L o ρ L')(bD:o.guard=none)(hd:o.dst=some a9)(aR:Nat.blt a9 c.n=true)
 (k:∀ q,ah c ops Q rest ((a9,ρ q)::E) (L' q)):ah c ops Q (o::rest) E L:=fun a W s=>
 ik bD (h a W s) fun v W' ⟨q,f,a6⟩=>by
  rw [hd];exact k q _ _ (f.put (by simpa using aR) a6)
theorem ah.UO {o:Oper}{rest:List Oper}{a9 j gs:Nat}{b want:Bool}{δ β:Type}{σ:β→I}{L2:β→List aQ}{K:β→Prop}{val:δ→β}{ρ:δ→I}{L':δ→List aQ}(bD:o.guard=some (j,want))(aH:(ops[j]?).bind (·.dst)=some gs)
 (an:look E gs=some (.of b)) (hd:o.dst=some a9) (aR:Nat.blt a9 c.n=true) (h:b=want→gl c E L o ρ L')
 (aa:b=want→ ∀ q,K (val q)∧ρ q=σ (val q)∧L' q=L2 (val q)) (ae: ¬ b=want→ ∃ y,K y∧L=L2 y)
 (k:∀ y,K y→ah c ops Q rest ((a9,.cond (b=want) (σ y))::E) (L2 y)):ah c ops Q (o::rest) E L:=fun a W s=>by
 have a5:=zt aH an s
 unfold dB.qB wpListIn
 by_cases hb:b=want
 ·rw [if_pos (by simp [Region.wanted,bD,a5,hb])]
  refine((h hb a W s).wpIn fun v W' ⟨q,f,a6⟩=>?_)
  obtain⟨aq,aX,dd⟩:=aa hb q
  rw [aX] at a6
  rw [dd] at f a6
  rw [hd]
  exact k _ aq _ _ (f.put (by simpa using aR) ⟨fun _=>a6,fun h=>absurd hb h⟩)
 rw [if_neg (by simp [Region.wanted,bD,a5,hb])]
 rw [hd]
 obtain⟨y,aq,aX⟩:=ae hb
 rw [aX] at s
 exact⟨fun _ _=>trivial,k y aq _ _ (s.put (by simpa using aR) ⟨fun h=>absurd h hb,fun _=>rfl⟩)⟩
theorem gl.perm {hU:List aQ}{o:Oper}{δ:Type}{ρ:δ→I}{L' L2:δ→List aQ}(p:L.Perm hU)(UP:∀ q,(L' q).Perm (L2 q))(h:gl c E hU o ρ L'):gl c E L o ρ L2:=fun a W s=>by
 have:=h a W (s.perm p);unfold hC at this ⊢;exact Oper.wp_mono (fun hM W' ⟨v,aa,q,ae,aG⟩=>⟨v,aa,q,ae.perm (UP q),(ρ q).mono (oO (UP q)) aG⟩) this
theorem gl.to {o:Oper}{δ:Type}{ρ:δ→I}{L' L2:δ→List aQ}(e:∀ q,L' q=L2 q)(h:gl c E L o ρ L'):gl c E L o ρ L2:=by
 have:L'=L2:=funext e;subst this;exact h
theorem gl.afu {o:Oper}{δ:Type}{τ:I}(h:gl c E L o (fun _:δ=>τ) (fun _=>L)):eM c E L o τ:=fun a W s=>by
 have:=h a W s;unfold hC at this ⊢;exact Oper.wp_mono (fun hM W' ⟨v,aa,q,ae,aG⟩=>⟨v,aa,ae,aG⟩) this
theorem gl.call {o:Oper}{f:FuncId}{as:Act→List Value}{τs:List I}{Lin Lr:List aQ}{δ:Type}{ρ:δ→I}{Lo:δ→List aQ}(h:bC c.P f τs Lin ρ Lo)
 (aj:∀ a W,bL c E (Lin++Lr) a W→ (execOp a.eval o).run c.P W= .ok (.enter f (as a).toArray) W∧hk (aU (Lin++Lr)++c.b7) W τs (as a)):gl c E (Lin++Lr) o ρ (fun q=>Lo q++Lr):=fun a W s=>by
 obtain⟨ja,ar⟩:=aj a W s
 have nr:=s.nodup
 rw [ft] at nr
 obtain⟨l5,nY,rA⟩:=List.nodup_append.1 nr
 have lV:Ext (aU (Lin++Lr)++c.b7) W (aU Lin++(aU Lr++c.b7)) W:=CA
 have hf:∀ k∈aU Lr++c.b7,k<W.heap.size∧k ∉ aU Lin:=fun k hm=>by
  rcases List.mem_append.1 hm with hm | hm
  ·exact⟨s.lt k (by rw [ft];exact List.mem_append.2 (.inr hm)),fun h=>rA k h k hm rfl⟩
  obtain⟨aa,ae⟩:=s.fb k hm;exact⟨aa,fun h=>ae (by rw [ft];exact List.mem_append.2 (.inl h))⟩
 have cf:∀ k∈aU Lin,k<W.heap.size:=fun k hm=>s.lt k (by rw [ft];exact List.mem_append.2 (.inl hm))
 refine .w4 (f:=f) (args:=(as a).toArray) (W':=W) ja ?_
 refine(h (aU Lr++c.b7) W (as a) hf l5 cf (fun e he=>aQ.uX (s.own e (List.mem_append.2 (.inl he))) lV fun _ _=>rfl) (ar.mono lV)).mono fun e W' ⟨v,a9,he,a2,aa,ae,aG,a0⟩=>?_
 exact⟨v,he,a9,s.after a2 aa ae aG,(ρ a9).mono JR a0⟩
theorem gl.SH {o:Oper}{ca:Type}[fC ca]{hp:aN ca}{Lin Lr:List aQ}{δ:Type}{ρ:δ→I}{Lo:δ→List aQ}{hq:δ→aN ca}(n m:Nat)(al:L.drop n=aS hp)(aa:(L.take n).take m=Lin)(ae:(L.take n).drop m=Lr)
 (h:gl c E ((Lin++aS hp)++Lr) o ρ (fun q=>(Lo q++aS (hq q))++Lr)):gl c E L o ρ (fun q=>(Lo q++Lr)++aS (hq q)):=by
 have e:L=(Lin++Lr)++aS hp:=by rw [← aa,← ae,List.take_append_drop,← al,List.take_append_drop]
 clear al aa ae
 subst e
 exact h.perm oP fun q=>oP
theorem gl.g8 {f:FuncId}{xs:List Operand}{ats:Array TypeId}{ca:Type}[fC ca]{hp:aN ca}{τs:List I}{Lin Lr:List aQ}{δ:Type}{ρ:δ→I}{Lo:δ→List aQ}{hq:δ→aN ca}(n m:Nat)(al:L.drop n=aS hp)(e5:bA c.P f)(h:bC c.P f τs (Lin++aS hp) ρ (fun d=>Lo d++aS (hq d)))
 (aa:(L.take n).take m=Lin) (ae:(L.take n).drop m=Lr) (ar:iM c E L xs τs):gl c E L ⟨d,.call ⟨.value (.func f),xs.toArray,ats⟩,ty,pos,af,g⟩ ρ (fun q=>(Lo q++Lr)++aS (hq q)):=by
 have e:L=(Lin++Lr)++aS hp:=by rw [← aa,← ae,List.take_append_drop,← al,List.take_append_drop]
 refine gl.SH n m al aa ae (gl.call (as:=fun a=>xs.map a.eval) h fun a W s=>⟨by simp [execOp,resolve,Deferred.ofValue,Act.eval,invoke,e5.run],?_⟩)
 subst e
 exact(ar.holds a W (s.perm oP.symm)).mono (oO oP)
theorem ba.aan {pk:Operand}{f:FuncId}{vJ τs:List I}{xs:List Operand}{ats:Array TypeId}(e5:bA c.P f)(a2:ba c E L pk (.lX f vJ))(ar:iM c E L xs τs){a:Act}{W:World}(s:bL c E L a W):
 ∃ iU:List Value,(execOp a.eval ⟨d,.call ⟨.value pk,xs.toArray,ats⟩,ty,pos,af,g⟩).run c.P W= .ok (.enter f (xs.map a.eval++iU).toArray) W∧hk (aU L++c.b7) W (τs++vJ) (xs.map a.eval++iU):=by
 obtain⟨iU,aa,ae⟩:=a2 a W s
 exact⟨iU,by simp [execOp,resolve,Deferred.ofValue,aa,invoke,e5.run],(ar.holds a W s).append ae⟩
theorem gl.lX {pk:Operand}{f:FuncId}{vJ τs:List I}{xs:List Operand}{ats:Array TypeId}{Lin Lr:List aQ}{δ:Type}{ρ:δ→I}{Lo:δ→List aQ}(m:Nat)(e5:bA c.P f)(a2:ba c E L pk (.lX f vJ))(h:bC c.P f (τs++vJ) Lin ρ Lo)
 (aa:L.take m=Lin) (ae:L.drop m=Lr) (ar:iM c E L xs τs):gl c E L ⟨d,.call ⟨.value pk,xs.toArray,ats⟩,ty,pos,af,g⟩ ρ (fun q=>Lo q++Lr):=by
 have e:L=Lin++Lr:=by rw [← aa,← ae,List.take_append_drop]
 clear aa ae
 subst e
 intro a W s
 obtain⟨iU,aG,a0⟩:=ba.aan (d:=d) (ty:=ty) (pos:=pos) (af:=af) (g:=g) (ats:=ats) e5 a2 ar s
 have nr:=s.nodup
 rw [ft] at nr
 obtain⟨l5,nY,rA⟩:=List.nodup_append.1 nr
 have lV:Ext (aU (Lin++Lr)++c.b7) W (aU Lin++(aU Lr++c.b7)) W:=CA
 have hf:∀ k∈aU Lr++c.b7,k<W.heap.size∧k ∉ aU Lin:=fun k hm=>by
  rcases List.mem_append.1 hm with hm | hm
  ·exact⟨s.lt k (by rw [ft];exact List.mem_append.2 (.inr hm)),fun h=>rA k h k hm rfl⟩
  obtain⟨aa,ae⟩:=s.fb k hm;exact⟨aa,fun h=>ae (by rw [ft];exact List.mem_append.2 (.inl h))⟩
 have cf:∀ k∈aU Lin,k<W.heap.size:=fun k hm=>s.lt k (by rw [ft];exact List.mem_append.2 (.inl hm))
 refine .w4 (f:=f) (W':=W) aG ?_
 refine(h (aU Lr++c.b7) W _ hf l5 cf (fun e he=>aQ.uX (s.own e (List.mem_append.2 (.inl he))) lV fun _ _=>rfl) (a0.mono lV)).mono fun e W' ⟨v,a9,he,a2,aa,ae,aG,a0⟩=>?_
 exact⟨v,he,a9,s.after a2 aa ae aG,(ρ a9).mono JR a0⟩
theorem iM.perm {hU:List aQ}(p:L.Perm hU):∀ {xs:List Operand} {τs:List I},iM c E L xs τs→iM c E hU xs τs
 | [],[],h=>h
 | _::_,_::_,h=>⟨h.1.perm p,iM.perm p h.2⟩
 | [],_::_,h=>h.elim
 | _::_,[],h=>h.elim
theorem gl.LK {pk:Operand}{f:FuncId}{vJ τs:List I}{xs:List Operand}{ats:Array TypeId}{ca:Type}[fC ca]{hp:aN ca}{Lin Lr:List aQ}{δ:Type}{ρ:δ→I}{Lo:δ→List aQ}{hq:δ→aN ca}(n m:Nat)(al:L.drop n=aS hp)(e5:bA c.P f)(a2:ba c E L pk (.lX f vJ))(h:bC c.P f (τs++vJ) (Lin++aS hp) ρ (fun d=>Lo d++aS (hq d)))
 (aa:(L.take n).take m=Lin) (ae:(L.take n).drop m=Lr) (ar:iM c E L xs τs):gl c E L ⟨d,.call ⟨.value pk,xs.toArray,ats⟩,ty,pos,af,g⟩ ρ (fun q=>(Lo q++Lr)++aS (hq q)):=by
 have e:L=(Lin++Lr)++aS hp:=by rw [← aa,← ae,List.take_append_drop,← al,List.take_append_drop]
 refine gl.SH n m al aa ae ?_
 subst e
 refine gl.to (fun q=>rfl) (gl.lX (Lin++aS hp).length e5 (a2.perm oP) h List.take_left List.drop_left (ar.perm oP))
theorem gl.obj {f:FuncId}{xs:List Operand}{ats:Array TypeId}{ca:Type}[fC ca]{hp:aN ca}{p:Nat}{k:ca}{τs:List I}{Lin:List aQ}{δ:Type}{ρ:δ→I}{Lo:δ→List aQ}(n:Nat)(k':δ→ca)(al:L.drop n=aS hp)(hp':pat hp p=some k)(e5:bA c.P f)(h:bC c.P f τs Lin ρ Lo)
 (aw:fC.ir p k=Lin) (iR:∀ q,fC.ir p (k' q)=Lo q) (ar:iM c E L xs τs):gl c E L ⟨d,.call ⟨.value (.func f),xs.toArray,ats⟩,ty,pos,af,g⟩ ρ (fun q=>L.take n++aS (dr hp p (k' q))):=by
 obtain⟨R,a1,bd⟩:=wY hp'
 have e:L=L.take n++aS hp:=by rw [← al,List.take_append_drop]
 have cY:∀ {M X:List aQ},M.Perm (X++R)→ (L.take n++M).Perm (X++(R++L.take n)):=fun h=>List.perm_append_comm.trans ((h.append_right _).trans (by rw [List.append_assoc]))
 have MQ:L.Perm (Lin++(R++L.take n)):=by
  conv=>lhs;rw [e]
  exact cY (by rw [← aw];exact a1)
 refine gl.perm MQ (fun q=>(cY (bd (k' q))).symm) ?_
 refine gl.to (fun q=>by rw [iR]) (gl.call (Lr:=R++L.take n) (as:=fun a=>xs.map a.eval) h fun a W s=>⟨by simp [execOp,resolve,Deferred.ofValue,Act.eval,invoke,e5.run],?_⟩)
 exact(ar.holds a W (s.perm MQ.symm)).mono (oO MQ)
theorem eM.obj {f:FuncId}{xs:List Operand}{ats:Array TypeId}{ca:Type}[fC ca]{hp:aN ca}{p:Nat}{k:ca}{τs:List I}{Lin:List aQ}{δ:Type}{τ:I}(n:Nat)(al:L.drop n=aS hp)(hp':pat hp p=some k)(e5:bA c.P f)(h:bC c.P f τs Lin (fun _:δ=>τ) (fun _=>Lin))
 (aw:fC.ir p k=Lin) (ar:iM c E L xs τs):eM c E L ⟨d,.call ⟨.value (.func f),xs.toArray,ats⟩,ty,pos,af,g⟩ τ:=by
 have e:L=L.take n++aS hp:=by rw [← al,List.take_append_drop]
 have vY:dr hp p k=hp:=by
  clear e al h aw;induction hp with
  | nil=>rfl
  | cons z r b6=>
    obtain⟨q,aiK⟩:=z
    simp only [pat] at hp'
    simp only [dr]
    split at hp'
    ·rename_i e;simp only [Option.some.injEq] at hp';rw [if_pos e,hp']
    rename_i e;rw [if_neg e,b6 hp']
 refine gl.afu (gl.to (fun q=>?_) (gl.obj (d:=d) (ty:=ty) (pos:=pos) (af:=af) (g:=g) (ats:=ats) n (fun _=>k) al hp' e5 h aw (fun _=>aw) ar))
 rw [vY,← e]
theorem ah.abR {l:List Oper}{ca:Type}[fC ca]{hp:aN ca}{p:Nat}{Lin Lr:List aQ}(n m:Nat)(mk:ca)(al:L.drop n=aS hp)(aa:(L.take n).take m=Lin)(ae:(L.take n).drop m=Lr)(aw:fC.ir p mk=Lin)(hm:p∈aU Lin)
 (k:∀ a:Nat×aN ca,a.1 ∉ hp.map (·.1)∧a.2=(a.1,mk)::hp→a.1=p→ah c ops Q l E (Lr++aS a.2)):ah c ops Q l E L:=fun a W s=>by
 have e:L=(Lin++Lr)++aS hp:=by rw [← aa,← ae,List.take_append_drop,← al,List.take_append_drop]
 have cY:L.Perm (Lr++aS ((p,mk)::hp)):=by
  rw [e,aS,aw,← List.append_assoc];exact List.perm_append_comm.append_right _
 refine k (p,(p,mk)::hp) ⟨fun EC=>?_,rfl⟩ rfl _ _ (s.perm cY)
 have iD:=s.nodup
 rw [e,ft,ft] at iD
 exact(List.nodup_append.1 iD).2.2 p (List.mem_append.2 (.inl hm)) p (Rk EC) rfl
end
section
variable {c:dB} {E:List (Nat×I)} {L:List aQ} {ops:Array Oper} {Q:Exit→Act→World→Prop}
theorem b5.q {hs:List e6}{i np:Nat}{o:Oper}{h:e6}(cA:b5 c ops Q hs E L i o h):KK c ops Q hs E L np i o h:=fun hd E' L' aa ae _=>cA hd E' L' aa ae
structure CH (P:Program)(f:FuncId)(τs:List I){ca:Type}[fC ca](hp:aN ca){α:Type}(τ:α→I)(run:∀ {σ ε:Type},(α→σ→Option (σ ⊕ ε))→σ→Option (σ ⊕ ε)):Prop where
 go:∀ {σ ε γ:Type} (Ls:σ→γ→List aQ) (Lx:ε→γ→List aQ) (k2:σ→γ→List aQ),(∀ s g,Ls s g=k2 s g++aS hp)→MF P f τs [] τ (run (σ:=σ) (ε:=ε)) Ls Lx
theorem CH.of {P:Program}{f:FuncId}{fn:Func}{code:Code}{n:Nat}{τs:List I}{ca:Type}[fC ca]{hp:aN ca}{α:Type}{τ:α→I}{run:∀ {σ ε:Type},(α→σ→Option (σ ⊕ ε))→σ→Option (σ ⊕ ε)}
 (a2:P.funcs[f]? =some fn) (hb:fn.body=some code) (aR:fn.ntmps=n) (hlen:Nat.ble (τs.length+1) n=true)
 (h:∀ {σ ε γ:Type} (Ls:σ→γ→List aQ) (Lx:ε→γ→List aQ) (k2:σ→γ→List aQ),(∀ s g,Ls s g=k2 s g++aS hp)→ ∀ (step:α→σ→Option (σ ⊕ ε)) (cE:σ) (g0:γ) (r:σ ⊕ ε),run step cE=some r→
  ∀ W A u,ya P u τ Ls Lx step (fun dy W'=>Ext (aU (Ls cE g0)++A) W dy W')→
    ag ⟨P,n,W,aU (Ls cE g0),A,none,[]⟩ (bodyPost P fn (kQ (aU (Ls cE g0)) A W (fun _:γ=>.dZ []) (fun g=>[]++Lr Ls Lx r g))) code (params 0 (.eq u::τs)) (Ls cE g0)):CH P f τs hp τ run:=by
 refine⟨?_⟩
 intro σ ε γ Ls Lx k2 oy step cE g0 r aO A W u vs an a6 a5
 refine calls_of_wp a2 hb (wpIn_wide.1 (h Ls Lx k2 oy step cE g0 r aO W A u a5 _ _ ?_))
 have n1:hk (aU (Ls cE g0)++A) W (.eq u::τs) (u::vs):= .cons rfl a6
 have lf:=n1.length
 have hle:τs.length+1≤n:=Nat.le_of_ble_eq_true hlen
 exact
 {defers:=rfl
  size:=by simp at lf;simp [aR,lf];omega
  env:=fun t τ fy=>by
   obtain⟨_,v,ae,aG⟩:=wT n1 0 t τ fy;refine⟨v,?_,aG⟩;have cf:t<(u::vs).length:=(List.getElem?_eq_some_iff.1 ae).1;rw [Array.getElem?_append_left (by simpa using cf)];simpa using ae
  ej:= .refl _ _
  own:=an.ok
  nodup:=an.nodup
  lt:=an.lt
  gN:=fun k aw _=>aw
  fb:=an.fb }
theorem ab2 {ca:Type}[fC ca]{σ γ:Type}{Ls k2:σ→γ→List aQ}{hp:aN ca}{s:σ}{g:γ}{p:Nat}{k:ca}{e:aQ}(n:Nat)(al:L.drop n=Ls s g)(oy:∀ s g,Ls s g=k2 s g++aS hp)(h:pat hp p=some k)(aw:fC.ir p k= [e]):e∈L:=
 RX (hq:=fun _=>hp) n al oy h aw
theorem Jw {gt p:Nat}{assign body:Code}{f:FuncId}{nR:List I}{ca:Type}[fC ca]{hp:aN ca}{α σ ε γ:Type}{τ:α→I}{run:∀ {σ ε:Type},(α→σ→Option (σ ⊕ ε))→σ→Option (σ ⊕ ε)}
 {Ls:σ→γ→List aQ} {Lx:ε→γ→List aQ} {step:α→σ→Option (σ ⊕ ε)} {cE:σ} {g0:γ} {r:σ ⊕ ε} (k2:σ→γ→List aQ) (fG:ε→Code)
 (aj:c.rd=none) (e5:bA c.P f) (bD:look E gt=some (.lX f nR)) (lK:CH c.P f nR hp τ run) (aO:run step cE=some r) (oy:∀ s g,Ls s g=k2 s g++aS hp) (al:L=Ls cE g0) (hp':Nat.blt p c.n=true)
 (qh:∀ x s r,step x s=some r→ ∀ g (l0:World) (ma l1:List Nat) (l D:Nat) (rec:Loop),rec.state= .ready→
  ag ⟨c.P,c.n,l0,ma,l1,some l,[]⟩ (Exit.then (EX ⟨c.P,c.n,l0,ma,l1,some l,[]⟩ l body (EW ⟨c.P,c.n,l0,ma,l1,some l,[]⟩ fG l D { rec with state:= .busy } Ls Lx r)) (fun _ _ _=>False)) assign ((p,τ x)::E) (⟨some l,.is (.loop rec)⟩::⟨some D,.dN⟩::Ls s g))
 (pE:∀ cr,r= .inl cr→ ∀ g D,ad { c with ds:=D::c.ds } Q .normal E (⟨some D,.dN⟩::Ls cr g))
 (xC:∀ q,r= .inr q→ ∀ g D,ag { c with ds:=D::c.ds } Q (fG q) E (⟨some D,.dN⟩::Lx q g)):
 ag c Q (.rangeFunc (.tmp gt) #[p] assign body) E L:=
 Pn (Lin:= []) (run:=run) fG aj e5 bD (fun aq aX n2=>lK.go (fun s g=>aq::aX::Ls s g) n2 (fun s g=>aq::aX::k2 s g) (fun s g=>by rw [oy];rfl)) aO al hp' qh pE xC
end
structure Raw where
 f:FuncId
 us:Option (List Value)
instance:Inhabited Raw:=⟨⟨0,none⟩⟩
def Raw.val:Raw→Value
 | ⟨f,some us⟩=>.func (.func f) #[] us.toArray
 | ⟨_,none⟩=>.nilFunc
instance:ak Raw where
 size:=1
 agg:=false
 rep _ _ cs x:=cs= [x.val]
 len h:=by rw [h];rfl
 one h:=by
  intro v a6;rw [h,List.mem_singleton] at a6;subst a6;rename_i x;obtain⟨f,us⟩:=x;cases us <;> rfl
 flat _:=rfl
 mono _ h:=h
instance:bh Raw:=⟨[.nilFunc],fun _ _=>rfl⟩
theorem Rn {A W v}{x:Raw} :(I.of x).holds A W v↔v=x.val:=by
 constructor
 ·intro h;exact pw (by have:=h.1;exact this) h.2
 intro h;subst h;obtain⟨f,us⟩:=x;cases us <;> exact⟨rfl,rfl⟩
section
variable {c:dB} {E:List (Nat×I)} {L:List aQ} {ops:Array Oper} {Q:Exit→Act→World→Prop}
variable {d:Option Tmp} {ty:TypeId} {pos:String} {af:Array Edge} {g:Option (Nat×Bool)} {x y:Operand} {t t2:TypeId}
theorem hk.eqs {A:List Nat}{W:World} :∀ {us vs:List Value},hk A W (us.map I.eq) vs→vs=us
 | [],_,.nil=>rfl
 | _::_,_,.cons h r=>by rw [r.eqs];congr 1
theorem hk.SI {A:List Nat}{W:World} :∀ {us:List Value},hk A W (us.map I.eq) us
 | []=>.nil
 | _::_=>.cons rfl .SI
theorem R4 {f:FuncId}{xs:List Operand}{us:List Value}(ar:iM c E L xs (us.map I.eq)):b9 c E L ⟨d,.makeFunc (.func f) #[] xs.toArray,ty,pos,af,g⟩ (.of (⟨f,some us⟩:Raw)):= .pure fun a W s=>
 ⟨.func (.func f) #[] us.toArray,by
   have h:=(ar.holds a W s).eqs;simp [execOp,Instr.makeFunc,h],Rn.2 rfl⟩
theorem JJ {f:FuncId}{us:List Value}(ar:ba c E L x (.of (⟨f,some us⟩:Raw))):ba c E L x (.lX f (us.map I.eq)):=fun a W s=>
 ⟨us,Rn.1 (ar a W s),.SI⟩
theorem ah.ahq {o:Oper}{rest:List Oper}{a9 j gs:Nat}{b want:Bool}{β γ EB:Type}{m:av β}{z:β}{k:β→av EB}{R:EB→Prop}(h:av.bind (bif decide (b=want) then m else av.ret z) k R)(σ:β→I)(L2:β→γ→List aQ)(g0:γ)(al:L=L2 z g0)
 (bD:o.guard=some (j,want)) (aH:(ops[j]?).bind (·.dst)=some gs) (an:look E gs=some (.of b)) (hd:o.dst=some a9) (aR:Nat.blt a9 c.n=true)
 (bM:b=want→m (fun r=>k r R)→gl c E L o (fun q: {r // k r R}×γ=>σ q.1.1) (fun q=>L2 q.1.1 q.2))
 (n5:∀ y g,k y R→ah c ops Q rest ((a9,.cond (b=want) (σ y))::E) (L2 y g)):ah c ops Q (o::rest) E L:=by
 by_cases hb:b=want
 ·have hm:m (fun r=>k r R):=by
   have de:(bif decide (b=want) then m else av.ret z) (fun r=>k r R):=h;rw [decide_eq_true hb] at de;exact de
  exact ah.UO (β:=β×γ) (K:=fun y=>k y.1 R) (σ:=fun y=>σ y.1) (L2:=fun y=>L2 y.1 y.2) (val:=fun q=>(q.1.1,q.2)) bD aH an hd aR (fun _=>bM hb hm) (fun _ q=>⟨q.1.2,rfl,rfl⟩) (fun h=>absurd hb h) fun y a5=>n5 y.1 y.2 a5
 have hm:k z R:=by
  have de:(bif decide (b=want) then m else av.ret z) (fun r=>k r R):=h;rw [decide_eq_false hb] at de;exact de
 exact ah.UO (δ:=Unit) (β:=β×γ) (K:=fun y=>k y.1 R) (σ:=fun y=>σ y.1) (L2:=fun y=>L2 y.1 y.2) (val:=fun _=>(z,g0)) (ρ:=fun _=>σ z) (L':=fun _=>L2 z g0) bD aH an hd aR (fun h=>absurd h hb) (fun h=>absurd h hb) (fun _=>⟨(z,g0),hm,al⟩) fun y a5=>n5 y.1 y.2 a5
end
section
variable {c:dB} {E:List (Nat×I)} {L:List aQ} {ops:Array Oper} {Q:Exit→Act→World→Prop}
theorem ah.abS {l:List Oper}{p q:Nat}(g5:Nat)(an:look E g5=some (.eq (.pointer (some ⟨p,0,none⟩))))(he:q=p)(k:ah c ops Q l ((g5,.of (some q:Ref))::E) L):ah c ops Q l E L:=fun a W s=>by
 subst he;refine k a W (s.less fun t τ h=>?_);simp only [look] at h;by_cases e:Nat.beq g5 t=true
 ·rw [e] at h;simp only [cond_true,Option.some.injEq] at h;have:=eQ.1 e;subst this;subst h;exact⟨_,an,fun A W v a6=>vf.2 a6⟩
 simp only [Bool.not_eq_true] at e;rw [e] at h;exact⟨τ,h,fun _ _ _ h=>h⟩
end
section
variable {c:dB} {E:List (Nat×I)} {L:List aQ} {ops:Array Oper} {Q:Exit→Act→World→Prop}
def xD (ops:Array Oper)(n:Nat)(hs:List (Option Nat×List Nat×List Nat×List Nat))(E:List Nat):Bool:=
 decide (hs.length=n)&&decide (n≤ops.size)&&decide (hs.filterMap (·.1)).Nodup&&((List.range n).all fun m=>match hs[m]? with | some (some s,up,_)=> !E.contains s||(List.range n).all fun k=>decide (k=m)||up.contains k | _=>true)&&
 ((List.range n).all fun i=>match hs[i]? with
   | none=>false
   | some (_,up,rd,wr)=>
     (((ops[i]?).map fun o=>(o.dst==(hs[i]?).bind (·.1))&&o.after.all fun e=> !Region.binds .any e||decide (e.on<i)).getD false)&&
     (up.all fun k=>Region.waitsFor .any ops i k||(List.range i).any fun m=>Region.waitsFor .any ops i m&&((hs[m]?).map fun h=>h.2.1.contains k).getD false)&&
     ((List.range n).all fun k=>match hs[k]? with
       | none=>true
       | some (_,agy,_,Ua)=>
         (!(decide (k<i)&&Ua.any rd.contains)||up.contains k)&&(!(decide (i<k)&&Ua.any fun j=>rd.contains j||wr.contains j)||agy.contains i)))&&
 (decide (n=ops.size)||(Region.sinkB .any ops n&&Region.chainB .any ops n))&&
 Region.seqB .any ops (ops.size - n) n ((List.range n).foldl (fun l i=>l.setIfInBounds i true) (Array.replicate ops.size false))
theorem XP {n:Nat}{hs:List e6}{np:Nat}(hw:∀ h∈hs,∀ j∈h.wr,j<np∨L.length≤j)(iy:xD ops n (n0 hs) (E.map (·.1))=true)(cA:sc c ops Q hs E L np 0 (ops.toList.take n) hs)
 (bM:∀ hd,ah c ops Q (ops.toList.drop n) (kz (fun _=>true) hd E 0 hs) (jD (fun _=>true) hd 0 hs L)):
 ∀ m (bo:Array Bool) (hd:Nat→Hid) (a:Act) (W:World),((List.range n).filter fun i=> !bo.getD i true).length≤m→HeadInv .any ops n bo→
   bL c (kz (fun i=>bo.getD i false) hd E 0 hs) (jD (fun i=>bo.getD i false) hd 0 hs L) a W→wpAnyIn c.F 9 c.P .any ops Q (m+(ops.size - n)) bo a W:=by
 simp only [xD,Bool.and_eq_true,decide_eq_true_eq,Bool.or_eq_true] at iy
 obtain⟨⟨⟨⟨⟨⟨ada,aR⟩,iD⟩,TA⟩,kR⟩,xy⟩,rf⟩:=iy
 have hlen:hs.length=n:=by simpa [n0] using ada
 have sx:∀ i,i<n→ ∃ h o,hs[i]? =some h∧ops[i]? =some o:=fun i au=>⟨hs[i]'(by omega),ops[i],by simp,by simp⟩
 have xE:∀ (i:Nat) (h:e6) (o:Oper),hs[i]? =some h→ops[i]? =some o→
  o.dst=h.slot∧ (∀ e∈o.after,Region.binds .any e=true→e.on<i)∧
  (∀ k∈h.up,Region.waitsFor .any ops i k=true∨ ∃ m,m<i∧Region.waitsFor .any ops i m=true∧ ∃ x,hs[m]? =some x∧k∈x.up)∧
  (∀ (k:Nat) (x:e6),hs[k]? =some x→ (k<i→ (∃ j∈x.wr,h.rd.contains j=true)→k∈h.up)∧ (i<k→ (∃ j∈x.wr,h.rd.contains j=true∨h.wr.contains j=true)→i∈x.up)):=by
  intro i h o au bg
  have cf:i<n:=by have:=(List.getElem?_eq_some_iff.1 au).1;omega
  have aa:=List.all_eq_true.1 kR i (List.mem_range.2 cf)
  rw [Kf au] at aa
  simp only [Bool.and_eq_true] at aa
  obtain⟨⟨ae,aG⟩,a0⟩:=aa
  simp only [bg,Option.map_some,Option.getD_some,Bool.and_eq_true,Option.bind_some,beq_iff_eq] at ae
  refine⟨ae.1,fun e he hb=>?_,fun k aw=>?_,fun k x ar=>?_⟩
  ·have:=Array.all_eq_true_iff_forall_mem.1 ae.2 e he
   simp [hb] at this
   exact this
  ·have:=List.all_eq_true.1 aG k aw
   simp only [Bool.or_eq_true,List.any_eq_true,Bool.and_eq_true,List.mem_range] at this
   rcases this with a7 | ⟨m,a7,bn,dn⟩
   ·exact .inl a7
   have hm:m<hs.length:=by omega
   rw [Kf (List.getElem?_eq_getElem hm)] at dn
   exact .inr ⟨m,a7,bn,hs[m],List.getElem?_eq_getElem hm,by simpa using dn⟩
  have Mt:k<n:=by have:=(List.getElem?_eq_some_iff.1 ar).1;omega
  have:=List.all_eq_true.1 a0 k (List.mem_range.2 Mt)
  rw [Kf ar] at this
  simp only [Bool.and_eq_true,Bool.or_eq_true,Bool.not_eq_true',Bool.and_eq_false_iff,decide_eq_false_iff_not,List.contains_iff_mem] at this
  refine⟨fun kB ⟨j,aH,aO⟩=>?_,fun qC ⟨j,aH,aO⟩=>?_⟩
  ·rcases this.1 with(a7 | a7) | a7
   ·exact absurd kB a7
   ·have:=List.any_eq_false.1 a7 j aH
    exact absurd aO this
   exact a7
  rcases this.2 with(a7 | a7) | a7
  ·exact absurd qC a7
  ·have:=List.any_eq_false.1 a7 j aH
   simp only [Bool.or_eq_true] at this
   exact absurd aO this
  exact a7
 have Lp:∀ (i j s:Nat) (x y:e6),hs[i]? =some x→hs[j]? =some y→x.slot=some s→y.slot=some s→i=j:=by
  have key:∀ (l:List e6),((n0 l).filterMap (·.1)).Nodup→ ∀ (i j s:Nat) (x y:e6),l[i]? =some x→l[j]? =some y→x.slot=some s→y.slot=some s→i=j:=by
   intro l;induction l with
   | nil=>intro _ i j s x y h;simp at h
   | cons z r b6=>
     intro iD i j s x y au aH ar a5
     have aO:((n0 r).filterMap (·.1)).Nodup:=by
      cases dI:z.slot with
      | none=>simpa [n0,dI] using iD
      | some w=>
        simp only [n0,List.map_cons,List.filterMap_cons,dI] at iD
        exact(List.nodup_cons.1 iD).2
     have vF:z.slot=some s→ ∀ (q:Nat) (v:e6),r[q]? =some v→v.slot≠some s:=fun dI q v hq a6=>by
      simp only [n0,List.map_cons,List.filterMap_cons,dI] at iD;exact(List.nodup_cons.1 iD).1 (List.mem_filterMap.2 ⟨_,List.mem_map.2 ⟨v,List.mem_of_getElem? hq,rfl⟩,a6⟩)
     cases i with
     | zero=>
       simp only [List.getElem?_cons_zero,Option.some.injEq] at au
       subst au
       cases j with
       | zero=>rfl
       | succ j=>simp only [List.getElem?_cons_succ] at aH;exact absurd a5 (vF ar j y aH)
     | succ i=>
       simp only [List.getElem?_cons_succ] at au
       cases j with
       | zero=>
         simp only [List.getElem?_cons_zero,Option.some.injEq] at aH
         subst aH
         exact absurd ar (vF a5 i x au)
       | succ j=>simp only [List.getElem?_cons_succ] at aH;rw [b6 aO i j s x y au aH ar a5]
  exact key hs iD
 have adb:∀ (t:Nat) (τ:I),look E t=some τ→ ∀ (m:Nat) (h:e6),hs[m]? =some h→h.slot=some t→ ∀ k,k<n→k≠m→k∈h.up:=by
  intro t τ an m h hm fI k aw ye;have rp:m<n:=by have:=(List.getElem?_eq_some_iff.1 hm).1;omega
  have aa:=List.all_eq_true.1 TA m (List.mem_range.2 rp);rw [show(n0 hs)[m]? =some (h.slot,h.up,h.rd,h.wr) by simp [n0,hm],fI] at aa;have vH:t∈E.map (·.1):=by
   clear TA aa cA bM hm fI;induction E with
   | nil=>simp [look] at an
   | cons x r b6=>
     obtain⟨s,σ⟩:=x
     simp only [look] at an
     by_cases e:Nat.beq s t=true
     ·have:=eQ.1 e;subst this;simp
     simp only [Bool.not_eq_true] at e
     rw [e] at an
     simp only [List.map_cons,List.mem_cons]
     exact .inr (b6 an)
  replace aa:(!(E.map (·.1)).contains t||(List.range n).all fun k=>decide (k=m)||h.up.contains k)=true:=aa;rw [show(E.map (·.1)).contains t=true by simpa using vH] at aa;have ae:∀ x,x<n→x=m∨x∈h.up:=by simpa using aa
  exact(ae k aw).resolve_left ye
 have vZ:∀ (bo:Array Bool),HeadInv .any ops n bo→ ∀ (d i:Nat),i≤d→ ∀ (h:e6) (o:Oper),hs[i]? =some h→ops[i]? =some o→ (∀ e∈o.after,Region.binds .any e=true→bo.getD e.on false=true)→ ∀ k∈h.up,bo.getD k false=true:=by
  intro bo inv d;induction d with
  | zero=>
    intro i au h o eX AG hw k aw
    rcases (xE i h o eX AG).2.2.1 k aw with aa | ⟨m,hm,_⟩
    ·obtain⟨pg,mw,e,he,hb,pR⟩:=Region.waitsFor_spec aa
     rw [AG] at mw;cases mw
     rw [← pR];exact hw e he hb
    omega
  | succ d b6=>
    intro i au h o eX AG hw k aw
    rcases (xE i h o eX AG).2.2.1 k aw with aa | ⟨m,hm,aa,x,ar,agz⟩
    ·obtain⟨pg,mw,e,he,hb,pR⟩:=Region.waitsFor_spec aa
     rw [AG] at mw;cases mw
     rw [← pR];exact hw e he hb
    obtain⟨pg,mw,e,he,hb,pR⟩:=Region.waitsFor_spec aa
    rw [AG] at mw;cases mw
    have rp:=hw e he hb
    rw [pR] at rp
    obtain⟨aT,E1,pd,ED⟩:=sx m (by have:=(List.getElem?_eq_some_iff.1 eX).1;omega)
    exact b6 m (by omega) x E1 ar ED (fun e he hb=>inv.closed m E1 ED rp e he hb) k agz
 have pE:∀ (bo:Array Bool) (hd:Nat→Hid) (a:Act) (W:World),(∀ i,i<n→bo.getD i true=true)→HeadInv .any ops n bo→
  bL c (kz (fun i=>bo.getD i false) hd E 0 hs) (jD (fun i=>bo.getD i false) hd 0 hs L) a W→wpAnyIn c.F 9 c.P .any ops Q (ops.size - n) bo a W:=by
  intro bo hd a W vv inv st
  have an:=Jr inv aR vv
  rw [← an] at rf
  have xz:(ops.toList.drop n).length=ops.size - n:=by simp
  rw [← xz]
  rw [← xz] at rf
  refine B0 (ops.toList.drop n) n bo a W (fun j=>by simp) rf (bM hd a W ?_)
  have H3:∀ m,m<hs.length→bo.getD (0+m) false=true:=fun m hm=>by
   have aa:=vv m (by omega);have ae:m<bo.size:=by rw [inv.size];omega
   simpa [ae] using aa
  rw [O1 (ls':=fun _=>true) H3,PJ (ls':=fun _=>true) H3] at st
  exact st
 have more:∀ f (bo:Array Bool) a W,wpAnyIn c.F 9 c.P .any ops Q f bo a W→wpAnyIn c.F 9 c.P .any ops Q (f+1) bo a W:=by
  intro f;induction f with
  | zero=>intro bo a W h;exact⟨fun _=>h.2,fun i au=>by rw [h.1] at au;cases au⟩
  | succ f Eb=>intro bo a W h;exact⟨h.1,fun i au=>wpOpIn_mono (fun hM rM de=>Eb _ hM rM de) (h.2 i au)⟩
 intro m
 induction m with
 | zero=>
   intro bo hd a W hm inv st
   rw [Nat.zero_add]
   refine pE bo hd a W (fun i au=>?_) inv st
   cases h:bo.getD i true with
   | true=>rfl
   | false=>
     have:i∈ (List.range n).filter fun i=> !bo.getD i true:=List.mem_filter.2 ⟨List.mem_range.2 au,by rw [h];rfl⟩
     rw [List.length_eq_zero_iff.1 (Nat.le_zero.1 hm)] at this
     cases this
 | succ m b6=>
   intro bo hd a W hm inv st
   rw [show m+1+(ops.size - n)=(m+(ops.size - n))+1 by omega]
   by_cases Dm:∀ i,i<n→bo.getD i true=true
   ·have aa:=pE bo hd a W Dm inv st
    have key:∀ k,wpAnyIn c.F 9 c.P .any ops Q (k+(ops.size - n)) bo a W:=by
     intro k;induction k with
     | zero=>rw [Nat.zero_add];exact aa
     | succ k Ec=>rw [show k+1+(ops.size - n)=(k+(ops.size - n))+1 by omega];exact more _ _ _ _ Ec
    exact more _ _ _ _ (key m)
   have hex:∃ i,i<n∧bo.getD i true=false:=by
    false_or_by_contra;rename_i ae;exact Dm fun i au=>by
     cases h:bo.getD i true with
     | true=>rfl
     | false=>exact absurd ⟨i,au,h⟩ ae
   have CN:∀ t∈Region.ready .any ops bo,t<n:=by
    intro t rr;rcases Nat.lt_or_ge t n with h | h
    ·exact h
    obtain⟨i,au,kh⟩:=hex;have Ts:n<ops.size∨n=ops.size:=by omega
    have afv:t<ops.size:=by
     obtain⟨_,o,bg,_⟩:=mem_ready.1 rr;exact(Array.getElem?_eq_some_iff.1 bg).1
    rcases xy with aa | aa
    ·omega
    exact absurd rr (tail_waits aa.1 aa.2 (by omega) inv _ i rfl au kh t h)
   refine⟨fun bO=>?_,fun i au=>?_⟩
   ·exfalso
    have key:∀ d i,i≤d→i<n→bo.getD i true=true:=by
     intro d;induction d with
     | zero=>
       intro i Ed au
       cases an:bo.getD i true with
       | true=>rfl
       | false=>
         obtain⟨h,o,eX,bg⟩:=sx i au
         have:i∈Region.ready .any ops bo:=mem_ready.2 ⟨an,o,bg,fun e he hb=>by have:=(xE i h o eX bg).2.1 e he hb;omega⟩
         rw [bO] at this;cases this
     | succ d MR=>
       intro i Ed au
       cases an:bo.getD i true with
       | true=>rfl
       | false=>
         obtain⟨h,o,eX,bg⟩:=sx i au
         have:i∈Region.ready .any ops bo:=mem_ready.2 ⟨an,o,bg,fun e he hb=>by
          have aa:=(xE i h o eX bg).2.1 e he hb;have ae:=MR e.on (by omega) (by omega);have aG:e.on<bo.size:=by rw [inv.size];omega
          simpa [aG] using ae⟩
         rw [bO] at this;cases this
    obtain⟨i,au,kh⟩:=hex
    have:=key i i (Nat.le_refl _) au
    rw [kh] at this;cases this
   have fc:i<n:=CN i au
   obtain⟨kh,o,bg,qd⟩:=mem_ready.1 au
   obtain⟨h,_,eX,_⟩:=sx i fc
   have om:bo.getD i false=false:=getD_both kh
   have vG:i<bo.size:=by rw [inv.size];omega
   have tK:((List.range n).filter fun j=> !(bo.setIfInBounds i true).getD j true).length≤m:=by
    have:((List.range n).filter fun j=> !(bo.setIfInBounds i true).getD j true).length<((List.range n).filter fun j=> !bo.getD j true).length:=by
     refine KH (fun j=> !bo.getD j true) (fun j=> !(bo.setIfInBounds i true).getD j true) i (by simp only [kh];rfl) ?_ (fun j aH=>?_) n fc
     ·simp [vG]
     by_cases e:i=j
     ·subst e;simp only [kh];rfl
     rw [getD_set_ne true e] at aH;exact aH
    omega
   have xO:=inv.set au fc
   obtain⟨Hx,GS,ahT,DP⟩:=xE i h o eX bg
   have HC:=vZ bo inv i i (Nat.le_refl _) h o eX bg qd
   have Ro:∀ (k:Nat) (x:e6),hs[k]? =some x→i<k→ (∃ j∈x.wr,h.rd.contains j=true∨h.wr.contains j=true)→bo.getD k false=false:=fun k x ar qC aH=>by
    have aa:=(DP k x ar).2 qC aH;cases aw:bo.getD k false with
    | false=>rfl
    | true=>
      obtain⟨_,ok,_,jz⟩:=sx k (by have:=(List.getElem?_eq_some_iff.1 ar).1;omega)
      have:=vZ bo inv k k (Nat.le_refl _) x ok ar jz (fun e he hb=>inv.closed k ok jz aw e he hb) i aa
      rw [om] at this;cases this
   have xj:hs=hs.take i++h::hs.drop (i+1):=by
    have pe:i<hs.length:=by omega
    rw [List.getElem?_eq_getElem pe] at eX;cases eX;rw [List.getElem_cons_drop];exact(List.take_append_drop i hs).symm
   have H4:(hs.take i).length=i:=by rw [List.length_take];omega
   have pc:∀ (t:Nat) (τ:I),look E t=some τ→ ∀ (m:Nat) (x:e6),hs[m]? =some x→bo.getD (0+m) false=true→x.slot≠some t:=fun t τ an m x ar H5 fI=>by
    rw [Nat.zero_add] at H5;have MS:i≠m:=fun e=>by subst e;rw [om] at H5;cases H5
    obtain⟨_,E1,_,ED⟩:=sx m (by have:=(List.getElem?_eq_some_iff.1 ar).1;omega);have:=vZ bo inv m m (Nat.le_refl _) x E1 ar ED (fun e he hb=>inv.closed m E1 ED H5 e he hb) i (adb t τ an m x ar fI i fc MS);rw [om] at this;cases this
   have SJ:=(sc.get cA i h o eX (by rw [List.getElem?_take,if_pos fc,Array.getElem?_toList];exact bg))
   rw [Nat.zero_add] at SJ
   have MT:=SJ hd (kz (fun i=>bo.getD i false) hd E 0 hs) (jD (fun i=>bo.getD i false) hd 0 hs L) (fun t τ an=>?_) (fun j e aH aO=>?_) (Kg hw)
   ·have hw:=FU (K:=fun a W=> ∃ x,bL c (tL h.slot (h.τ (ib h.up i (nz hd i x))) (kz (fun i=>bo.getD i false) hd E 0 hs)) (oq (jD (fun i=>bo.getD i false) hd 0 hs L) (h.dS (ib h.up i (nz hd i x))) h.wr) a W) bg (MT a W st)
    refine wpOpIn_mono (fun hM W' ⟨x,pU⟩=>?_) hw
    have Ub:∀ j,j≠i→nz hd i x j=hd j:=fun j aH=>by
     have:Nat.beq j i=false:=by
      cases hb:Nat.beq j i
      ·rfl
      exact absurd (eQ.1 hb) aH
     simp only [nz,this,cond_false]
    have MU:∀ (j:Nat) (y:e6),hs[j]? =some y→bo.getD j false=true→ib y.up j (nz hd i x)=ib y.up j hd:=fun j y a5 aH=>by
     obtain⟨_,pg,_,mw⟩:=sx j (by have:=(List.getElem?_eq_some_iff.1 a5).1;omega);refine Yx (Ub j fun e=>by subst e;rw [om] at aH;cases aH) fun k aw=>Ub k fun e=>?_;have:=vZ bo inv j j (Nat.le_refl _) y pg a5 mw (fun e he hb=>inv.closed j pg mw aH e he hb) k aw;subst e;rw [om] at this;cases this
    have H6:(bo.setIfInBounds i true).getD i false=true:=by simp [vG]
    have g1:∀ j,j≠i→ (bo.setIfInBounds i true).getD j false=bo.getD j false:=fun j aH=>getD_set_ne false (fun e=>aH e.symm)
    refine b6 _ (nz hd i x) hM W' tK xO ?_
    have afw:jD (fun j=>(bo.setIfInBounds i true).getD j false) (nz hd i x) 0 hs L=oq (jD (fun i=>bo.getD i false) hd 0 hs L) (h.dS (ib h.up i (nz hd i x))) h.wr:=by
     apply List.ext_getElem?;intro j;rw [GU,JP,GU];by_cases aH:h.wr.contains j=true
     ·rw [if_pos aH];have aq:∀ (ls:Nat→Bool) (g:Nat→Hid) (v:Option aQ),(∀ k x,hs[k]? =some x→i<k→x.wr.contains j=true→ls k=false)→mR ls g j 0 hs v=(bif ls i then(mR ls g j 0 (hs.take i) v).map (fun _=>h.dS (ib h.up i g) j) else mR ls g j 0 (hs.take i) v):=fun ls g v Es=>by
       conv=>lhs;rw [xj]
       rw [Jj,H4,Nat.zero_add,mR,aH,Bool.and_true,JB];intro k x ar hw;rw [List.getElem?_drop] at ar;exact Es (i+1+k) x ar (by omega) hw
      have gf:∀ k x,hs[k]? =some x→i<k→x.wr.contains j=true→bo.getD k false=false:=fun k x ar qC hw=>Ro k x ar qC ⟨j,by simpa using hw,.inr aH⟩;rw [aq (fun j=>(bo.setIfInBounds i true).getD j false) (nz hd i x) _ (fun k x ar qC hw=>by rw [g1 k (by omega)];exact gf k x ar qC hw),aq (fun j=>bo.getD j false) hd _ gf];simp only [H6,om,cond_true,cond_false];rw [F6 (ls':=fun j=>bo.getD j false) (hd':=hd) fun q x ar _=>by
       have hq:q<i:=by have:=(List.getElem?_eq_some_iff.1 ar).1;omega
       rw [List.getElem?_take,if_pos hq] at ar;rw [Nat.zero_add];exact⟨g1 q (by omega),fun an=>MU q x ar (by rw [g1 q (by omega)] at an;exact an)⟩]
     rw [if_neg aH];refine F6 fun q x ar hw=>?_;rw [Nat.zero_add];have hq:q≠i:=fun e=>by subst e;rw [eX] at ar;cases ar;exact aH hw
     exact⟨g1 q hq,fun an=>MU q x ar (by rw [g1 q hq] at an;exact an)⟩
    rw [afw]
    refine pU.less fun t τ an=>?_
    rcases PH an with⟨j,y,aa,ae,aG,a0⟩ | ⟨aa,gf⟩
    ·rw [Nat.zero_add] at ae a0
     by_cases ic:j=i
     ·subst ic
      rw [eX] at aa
      cases aa
      exact⟨τ,by rw [aG,a0];simp [tL,look,Nat.beq_refl],fun _ _ _ h=>h⟩
     rw [g1 j ic] at ae
     rw [MU j y aa ae] at a0
     have a7:=JQ (ls:=fun i=>bo.getD i false) (hd:=hd) (E:=E) (k:=0) aa (by rw [Nat.zero_add];exact ae) aG fun q z hq dI=>Lp q j t z y hq aa dI aG
     rw [Nat.zero_add,← a0] at a7
     refine⟨τ,?_,fun _ _ _ h=>h⟩
     cases ub:h.slot with
     | none=>exact a7
     | some s=>
       have db:Nat.beq s t=false:=by
        cases hb:Nat.beq s t
        ·rfl
        have:=eQ.1 hb;subst this;exact absurd (Lp j i s y h aa eX aG ub) ic
       simp only [tL,look,db,cond_false]
       exact a7
    have hb:=pc t τ aa
    have a7:=JC (ls:=fun i=>bo.getD i false) (hd:=hd) (E:=E) (k:=0) hb
    refine⟨τ,?_,fun _ _ _ h=>h⟩
    cases ub:h.slot with
    | none=>simp only [tL];rw [a7];exact aa
    | some s=>
      have db:Nat.beq s t=false:=by
       cases nu:Nat.beq s t
       ·rfl
       have:=eQ.1 nu;subst this;exact absurd ub (gf i h eX (by rw [Nat.zero_add];exact H6))
      simp only [tL,look,db,cond_false]
      rw [a7];exact aa
   ·rcases Qv an with⟨j,aH,y,aa,ae,aG⟩ | aa
    ·have a7:=JQ (ls:=fun i=>bo.getD i false) (hd:=hd) (E:=E) (k:=0) aa (by rw [Nat.zero_add];exact HC j aH) ae fun q z hq dI=>Lp q j t z y hq aa dI ae
     rw [Nat.zero_add,← aG] at a7
     exact a7
    rw [JC (pc t τ aa)];exact aa
   rw [GU] at aH ⊢
   rw [← aH]
   conv=>lhs;rw [xj]
   rw [Jj,JB]
   ·refine F6 fun q x ar hw=>?_
    rw [Nat.zero_add]
    have hq:q<i:=by have:=(List.getElem?_eq_some_iff.1 ar).1;omega
    rw [List.getElem?_take,if_pos hq] at ar
    exact⟨HC q ((DP q x ar).1 hq ⟨j,by simpa using hw,aO⟩),fun _=>rfl⟩
   intro q x ar hw
   rw [H4,Nat.zero_add]
   cases q with
   | zero=>exact om
   | succ q=>
     simp only [List.getElem?_cons_succ] at ar
     rw [List.getElem?_drop] at ar
     exact Ro (i+(q+1)) x (by rw [← ar];congr 1;omega) (by omega) ⟨j,by simpa using hw,.inl aO⟩
theorem ag.KL {oC:Nat}{l:List Oper}(n:Nat){np:Nat}(hm:c.P.follows .mixedOrders=true)(hs:List e6)(ds:List (Option Nat×List Nat×List Nat×List Nat))(es:List Nat)(h3:n0 hs=ds)(pW:E.map (·.1)=es)(iy:Gv.xD l.toArray n ds es=true)(vQ:∀ h∈hs,∀ j∈h.wr,j<np∨L.length≤j)
 (cA:sc c l.toArray Q hs E L np 0 (l.take n) hs) (bM:∀ hd,ah c l.toArray Q (l.drop n) (kz (fun _=>true) hd E 0 hs) (jD (fun _=>true) hd 0 hs L)):ag c Q (.region oC l.toArray true) E L:=fun a W s=>by
 subst h3 pW
 refine wpIn_region_any hm ?_
 have aR:n≤l.toArray.size:=by
  simp only [Gv.xD,Bool.and_eq_true,decide_eq_true_eq] at iy;exact iy.1.1.1.1.1.2
 have LW:HeadInv .any l.toArray n (Array.replicate l.toArray.size false):=
  {size:=by simp
   closed:=fun j pg _ an=>by rw [getD_replicate_false] at an;cases an
   tail:=fun t _ bM=>by simp at bM;simp [bM] }
 have h:=XP vQ (ops:=l.toArray) (Q:=Q) iy (by simpa using cA) (by simpa using bM) n (Array.replicate l.toArray.size false) (fun _ _=>none) a W.drew (Nat.le_trans (List.length_filter_le _ _) (by simp)) LW ?_
 ·rw [show n+(l.toArray.size - n)=l.toArray.size by omega] at h
  exact h
 have aa:∀ (hs:List e6) (k:Nat),kz (fun i=>(Array.replicate l.toArray.size false).getD i false) (fun _ _=>none) E k hs=E:=by
  intro hs;induction hs with
  | nil=>intro k;rfl
  | cons h r b6=>
    intro k
    have ae:=b6 (k+1)
    simp only [getD_replicate_false] at ae
    unfold kz
    simp only [getD_replicate_false]
    exact ae
 have ae:∀ (hs:List e6) (k:Nat) (L:List aQ),jD (fun i=>(Array.replicate l.toArray.size false).getD i false) (fun _ _=>none) k hs L=L:=by
  intro hs;induction hs with
  | nil=>intro k L;rfl
  | cons h r b6=>intro k L;rw [jD,b6];simp only [getD_replicate_false,cond_false]
 rw [aa,ae]
 exact s.world (Fr.drew W)
theorem ag.UC {oC:Nat}{l:List Oper}{ds:List (Option Nat×List Nat×List Nat×List Nat)}(n np:Nat)(hm:c.P.follows .mixedOrders=true)(hs:List e6)(es:List Nat)
 (cA:sc c l.toArray Q hs E L np 0 (l.take n) hs) (bM:∀ hd,ah c l.toArray Q (l.drop n) (kz (fun _=>true) hd E 0 hs) (jD (fun _=>true) hd 0 hs L))
 (h3:n0 hs=ds:=by rfl) (pW:E.map (·.1)=es:=by rfl) (iy:Gv.xD l.toArray n ds es=true:=by kernel_rfl) (hw:(ds.all fun d=>d.2.2.2.all fun j=>Nat.blt j np)=true:=by kernel_rfl):ag c Q (.region oC l.toArray true) E L:=
 ag.KL n hm hs ds es h3 pW iy (SD h3 hw) cA bM
theorem ag.n4 {oC:Nat}{l:List Oper}{ds:List (Option Nat×List Nat×List Nat×List Nat)}(np:Nat)(hm:c.P.follows .mixedOrders=true)(hs:List e6)(es:List Nat)
 (cA:sc c l.toArray Q hs E L np 0 l hs) (bM:∀ hd,ad c Q .normal (kz (fun _=>true) hd E 0 hs) (jD (fun _=>true) hd 0 hs L))
 (h3:n0 hs=ds:=by rfl) (pW:E.map (·.1)=es:=by rfl) (iy:Gv.xD l.toArray l.length ds es=true:=by kernel_rfl) (hw:(ds.all fun d=>d.2.2.2.all fun j=>Nat.blt j np)=true:=by kernel_rfl):ag c Q (.region oC l.toArray true) E L:=
 ag.KL l.length hm hs ds es h3 pW iy (SD h3 hw) (by rw [List.take_length];exact cA) (fun hd=>by rw [List.drop_length];exact ah.nil (bM hd))
theorem ag.lI {oC:Nat}{l:List Oper}{ds:List (Option Nat×List Nat×List Nat×List Nat)}(hm:c.P.follows .mixedOrders=true)(hs:List e6)(es:List Nat)
 (cA:CP c l.toArray Q hs E L 0 l hs) (bM:∀ hd,ad c Q .normal (kz (fun _=>true) hd E 0 hs) (jD (fun _=>true) hd 0 hs L))
 (h3:n0 hs=ds:=by rfl) (pW:E.map (·.1)=es:=by rfl) (iy:Gv.xD l.toArray l.length ds es=true:=by kernel_rfl):ag c Q (.region oC l.toArray true) E L:=
 ag.KL (np:=L.length) l.length hm hs ds es h3 pW iy (fun _ _ j _=>by omega) (by rw [List.take_length];exact cA.T4) (fun hd=>by rw [List.drop_length];exact ah.nil (bM hd))
def rg:Nat→Nat→List (Option Nat)
 | _,0=>[]
 | a,n+1=>some a::rg (a+1) n
def fk:List I→List fB
 | []=>[]
 | τ::r=>.val τ::fk r
theorem ag.eD {oC:Nat}{l:List Oper}(hm:c.P.follows .mixedOrders=true)(n:Nat)(eE:List (Option Nat))(pJ:List (List Nat))(hs:List fB)(cA:∀ bw,q5 c l.toArray bw eE hs E L 0 l hs pJ)
 (bM:∀ bw:Nat→Nat,ah c l.toArray Q (l.drop n) (tJ bw E 0 eE hs) (mN bw hs (eH L hs) 0 hs)) (iy:Dh l.toArray n eE pJ (hs.map fB.nM) c.n=true:=by kernel_rfl) (aA:Ae E (eE.filterMap id)=true:=by rfl)
 (hlen:Nat.beq hs.length n=true:=by rfl):ag c Q (.region oC l.toArray true) E L:=ag.draw hm n eE pJ hs (hs.map fB.nM) iy rfl aA hlen cA bM
theorem cB.tail {l:List Oper}{f:Nat}{bo:Array Bool}(n:Nat)(a2:(l.drop n).length=f)(hs:Region.seqB .any l.toArray f n bo=true)(h:ah c l.toArray Q (l.drop n) E L):cB c l.toArray Q f bo E L:=fun a W s=>by
 subst a2;exact B0 (l.drop n) n bo a W (fun j=>by simp) hs (h a W s)
def av.share {β α:Type}(B:(β→av α)→av α)(k:β→av α):av α:=B k
theorem ag.aa0 {c:dB}{Q:Exit→Act→World→Prop}{E:List (Nat×I)}{L:List aQ}{x:Code}{β α γ:Type}{B:(β→av α)→av α}{k:β→av α}{R:α→Prop}(h:av.share B k R)(E':β→γ→List (Nat×I))(L':β→γ→List aQ)
 (aa:∀ v g,k v R→ad c Q .normal (E' v g) (L' v g)) (ae:(∀ v g,k v R→ad c Q .normal (E' v g) (L' v g))→B k R→ag c Q x E L):ag c Q x E L:=ae aa h
theorem av.ch {α β:Type}{o:Option α}{k:α→av β}{R:β→Prop}{P:Prop}(h:av.bind (av.of o) k R)(g:∀ y,o=some y→k y R→P):P:=(av.aaj h).elim fun y h=>g y h.1 h.2
theorem av.ex {α β:Type}{m:av α}{k:α→av β}{R:β→Prop}(h:av.bind m k R):∃ K:α→Prop,m K∧ ∀ r,K r→k r R:=⟨_,h,fun _ h=>h⟩
end
theorem bC.law {P:Program}{f:FuncId}{τs:List I}{ca:Type}[fC ca]{R:Bool×aN ca→Prop}{Lo: {r:Bool×aN ca // R r}×Unit→List aQ}(h:bC P f τs ([]++aS ([]:aN ca)) (fun d: {r:Bool×aN ca // R r}×Unit=>I.of d.1.1.1) Lo)(ko:∀ r,R r→r.1=true):bK P f τs (I.of true):=by
 intro A W vs hf a6;refine(h A W vs (fun k aw=>⟨hf k aw,by simp [aS,aU]⟩) (by simp [aS,aU]) (fun k aw=>by simp [aS,aU] at aw) (fun e he=>by simp [aS] at he) (by simpa [aS,aU] using a6)).mono ?_;intro e W' ⟨v,d,aa,ae,_,_,_,aG⟩;refine⟨v,aa,by simpa [aS,aU] using ae,?_⟩;have a0:=ko d.1.1 d.1.2;rw [of_bool] at aG ⊢;rw [aG,a0]
def D7 (p:Prop)[Decidable p]:Option Unit:=if p then some () else none
theorem av.afP {β:Type}{p:Prop}[Decidable p]{k:Unit→av β}{R:β→Prop}(h:av.bind (av.of (D7 p)) k R):p:=by
 obtain⟨r,aa,_⟩:=h;unfold D7 at aa;split at aa
 ·assumption
 cases aa
theorem av.aec {β:Type}{p:Prop}[Decidable p]{k:Unit→av β}{R:β→Prop}(h:av.bind (av.of (D7 p)) k R):k () R:=by
 obtain⟨r,_,ae⟩:=h;exact ae
section
variable {c:dB} {E:List (Nat×I)} {L:List aQ} {ops:Array Oper} {Q:Exit→Act→World→Prop}
theorem Zp {n:Nat}(aR:n≤ops.size)(Uc:∀ i o,i<n→ops[i]? =some o→ ∀ e∈o.after,Region.binds .any e=true→e.on<i)
 (xy:n=ops.size∨ (Region.sinkB .any ops n=true∧Region.chainB .any ops n=true))
 (rf:Region.seqB .any ops (ops.size - n) n ((List.range n).foldl (fun l i=>l.setIfInBounds i true) (Array.replicate ops.size false))=true)
 (S:Array Bool→Act→World→Prop)
 (tA:∀ (bo:Array Bool) (i:Nat) (o:Oper) (a:Act) (W:World),HeadInv .any ops n bo→i<n→ops[i]? =some o→bo.getD i false=false→ (∀ e∈o.after,Region.binds .any e=true→bo.getD e.on false=true)→S bo a W→
  wpOpIn c.F 9 c.P ops Q i (fun hM W'=>S (bo.setIfInBounds i true) hM W') a W)
 (nS:∀ (bo:Array Bool) (a:Act) (W:World),(∀ i,i<n→bo.getD i false=true)→S bo a W→c.qB ops Q (ops.toList.drop n) a W):
 ∀ m (bo:Array Bool) (a:Act) (W:World),((List.range n).filter fun i=> !bo.getD i true).length≤m→HeadInv .any ops n bo→S bo a W→wpAnyIn c.F 9 c.P .any ops Q (m+(ops.size - n)) bo a W:=by
 have sx:∀ i,i<n→ ∃ o,ops[i]? =some o:=fun i au=>⟨ops[i],by simp⟩
 have pE:∀ (bo:Array Bool) (a:Act) (W:World),(∀ i,i<n→bo.getD i true=true)→HeadInv .any ops n bo→S bo a W→wpAnyIn c.F 9 c.P .any ops Q (ops.size - n) bo a W:=by
  intro bo a W vv inv st;have an:=Jr inv aR vv;have ub:=rf;rw [← an] at ub;have xz:(ops.toList.drop n).length=ops.size - n:=by simp
  rw [← xz] at ub ⊢;exact B0 (ops.toList.drop n) n bo a W (fun j=>by simp) ub (nS bo a W (fun i au=>by
   have aa:=vv i au;have ae:i<bo.size:=by rw [inv.size];omega
   simpa [ae] using aa) st)
 have more:∀ f (bo:Array Bool) a W,wpAnyIn c.F 9 c.P .any ops Q f bo a W→wpAnyIn c.F 9 c.P .any ops Q (f+1) bo a W:=by
  intro f;induction f with
  | zero=>intro bo a W h;exact⟨fun _=>h.2,fun i au=>by rw [h.1] at au;cases au⟩
  | succ f Eb=>intro bo a W h;exact⟨h.1,fun i au=>wpOpIn_mono (fun hM rM de=>Eb _ hM rM de) (h.2 i au)⟩
 intro m
 induction m with
 | zero=>
   intro bo a W hm inv st
   rw [Nat.zero_add]
   refine pE bo a W (fun i au=>?_) inv st
   cases h:bo.getD i true with
   | true=>rfl
   | false=>
     have:i∈ (List.range n).filter fun i=> !bo.getD i true:=List.mem_filter.2 ⟨List.mem_range.2 au,by rw [h];rfl⟩
     rw [List.length_eq_zero_iff.1 (Nat.le_zero.1 hm)] at this
     cases this
 | succ m b6=>
   intro bo a W hm inv st
   rw [show m+1+(ops.size - n)=(m+(ops.size - n))+1 by omega]
   by_cases Dm:∀ i,i<n→bo.getD i true=true
   ·have aa:=pE bo a W Dm inv st
    have key:∀ k,wpAnyIn c.F 9 c.P .any ops Q (k+(ops.size - n)) bo a W:=by
     intro k;induction k with
     | zero=>rw [Nat.zero_add];exact aa
     | succ k Ec=>rw [show k+1+(ops.size - n)=(k+(ops.size - n))+1 by omega];exact more _ _ _ _ Ec
    exact more _ _ _ _ (key m)
   have hex:∃ i,i<n∧bo.getD i true=false:=by
    false_or_by_contra;rename_i ae;exact Dm fun i au=>by
     cases h:bo.getD i true with
     | true=>rfl
     | false=>exact absurd ⟨i,au,h⟩ ae
   have CN:∀ t∈Region.ready .any ops bo,t<n:=by
    intro t rr;rcases Nat.lt_or_ge t n with h | h
    ·exact h
    obtain⟨i,au,kh⟩:=hex;have afv:t<ops.size:=by
     obtain⟨_,o,bg,_⟩:=mem_ready.1 rr;exact(Array.getElem?_eq_some_iff.1 bg).1
    rcases xy with aa | aa
    ·omega
    exact absurd rr (tail_waits aa.1 aa.2 (by omega) inv _ i rfl au kh t h)
   refine⟨fun bO=>?_,fun i au=>?_⟩
   ·exfalso
    have key:∀ d i,i≤d→i<n→bo.getD i true=true:=by
     intro d;induction d with
     | zero=>
       intro i Ed au
       cases an:bo.getD i true with
       | true=>rfl
       | false=>
         obtain⟨o,bg⟩:=sx i au
         have:i∈Region.ready .any ops bo:=mem_ready.2 ⟨an,o,bg,fun e he hb=>by have:=Uc i o au bg e he hb;omega⟩
         rw [bO] at this;cases this
     | succ d MR=>
       intro i Ed au
       cases an:bo.getD i true with
       | true=>rfl
       | false=>
         obtain⟨o,bg⟩:=sx i au
         have:i∈Region.ready .any ops bo:=mem_ready.2 ⟨an,o,bg,fun e he hb=>by
          have aa:=Uc i o au bg e he hb;have ae:=MR e.on (by omega) (by omega);have aG:e.on<bo.size:=by rw [inv.size];omega
          simpa [aG] using ae⟩
         rw [bO] at this;cases this
    obtain⟨i,au,kh⟩:=hex
    have:=key i i (Nat.le_refl _) au
    rw [kh] at this;cases this
   have fc:i<n:=CN i au
   obtain⟨kh,o,bg,qd⟩:=mem_ready.1 au
   have vG:i<bo.size:=by rw [inv.size];omega
   have tK:((List.range n).filter fun j=> !(bo.setIfInBounds i true).getD j true).length≤m:=by
    have:((List.range n).filter fun j=> !(bo.setIfInBounds i true).getD j true).length<((List.range n).filter fun j=> !bo.getD j true).length:=by
     refine KH (fun j=> !bo.getD j true) (fun j=> !(bo.setIfInBounds i true).getD j true) i (by simp only [kh];rfl) ?_ (fun j aH=>?_) n fc
     ·simp [vG]
     by_cases e:i=j
     ·subst e;simp only [kh];rfl
     rw [getD_set_ne true e] at aH;exact aH
    omega
   exact wpOpIn_mono (fun hM W' pU=>b6 _ hM W' tK (inv.set au fc) pU) (tA bo i o a W inv fc bg (getD_both kh) qd st)
def iV (ls:Nat→Bool)(E:List (Nat×I)):Nat→List (Option (Nat×I))→List (Nat×I)
 | _,[]=>E
 | k,none::r=>iV ls E (k+1) r
 | k,some x::r=>bif ls k then x::iV ls E (k+1) r else iV ls E (k+1) r
def p2 (fs:List (Option (Nat×I)))(E:List (Nat×I)):List Nat→List (Nat×I)
 | []=>E
 | i::r=>match fs[i]? with
   | some (some x)=>x::p2 fs E r
   | _=>p2 fs E r
def kd (fs:List (Option (Nat×I))):List Nat:=fs.filterMap fun x=>x.map (·.1)
theorem KM {ls:Nat→Bool}{E:List (Nat×I)}{t:Nat}{τ:I} :∀ {fs:List (Option (Nat×I))} {k:Nat},look (iV ls E k fs) t=some τ→ (∃ j,ls (k+j)=true∧fs[j]? =some (some (t,τ)))∨look E t=some τ
 | [],k,h=>.inr h
 | none::r,k,h=>by
   rcases KM (fs:=r) (k:=k+1) h with⟨j,aa,ae⟩ | aa
   ·exact .inl ⟨j+1,by rw [← aa];congr 1;omega,by simpa using ae⟩
   exact .inr aa
 | some x::r,k,h=>by
   have aO:look (iV ls E (k+1) r) t=some τ→ (∃ j,ls (k+j)=true∧ (some x::r)[j]? =some (some (t,τ)))∨look E t=some τ:=fun h=>by
    rcases KM (fs:=r) (k:=k+1) h with⟨j,aa,ae⟩ | aa
    ·exact .inl ⟨j+1,by rw [← aa];congr 1;omega,by simpa using ae⟩
    exact .inr aa
   unfold iV at h;cases aw:ls k with
   | false=>rw [aw] at h;exact aO h
   | true=>
     rw [aw] at h
     simp only [cond_true,look] at h
     cases hb:Nat.beq x.1 t with
     | true=>
       rw [hb] at h
       have aa:x.2=τ:=by simpa using h
       have ae:=eQ.1 hb
       exact .inl ⟨0,aw,by rw [← aa,← ae];rfl⟩
     | false=>rw [hb] at h;exact aO h
theorem zC {ls:Nat→Bool}{E:List (Nat×I)}{t:Nat} :∀ {fs:List (Option (Nat×I))} {k:Nat},t ∉ kd fs→look (iV ls E k fs) t=look E t
 | [],k,h=>rfl
 | none::r,k,h=>zC (fs:=r) (k:=k+1) h
 | some x::r,k,h=>by
   have aa:t≠x.1∧t ∉ kd r:=by simpa [kd] using h
   unfold iV;cases aw:ls k with
   | false=>exact zC aa.2
   | true=>
     have hb:Nat.beq x.1 t=false:=by
      cases hb:Nat.beq x.1 t with
      | false=>rfl
      | true=>exact absurd (eQ.1 hb).symm aa.1
     simp only [cond_true,look,hb,cond_false]
     exact zC aa.2
theorem Gd {fs:List (Option (Nat×I))}{j:Nat}{x:Nat×I}(h:fs[j]? =some (some x)):x.1∈kd fs:=
 List.mem_filterMap.2 ⟨_,List.mem_of_getElem? h,rfl⟩
theorem GV {ls:Nat→Bool}{E:List (Nat×I)} :∀ {fs:List (Option (Nat×I))} {k j:Nat} {x:Nat×I},(kd fs).Nodup→fs[j]? =some (some x)→ls (k+j)=true→look (iV ls E k fs) x.1=some x.2
 | [],k,j,x,_,h,_=>by simp at h
 | none::r,k,j,x,aR,h,an=>by
   cases j with
   | zero=>simp at h
   | succ j=>exact GV (fs:=r) (k:=k+1) (j:=j) aR (by simpa using h) (by rw [← an];congr 1;omega)
 | some y::r,k,j,x,aR,h,an=>by
   have nY:y.1 ∉ kd r∧ (kd r).Nodup:=by simpa [kd] using aR
   cases j with
   | zero=>
     have:y=x:=by simpa using h
     subst this
     have an:ls k=true:=an
     unfold iV
     simp only [an,cond_true,look,Nat.beq_refl]
   | succ j=>
     have de:r[j]? =some (some x):=by simpa using h
     have au:=GV (fs:=r) (k:=k+1) (E:=E) (ls:=ls) nY.2 de (by rw [← an];congr 1;omega)
     unfold iV
     cases aw:ls k with
     | false=>exact au
     | true=>
       have hb:Nat.beq y.1 x.1=false:=by
        cases hb:Nat.beq y.1 x.1 with
        | false=>rfl
        | true=>exact absurd (by rw [eQ.1 hb];exact Gd de) nY.1
       simp only [cond_true,look,hb,cond_false]
       exact au
theorem Rp {fs:List (Option (Nat×I))}{E:List (Nat×I)}{t:Nat}{τ:I} :∀ {us:List Nat},look (p2 fs E us) t=some τ→ (∃ j∈us,fs[j]? =some (some (t,τ)))∨look E t=some τ
 | [],h=>.inr h
 | i::r,h=>by
   have aO:look (p2 fs E r) t=some τ→ (∃ j∈i::r,fs[j]? =some (some (t,τ)))∨look E t=some τ:=fun h=>by
    rcases Rp h with⟨j,aa,ae⟩ | aa
    ·exact .inl ⟨j,List.mem_cons_of_mem _ aa,ae⟩
    exact .inr aa
   unfold p2 at h;split at h
   ·rename_i x ar;simp only [look] at h;cases hb:Nat.beq x.1 t with
    | true=>
      rw [hb] at h
      have aa:x.2=τ:=by simpa using h
      have ae:=eQ.1 hb
      exact .inl ⟨i,by simp,by rw [ar,← aa,← ae]⟩
    | false=>rw [hb] at h;exact aO h
   exact aO h
theorem ade {fs:List (Option (Nat×I))}{E:List (Nat×I)}{ls:Nat→Bool}{us:List Nat}(aR:(kd fs).Nodup)(aA:∀ t∈kd fs,look E t=none)(hu:∀ j∈us,ls j=true){t:Nat}{τ:I}(h:look (p2 fs E us) t=some τ):look (iV ls E 0 fs) t=some τ:=by
 rcases Rp h with⟨j,aa,ae⟩ | aa
 ·exact GV aR ae (by rw [Nat.zero_add];exact hu j aa)
 rw [zC fun ae=>by rw [aA t ae] at aa;cases aa];exact aa
theorem PO:∀ {E:List (Nat×I)} {t:Nat},(E.map (·.1)).contains t=false→look E t=none
 | [],t,_=>rfl
 | (s,σ)::r,t,h=>by
   have aa: ¬ t=s∧ (r.map (·.1)).contains t=false:=by simpa using h
   have hb:Nat.beq s t=false:=by
    cases hb:Nat.beq s t with
    | false=>rfl
    | true=>exact absurd (eQ.1 hb).symm aa.1
   simp only [look,hb,cond_false];exact PO aa.2
def Rq (ops:Array Oper)(n w n6 AM:Nat)(hT:List (Option Nat))(qF:List (List Nat))(E:List Nat):Bool:=
 decide (hT.length=n)&&decide (n≤ops.size)&&decide (w<n)&&decide (n6::hT.filterMap id).Nodup&&((n6::hT.filterMap id).all fun s=> !E.contains s&&Nat.blt s AM)&&
 ((List.range n).all fun i=>((ops[i]?).map fun o=>(o.dst==if i=w then some n6 else(hT[i]?).getD none)&&o.guard.isNone&&(decide (i=w)||((hT[i]?).getD none).isSome)&&o.after.all fun e=> !Region.binds .any e||decide (e.on<i)).getD false&&
   ((qF[i]?).getD []).all fun k=>decide (k≠w)&&Region.waitsFor .any ops i k)&&
 decide ((hT[w]?).getD none=none)&&
 (decide (n=ops.size)||(Region.sinkB .any ops n&&Region.chainB .any ops n))&&
 Region.seqB .any ops (ops.size - n) n ((List.range n).foldl (fun l i=>l.setIfInBounds i true) (Array.replicate ops.size false))
def tp (c:dB)(E:List (Nat×I))(L:List aQ){γ:Type}(K:γ→Prop)(hU:γ→List aQ)(fs:List (Option (Nat×I))):List Oper→List (Option (Nat×I))→List (List Nat)→Prop
 | o::os,some x::r,u::us=>(b9 c (p2 fs E u) L o x.2∧ ∀ y,K y→b9 c (p2 fs E u) (hU y) o x.2)∧tp c E L K hU fs os r us
 | _::os,none::r,_::us=>tp c E L K hU fs os r us
 | _,_,_=>True
theorem tp.get {γ:Type}{K:γ→Prop}{hU:γ→List aQ}{fs:List (Option (Nat×I))} :∀ {os:List Oper} {rs:List (Option (Nat×I))} {us:List (List Nat)},tp c E L K hU fs os rs us→ ∀ {i:Nat} {o:Oper} {x:Nat×I} {u:List Nat},os[i]? =some o→rs[i]? =some (some x)→us[i]? =some u→
 b9 c (p2 fs E u) L o x.2∧ ∀ y,K y→b9 c (p2 fs E u) (hU y) o x.2
 | o::os,some x::r,u::us,h,0,o',Iu,Iv,aa,ae,aG=>by
   have aq:o=o':=by simpa using aa
   have aX:x=Iu:=by simpa using ae
   have dd:u=Iv:=by simpa using aG
   subst aq aX dd;exact h.1
 | o::os,some x::r,u::us,h,i+1,o',Iu,Iv,aa,ae,aG=>tp.get h.2 (i:=i) (by simpa using aa) (by simpa using ae) (by simpa using aG)
 | o::os,none::r,u::us,h,0,o',Iu,Iv,aa,ae,aG=>by simp at ae
 | o::os,none::r,u::us,h,i+1,o',Iu,Iv,aa,ae,aG=>by
   have h:tp c E L K hU fs os r us:=h;exact tp.get h (i:=i) (by simpa using aa) (by simpa using ae) (by simpa using aG)
 | [],_,_,_,i,_,_,_,aa,_,_=>by simp at aa
 | _::_,[],_,_,i,_,_,_,_,ae,_=>by simp at ae
 | _::_,_::_,[],_,i,_,_,_,_,_,aG=>by simp at aG
theorem Kx {oC:Nat}{l:List Oper}(hm:c.P.follows .mixedOrders=true)(n w n6 AM:Nat){γ:Type}{K:γ→Prop}(fs:List (Option (Nat×I)))(hT:List (Option Nat))(qF:List (List Nat))(es:List Nat)(H7:γ→I)(hU:γ→List aQ)
 {qQ:Oper} {NJ:List Nat} (agA:l[w]? =some qQ) (agB:qF[w]? =some NJ) (MV:c.n=AM) (agC:(fs.map fun x=>x.map (·.1))=hT) (aim:qF.length=n) (pW:E.map (·.1)=es) (iy:Rq l.toArray n w n6 AM hT qF es=true)
 (cA:tp c E L K hU fs (l.take n) fs qF)
 (hw:∀ (ux:Exit→Act→World→Prop) (E':List (Nat×I)),(∀ {t τ},look (p2 fs E NJ) t=some τ→look E' t=some τ)→ (∀ y,K y→ad c ux .normal ((n6,H7 y)::E') (hU y))→ah c l.toArray ux [qQ] E' L)
 (bM:∀ y,K y→ah c l.toArray Q (l.drop n) ((n6,H7 y)::iV (fun _=>true) E 0 fs) (hU y)):ag c Q (.region oC l.toArray true) E L:=fun a W s=>by
 subst MV agC pW
 refine wpIn_region_any hm ?_
 simp only [Rq,Bool.and_eq_true,decide_eq_true_eq,Bool.or_eq_true] at iy
 obtain⟨⟨⟨⟨⟨⟨⟨⟨hlen,aR⟩,agD⟩,iD⟩,Ud⟩,kR⟩,MW⟩,xy⟩,rf⟩:=iy
 have hlen:fs.length=n:=by simpa using hlen
 have agE:(fs.map fun x=>x.map (·.1)).filterMap id=kd fs:=by
  unfold kd;rw [List.filterMap_map];rfl
 rw [agE] at iD Ud
 obtain⟨Ue,iD⟩:=List.nodup_cons.1 iD
 have agF:∀ t,(E.map (·.1)).contains t=false→look E t=none:=fun t h=>PO h
 have aA:∀ t∈n6::kd fs,look E t=none∧Nat.blt t c.n=true:=fun t bM=>by
  have:=List.all_eq_true.1 Ud t bM;simp only [Bool.and_eq_true,Bool.not_eq_true'] at this;exact⟨agF t this.1,this.2⟩
 have MX:∀ t∈kd fs,look E t=none:=fun t bM=>(aA t (List.mem_cons_of_mem _ bM)).1
 have uc:∀ i o,i<n→l.toArray[i]? =some o→ (o.dst=if i=w then some n6 else((fs[i]?).getD none).map (·.1))∧o.guard=none∧ (i=w∨ ∃ x,fs[i]? =some (some x))∧ (∀ e∈o.after,Region.binds .any e=true→e.on<i)∧ ∀ k∈ (qF[i]?).getD [],k≠w∧Region.waitsFor .any l.toArray i k=true:=fun i o au bg=>by
  have aa:=List.all_eq_true.1 kR i (List.mem_range.2 au);simp only [Bool.and_eq_true] at aa;obtain⟨ae,aG⟩:=aa;simp only [bg,Option.map_some,Option.getD_some,Bool.and_eq_true,beq_iff_eq] at ae;obtain⟨⟨⟨a0,a7⟩,bn⟩,dn⟩:=ae;have agG:((fs.map fun x=>x.map (·.1))[i]?).getD none=((fs[i]?).getD none).map (·.1):=by
   rw [List.getElem?_map];cases fs[i]? with
   | none=>rfl
   | some x=>rfl
  rw [agG] at a0 bn;refine⟨a0,by simpa using a7,?_,fun e he hb=>?_,fun k aw=>?_⟩
  ·simp only [Bool.or_eq_true,decide_eq_true_eq] at bn;rcases bn with bn | bn
   ·exact .inl bn
   right;cases ar:fs[i]? with
   | none=>rw [ar] at bn;cases bn
   | some x=>
     cases x with
     | none=>rw [ar] at bn;cases bn
     | some x=>exact⟨x,rfl⟩
  ·have:=Array.all_eq_true_iff_forall_mem.1 dn e he;simp [hb] at this;exact this
  have:=List.all_eq_true.1 aG k aw;simpa using this
 have afx:fs[w]? =some none:=by
  have aa:((fs.map fun x=>x.map (·.1))[w]?).getD none=none:=MW;rw [List.getElem?_map] at aa;cases ar:fs[w]? with
  | none=>have:=List.getElem?_eq_none_iff.1 ar;omega
  | some x=>
    cases x with
    | none=>rfl
    | some x=>rw [ar] at aa;cases aa
 let S:Array Bool→Act→World→Prop:=fun bo a W=>(bo.getD w false=false→bL c (iV (fun i=>bo.getD i false) E 0 fs) L a W)∧ (bo.getD w false=true→ ∃ y,K y∧bL c ((n6,H7 y)::iV (fun i=>bo.getD i false) E 0 fs) (hU y) a W)
 have h:=Zp (c:=c) (ops:=l.toArray) (Q:=Q) aR (fun i o au bg=>(uc i o au bg).2.2.2.1) xy rf S ?_ ?_ n (Array.replicate l.toArray.size false) a W.drew (Nat.le_trans (List.length_filter_le _ _) (by simp)) ?_ ?_
 ·rw [show n+(l.toArray.size - n)=l.toArray.size by omega] at h
  exact h
 ·
  intro bo i o a W inv au bg kh qd yr
  obtain⟨b0,cR,mA,Ir,rL⟩:=uc i o au bg
  have vG:i<bo.size:=by rw [inv.size];omega
  have H6:(bo.setIfInBounds i true).getD i false=true:=by simp [vG]
  have g1:∀ j,j≠i→ (bo.setIfInBounds i true).getD j false=bo.getD j false:=fun j aH=>getD_set_ne false (fun e=>aH e.symm)
  have MY:i<qF.length:=by omega
  have HC:∀ k∈qF[i],bo.getD k false=true:=fun k aw=>by
   have:=rL k (by rw [List.getElem?_eq_getElem MY];exact aw);obtain⟨pg,mw,e,he,hb,pR⟩:=Region.waitsFor_spec this.2;rw [bg] at mw;cases mw;rw [← pR];exact qd e he hb
  have Uf:l[i]? =some o:=by simpa using bg
  have L0:∀ {t τ},look (p2 fs E qF[i]) t=some τ→look (iV (fun i=>bo.getD i false) E 0 fs) t=some τ:=fun {t τ} h=>ade iD MX HC h
  by_cases H8:i=w
  ·subst H8
   rw [if_pos rfl] at b0
   have aq:qQ=o:=Option.some.inj (agA.symm.trans Uf)
   have aX:NJ=qF[i]:=Option.some.inj (agB.symm.trans (List.getElem?_eq_getElem MY))
   subst aq aX
   have MT:=hw (sS (fun hM W'=>S (bo.setIfInBounds i true) hM W') Q) (iV (fun i=>bo.getD i false) E 0 fs) L0 fun y a5 hM W' st=>?_
   ·exact FU bg (MT a W (yr.1 kh))
   refine⟨fun h=>(by rw [H6] at h;cases h),fun _=>⟨y,a5,?_⟩⟩
   have:iV (fun j=>(bo.setIfInBounds i true).getD j false) E 0 fs=iV (fun j=>bo.getD j false) E 0 fs:=by
    have key:∀ (gs:List (Option (Nat×I))) (k:Nat),(∀ j,gs[j]? ≠none→gs[j]? =fs[k+j]?)→iV (fun j=>(bo.setIfInBounds i true).getD j false) E k gs=iV (fun j=>bo.getD j false) E k gs:=by
     intro gs;induction gs with
     | nil=>intro k _;rfl
     | cons x r b6=>
       intro k aw
       have aO:=b6 (k+1) fun j aH=>by
        have:=aw (j+1) (by simpa using aH);rw [List.getElem?_cons_succ] at this;rw [this];congr 1;omega
       cases x with
       | none=>exact aO
       | some x=>
         have bO:=aw 0 (by simp)
         have kB:k≠i:=fun e=>by
          rw [e,Nat.add_zero,afx] at bO;simp at bO
         unfold iV
         simp only [g1 k kB,aO]
    exact key fs 0 fun j _=>by rw [Nat.zero_add]
   rw [this];exact st
  obtain⟨x,ar⟩:=mA.resolve_left H8
  rw [if_neg H8,ar] at b0
  have HV:(bo.setIfInBounds i true).getD w false=bo.getD w false:=g1 w fun e=>H8 e.symm
  have bD:=tp.get cA (i:=i) (by rw [List.getElem?_take,if_pos au];exact Uf) ar (List.getElem?_eq_getElem MY)
  have MZ:=Gd ar
  have ahZ:∀ (kn:List (Nat×I)),(∀ t τ,look ((x.1,x.2)::kn) t=some τ→True):=fun _ _ _ _=>trivial
  have SK:∀ t τ,look (iV (fun j=>(bo.setIfInBounds i true).getD j false) E 0 fs) t=some τ→look ((x.1,x.2)::iV (fun j=>bo.getD j false) E 0 fs) t=some τ:=fun t τ an=>by
   rcases KM an with⟨j,rJ,Iw⟩ | aa
   ·rw [Nat.zero_add] at rJ;by_cases ic:j=i
    ·subst ic;rw [ar] at Iw;cases Iw;simp only [look,Nat.beq_refl,cond_true]
    rw [g1 j ic] at rJ;have ae:=GV (E:=E) (ls:=fun j=>bo.getD j false) (k:=0) iD Iw (by rw [Nat.zero_add];exact rJ);cases hb:Nat.beq x.1 t with
    | false=>simp only [look,hb,cond_false];exact ae
    | true=>
      exfalso
      have aq:=eQ.1 hb
      have uniq:∀ (gs:List (Option (Nat×I))) (p q:Nat) (u v:Nat×I),(kd gs).Nodup→gs[p]? =some (some u)→gs[q]? =some (some v)→u.1=v.1→p=q:=by
       intro gs;induction gs with
       | nil=>intro p q u v _ hp;simp at hp
       | cons z r b6=>
         intro p q u v aR hp hq e
         have aO:(kd r).Nodup:=by
          cases z with
          | none=>exact aR
          | some z=>exact(show z.1 ∉ kd r∧ (kd r).Nodup by simpa [kd] using aR).2
         cases p with
         | zero=>
           have dI:z=some u:=by simpa using hp
           subst dI
           cases q with
           | zero=>rfl
           | succ q=>exact absurd (by rw [e];exact Gd (by simpa using hq)) (show u.1 ∉ kd r∧ (kd r).Nodup by simpa [kd] using aR).1
         | succ p=>
           cases q with
           | zero=>
             have dI:z=some v:=by simpa using hq
             subst dI
             exact absurd (by rw [← e];exact Gd (by simpa using hp)) (show v.1 ∉ kd r∧ (kd r).Nodup by simpa [kd] using aR).1
           | succ q=>rw [b6 p q u v aO (by simpa using hp) (by simpa using hq) e]
      exact ic (uniq fs j i _ _ iD Iw ar aq.symm)
   have hb:Nat.beq x.1 t=false:=by
    cases hb:Nat.beq x.1 t with
    | false=>rfl
    | true=>
      have aq:=eQ.1 hb
      rw [← aq,MX x.1 MZ] at aa;cases aa
   simp only [look,hb,cond_false];rw [zC fun ae=>by rw [MX t ae] at aa;cases aa];exact aa
  have pc:=(aA x.1 (List.mem_cons_of_mem _ MZ)).2
  refine FU bg ?_
  cases H9:bo.getD w false with
  | false=>
    refine ah.v (τ:=x.2) (d:=x.1) (fun a W st=>bD.1 a W (st.less fun t τ h=>⟨τ,L0 h,fun _ _ _ h=>h⟩)) cR b0 pc (ah.nil fun hM W' st=>⟨fun _=>st.less fun t τ h=>⟨τ,SK t τ h,fun _ _ _ h=>h⟩,fun h=>?_⟩) a W (yr.1 H9)
    rw [HV,H9] at h;cases h
  | true=>
    obtain⟨y,a5,ME⟩:=yr.2 H9
    have agH:∀ {t τ},look (p2 fs E qF[i]) t=some τ→look ((n6,H7 y)::iV (fun i=>bo.getD i false) E 0 fs) t=some τ:=fun {t τ} h=>by
     have aa:=L0 h;cases hb:Nat.beq n6 t with
     | false=>simp only [look,hb,cond_false];exact aa
     | true=>
       exfalso
       have aq:=eQ.1 hb
       subst aq
       rw [zC Ue,(aA n6 (by simp)).1] at aa;cases aa
    refine ah.v (τ:=x.2) (d:=x.1) (fun a W st=>bD.2 y a5 a W (st.less fun t τ h=>⟨τ,agH h,fun _ _ _ h=>h⟩)) cR b0 pc (ah.nil fun hM W' st=>⟨fun h=>?_,fun _=>⟨y,a5,st.less fun t τ h=>⟨τ,?_,fun _ _ _ h=>h⟩⟩⟩) a W ME
    ·rw [HV,H9] at h;cases h
    cases hb:Nat.beq n6 t with
    | true=>
      have aq:=eQ.1 hb
      subst aq
      have nu:Nat.beq x.1 n6=false:=by
       cases nu:Nat.beq x.1 n6 with
       | false=>rfl
       | true=>exact absurd (by rw [← eQ.1 nu];exact MZ) Ue
      simp only [look,hb,cond_true] at h ⊢
      simp only [nu,cond_false];exact h
    | false=>
      simp only [look,hb,cond_false] at h ⊢
      have:=SK t τ h
      simp only [look] at this
      exact this
 ·intro bo a W vv yr
  obtain⟨y,a5,st⟩:=yr.2 (vv w agD)
  refine bM y a5 a W (st.less fun t τ h=>⟨τ,?_,fun _ _ _ h=>h⟩)
  have key:∀ (gs:List (Option (Nat×I))) (k:Nat),k+gs.length≤n→iV (fun j=>bo.getD j false) E k gs=iV (fun _=>true) E k gs:=by
   intro gs;induction gs with
   | nil=>intro k _;rfl
   | cons x r b6=>
     intro k aw
     have aO:=b6 (k+1) (by simp only [List.length_cons] at aw;omega)
     cases x with
     | none=>exact aO
     | some x=>
       unfold iV
       simp only [vv k (by simp only [List.length_cons] at aw;omega),aO]
  rw [key fs 0 (by omega)];exact h
 ·exact
  {size:=by simp
   closed:=fun j pg _ an=>by rw [getD_replicate_false] at an;cases an
   tail:=fun t _ bM=>by simp at bM;simp [bM] }
 refine⟨fun _=>?_,fun h=>by rw [getD_replicate_false] at h;cases h⟩
 have key:∀ (gs:List (Option (Nat×I))) (k:Nat),iV (fun j=>(Array.replicate l.toArray.size false).getD j false) E k gs=E:=by
  intro gs;induction gs with
  | nil=>intro k;rfl
  | cons x r b6=>
    intro k
    have aO:=b6 (k+1)
    cases x with
    | none=>exact aO
    | some x=>
      unfold iV
      simp only [getD_replicate_false,cond_false] at aO ⊢
      exact aO
 show bL c (iV (fun j=>(Array.replicate l.toArray.size false).getD j false) E 0 fs) L a W.drew
 rw [key]
 exact s.world (Fr.drew W)
end
def sv {α:Type}(n:Nat)(m:Option (List α)):Option (List α):=m.bind fun y=>if y.length=n then some y else none
theorem J7 {α:Type}{n:Nat}{m:Option (List α)}{y:List α}(h:sv n m=some y):m=some y:=by
 unfold sv at h;cases m with
 | none=>cases h
 | some z=>
   rw [Option.bind_some] at h
   split at h
   ·exact h
   cases h
theorem w2 {α:Type}{n:Nat}{m:Option (List α)}{y:List α}(h:sv n m=some y):y.length=n:=by
 unfold sv at h;cases m with
 | none=>cases h
 | some z=>
   rw [Option.bind_some] at h
   split at h
   ·rename_i e;cases h;exact e
   cases h
def yx (n:Nat)(vis:List Nat):Option Nat→Prop
 | none=> ∀ j,j<n→j∈vis
 | some j=>j<n∧j ∉ vis
def av.next (n:Nat)(vis:List Nat):av (Option Nat):=fun R=> ∀ j,yx n vis j→R j
theorem av.Yc {β:Type}{n:Nat}{vis:List Nat}{k:Option Nat→av β}{R:β→Prop}(h:av.bind (av.next n vis) k R)(j:Option Nat)(aH:yx n vis j):k j R:=h j aH
def mK (es:Array MapEntry)(vis:List Nat):Array Nat:=(vis.filterMap fun j=>(es[j]?).map (·.born)).toArray
def mT (ahz:Nat)(es:Array MapEntry)(clock:Nat)(vis:List Nat):Obj:= .mapIter (some ahz) clock (mK es vis) clock
structure Ix (es:Array MapEntry)(clock n:Nat):Prop where
 size:es.size=n
 born:∀ x∈es.toList,x.born<clock
 nodup:(es.toList.map MapEntry.born).Nodup
def eg.and (cp:eg)(o:Obj):eg where
 holds A W x:=cp.holds A W x∧x=o
 nL:=cp.nL
 mono e h:=⟨cp.mono e h.1,h.2⟩
def tM (b:Nat)(o:Obj)(e:aQ):aQ:=if e.key=some b then⟨e.key,e.cp.and o⟩ else e
def oz (b:Nat)(o:Obj)(L:List aQ):List aQ:=L.map (tM b o)
theorem Zq (b:Nat)(o:Obj)(e:aQ):(tM b o e).key=e.key:=by unfold tM;split <;> rfl
theorem KN {b:Nat}{o:Obj} :∀ {L:List aQ},aU (oz b o L)=aU L
 | []=>rfl
 | e::L=>by
   have b6:=KN (b:=b) (o:=o) (L:=L);show aU (tM b o e::oz b o L)=_;unfold aU;rw [Zq,b6]
def I.Ug (b:Bool):I where
 holds _ _ v:= ∃ xs:Array Value,v= .tuple xs∧xs[0]? =some (.bool b)
 mono _ h:=h
section
variable {c:dB} {E:List (Nat×I)} {L:List aQ} {ops:Array Oper} {Q:Exit→Act→World→Prop}
variable {d:Option Tmp} {ty:TypeId} {pos:String} {af:Array Edge} {g:Option (Nat×Bool)} {x y z:Operand} {t t2:TypeId}
variable {ca:Type} [fC ca] {hp:aN ca} {loc:List aQ}
theorem Y9 {key:Option Nat}{n m cap:Nat}(aR:n=m)(h:ba c E L x (.eq (aV key n cap))):ba c E L x (.eq (aV key m cap)):=aR ▸ h
theorem QZ {b:Nat}{o:Obj}{α β:Type}[ak α][ak β]{kv:List (α×β)}{rQ:ca}(n:Nat)(al:L.drop n=Gv.oz b o (aS hp))(hp':pat hp b=some rQ)(aw:fC.ir b rQ= [⟨some b,.map kv⟩]):(⟨some b,eg.and (.map kv) o⟩:aQ)∈L:=by
 have aa:(⟨some b,.map kv⟩:aQ)∈aS hp:=er (n:=0) (hp:=hp) rfl hp' aw;have ae:tM b o ⟨some b,.map kv⟩∈Gv.oz b o (aS hp):=List.mem_map.2 ⟨_,aa,rfl⟩;rw [← al] at ae;have aG:=List.mem_of_mem_drop ae;unfold tM at aG;rw [if_pos rfl] at aG;exact aG
theorem bL.swap {L':List aQ}{a:Act}{W:World}(h:bL c E L a W)(aw:aU L'=aU L)(bg:∀ e∈L',e.ok (aU L++c.b7) W):bL c E L' a W:=
 {defers:=h.defers
  size:=h.size
  env:=by rw [aw];exact h.env
  ej:=h.ej
  own:=by rw [aw];exact bg
  nodup:=by rw [aw];exact h.nodup
  lt:=by rw [aw];exact h.lt
  gN:=by rw [aw];exact h.gN
  fb:=by rw [aw];exact h.fb }
theorem bL.oz {a:Act}{W:World}{M:List aQ}(h:bL c E (loc++M) a W){b:Nat}{o:Obj}(hb:W.heap[b]? =some o):bL c E (loc++Gv.oz b o M) a W:=by
 refine h.swap (by rw [ft,ft,KN]) fun e he=>?_;rcases List.mem_append.1 he with he | he
 ·exact h.own e (List.mem_append_left _ he)
 obtain⟨jC,bO,rfl⟩:=List.mem_map.1 he;have aa:=h.own jC (List.mem_append_right _ bO);unfold tM;split
 ·rename_i aw;unfold aQ.ok at aa ⊢;simp only [aw] at aa ⊢;obtain⟨o',ao,a3⟩:=aa;have:o'=o:=by rw [hb] at ao;exact(Option.some.inj ao).symm
  exact⟨o',ao,a3,this⟩
 exact aa
theorem bL.Ld {a:Act}{W:World}{M:List aQ}{b:Nat}{o:Obj}(h:bL c E (loc++Gv.oz b o M) a W):bL c E (loc++M) a W:=by
 have aw:aU (loc++M)=aU (loc++Gv.oz b o M):=by rw [ft,ft,KN]
 refine h.swap aw fun e he=>?_;rcases List.mem_append.1 he with he | he
 ·exact h.own e (List.mem_append_left _ he)
 have aa:=h.own (tM b o e) (List.mem_append_right _ (List.mem_map.2 ⟨e,he,rfl⟩));unfold tM at aa;split at aa
 ·rename_i cV;unfold aQ.ok at aa ⊢;simp only [cV] at aa ⊢;obtain⟨o',ao,a3,_⟩:=aa;exact⟨o',ao,a3⟩
 exact aa
theorem ad.Ld {z:Exit}{b:Nat}{o:Obj}(n:Nat)(al:L.drop n=Gv.oz b o (aS hp))(k:ad c Q z E (L.take n++aS hp)):ad c Q z E L:=fun a W s=>by
 have e:L=L.take n++Gv.oz b o (aS hp):=by rw [← al,List.take_append_drop]
 rw [e] at s;exact k a W s.Ld
theorem lh.get {α β:Type}[ak α][ak β]{A W} :∀ {es:List MapEntry} {kv:List (α×β)},lh A W es kv→ ∀ {j:Nat} {x:α×β},kv[j]? =some x→ ∃ e,es[j]? =some e∧ (I.of x.1).holds A W e.key∧ (I.of x.2).holds A W e.val
 | _,_,.nil,j,x,h=>by simp at h
 | _,_,.cons aa ae r,0,x,h=>by
   have h:some _=some x:=h;cases h;exact⟨_,rfl,aa,ae⟩
 | _,_,.cons aa ae r,j+1,x,h=>by
   obtain⟨e,ao,a3⟩:=r.get (j:=j) (by simpa using h);exact⟨e,by simpa using ao,a3⟩
theorem ah.aaR {rest:List Oper}{a9 p key elem:Nat}{α β:Type}[ak α][ak β]{kv:List (α×β)}{rQ:ca}(n:Nat)(al:L.drop n=aS hp)(hu:c.P.underlying t=some (.map key elem))(ar:ba c E L x (.of (⟨some p⟩:fR)))(hp':pat hp p=some rQ)(aw:fC.ir p rQ= [⟨some p,.map kv⟩])(aR:Nat.blt a9 c.n=true)
 (k:∀ r es clock,Ix es clock kv.length→ah c ops Q rest ((a9,.eq (.pointer (some ⟨r,0,none⟩)))::E) (⟨some r,.is (mT p es clock [])⟩::(L.take n++Gv.oz p (.map es clock) (aS hp)))):
 ah c ops Q (⟨some a9,.range t x,ty,pos,af,none⟩::rest) E L:=fun a W s=>by
 have e:L=L.take n++aS hp:=by rw [← al,List.take_append_drop]
 have hm:(⟨some p,.map kv⟩:aQ)∈L:=by
  rw [e];exact er (n:=(L.take n).length) (hp:=hp) (by simp) hp' aw
 obtain⟨es,clock,bg,ae,aG,a0⟩:=s.Dl hm
 have lF:=u0.1 (ar a W s)
 have pW:Ix es clock kv.length:=⟨by have:=ae.length;simpa using this,aG,a0⟩
 refine ik rfl (R:=fun v W'=>v= .pointer (some ⟨W.heap.size,0,none⟩)∧W'=W.alloc (mT p es clock [])) (.lv ?_ ⟨rfl,rfl⟩) fun v W' ⟨a6,hw⟩=>?_
 ·have bD:(getObj p).run c.P W= .ok (.map es clock) W:=by simp [getObj,Sem.run,bg]
  simp [execOp,Instr.range,Sem.run_bind,run_underlying hu,lF,bD,newObj,Sem.run]
  rfl
 subst a6
 subst hw
 have s1:=s.alloc (cp:= .is (mT p es clock [])) (o:=mT p es clock []) rfl
 refine k W.heap.size es clock pW _ _ (bL.put ?_ (by simpa using aR) rfl)
 rw [e] at s1
 have hb:(W.alloc (mT p es clock [])).heap[p]? =some (.map es clock):=by
  have cf:p<W.heap.size:=(Array.getElem?_eq_some_iff.1 bg).1;show(W.heap.push _)[p]? =_;rw [Array.getElem?_push_lt cf,← Array.getElem?_eq_getElem cf];exact bg
 exact bL.oz (loc:=⟨some W.heap.size,.is (mT p es clock [])⟩::L.take n) s1 hb
theorem ah.acv {rest:List Oper}{a9 r p:Nat}{α β:Type}[ak α][ak β]{kv:List (α×β)}{es:Array MapEntry}{clock:Nat}{vis:List Nat}(i:Nat)(ar:ba c E L x (.eq (.pointer (some ⟨r,0,none⟩))))(au:L[i]? =some ⟨some r,.is (mT p es clock vis)⟩)
 (hm:(⟨some p,eg.and (.map kv) (.map es clock)⟩:aQ)∈L) (he:Ix es clock kv.length) (aR:Nat.blt a9 c.n=true)
 (k:∀ j,yx kv.length vis j→ah c ops Q rest ((a9,.Ug j.isSome)::E) (L.set i ⟨some r,.is (mT p es clock (vis++j.toList))⟩)):
 ah c ops Q (⟨some a9,.next x false,ty,pos,af,none⟩::rest) E L:=fun a W s=>by
 have lF:a.eval x=_:=ar a W s
 obtain⟨b0,nt,⟨_,nu⟩⟩:=s.own _ hm
 subst nu
 obtain⟨cR,M0,yf⟩:=s.own _ (List.mem_of_getElem? au)
 have yf:cR=mT p es clock vis:=yf
 subst yf
 have adf:∀ {j:Nat} {e:MapEntry},es[j]? =some e→ (mK es vis).contains e.born=true→j∈vis:=fun {j e} aH aj=>by
  unfold mK at aj;simp only [List.contains_toArray,List.contains_iff_mem,List.mem_filterMap] at aj;obtain⟨v,a6,aa⟩:=aj;cases Ia:es[v]? with
  | none=>rw [Ia] at aa;cases aa
  | some e'=>
    rw [Ia] at aa
    have aa:e'.born=e.born:=by simpa using aa
    have Ef:j<es.toList.length:=by simpa using (Array.getElem?_eq_some_iff.1 aH).1
    have rB:v<es.toList.length:=by simpa using (Array.getElem?_eq_some_iff.1 Ia).1
    have aq:(es.toList.map MapEntry.born)[j]? =some e.born:=by simp [aH]
    have aX:(es.toList.map MapEntry.born)[v]? =some e.born:=by simp [Ia,aa]
    have:=(List.getElem?_inj (by simpa using Ef) he.nodup).1 (aq.trans aX.symm)
    rw [this];exact a6
 rcases run_next_at (P:=c.P) W ty r p clock clock (mK es vis) es clock M0 nt he.born (Nat.le_refl _) with⟨bO,ja⟩ | ⟨e,Ep,UQ,Aw,ja⟩
 ·
  have l3:yx kv.length vis none:=fun j aH=>by
   have yg:j<es.size:=by rw [he.size];exact aH
   false_or_by_contra;rename_i gf;have:es[j]∈ (leftOf es (mK es vis)).toList:=by
    unfold leftOf;simp only [Array.toList_filter,List.mem_filter];refine⟨by simp,?_⟩;cases aj:(mK es vis).contains es[j].born with
    | false=>rfl
    | true=>exact absurd (adf (by simp [yg]) aj) gf
   have dI:(leftOf es (mK es vis)).toList= []:=by
    apply List.eq_nil_of_length_eq_zero;simpa using bO
   rw [dI] at this;cases this
  refine ik rfl (R:=fun v W'=>v= .tuple #[.bool false]∧W'=W) (.lv (v:= .tuple #[.bool false]) ?_ ⟨rfl,rfl⟩) fun v W' ⟨a6,hw⟩=>?_
  ·simp only [execOp,lF,Sem.run_bind,ja,Result.andThen_ok];rfl
  subst a6 hw
  have aw:=k none l3
  have lV:L.set i ⟨some r,.is (mT p es clock (vis++Option.toList none))⟩=L:=by
   apply List.ext_getElem?;intro q;rw [List.getElem?_set];split
   ·rename_i hq;subst hq;rw [if_pos (List.getElem?_eq_some_iff.1 au).1,au];simp
   rfl
  rw [lV] at aw
  exact aw _ _ (bL.put s (by simpa using aR) ⟨_,rfl,rfl⟩)
 have TB:e∈es.toList∧ (mK es vis).contains e.born=false:=by
  unfold leftOf at Ep;simp only [Array.toList_filter,List.mem_filter,Bool.not_eq_true'] at Ep;exact Ep
 obtain⟨j,aH⟩:=List.mem_iff_getElem?.1 TB.1
 have yg:es[j]? =some e:=by simpa using aH
 have Ef:j<kv.length:=by rw [← he.size];exact(Array.getElem?_eq_some_iff.1 yg).1
 have l3:yx kv.length vis (some j):=⟨Ef,fun a6=>by
  have:(mK es vis).contains e.born=true:=by
   unfold mK;simp only [List.contains_toArray,List.contains_iff_mem,List.mem_filterMap];exact⟨j,a6,by rw [yg];rfl⟩
  rw [TB.2] at this;cases this⟩
 have Lq:(mK es vis).push e.born=mK es (vis++[j]):=by
  unfold mK;rw [List.filterMap_append];simp [yg]
 rw [Lq] at ja
 refine ik rfl (R:=fun v W'=>v= .tuple #[.bool true,e.key,e.val]∧W'=UQ.putObj r (mT p es clock (vis++[j]))) (.lv (v:= .tuple #[.bool true,e.key,e.val]) ?_ ⟨rfl,rfl⟩) fun v W' ⟨a6,hw⟩=>?_
 ·simp only [execOp,lF,Sem.run_bind,ja,Result.andThen_ok];rfl
 subst a6 hw
 have s1:bL c E L a UQ:=by
  rcases Aw with rfl | rfl
  ·exact s
  exact s.world (Fr.drew W)
 exact k (some j) l3 _ _ (bL.put (s1.ri au (cp':= .is (mT p es clock (vis++[j]))) (o':=mT p es clock (vis++[j])) rfl) (by simpa using aR) ⟨_,rfl,rfl⟩)
theorem aaS {b:Bool}(ar:ba c E L x (.Ug b)):b9 c E L ⟨d,.extract x 0,ty,pos,af,g⟩ (.of b):= .pure fun a W s=>by
 obtain⟨xs,aa,ae⟩:=ar a W s;refine⟨.bool b,?_,of_bool.2 rfl⟩;simp [execOp,Instr.extract,aa,ae]
theorem Za {r p:Nat}{α β:Type}[ak α][ak β][Inhabited α][Inhabited β]{kv:List (α×β)}{es:Array MapEntry}{clock:Nat}{vis:List Nat}{j:Option Nat}{q:Nat}(i:Nat)(ar:ba c E L x (.eq (.pointer (some ⟨r,0,none⟩))))(au:L[i]? =some ⟨some r,.is (mT p es clock (vis++j.toList))⟩)
 (hm:(⟨some p,eg.and (.map kv) (.map es clock)⟩:aQ)∈L) (he:Ix es clock kv.length) (aH:yx kv.length vis j) (hq:j=some q):
 b9 c E L ⟨d,.entry x,ty,pos,af,g⟩ (.dZ [.of (aF kv q).1,.of (aF kv q).2]):= .pure fun a W s=>by
 subst hq
 have lF:a.eval x=_:=ar a W s
 obtain⟨b0,nt,⟨mV,xi,rq,ae,aG,a0⟩,nu⟩:=s.own _ hm
 subst nu
 cases rq
 obtain⟨cR,M0,yf⟩:=s.own _ (List.mem_of_getElem? au)
 have yf:cR=mT p es clock (vis++[q]):=yf
 subst yf
 have HT:q<kv.length:=aH.1
 obtain⟨e,ao,a3,bx⟩:=ae.get (j:=q) (x:=aF kv q) (by rw [eO _ HT];exact List.getElem?_eq_getElem HT)
 have yg:es[q]? =some e:=by simpa using ao
 have Lq:mK es (vis++[q])=(mK es vis).push e.born:=by
  unfold mK;rw [List.filterMap_append];simp [yg]
 have M1:W.heap[r]? =some (.mapIter (some p) clock ((mK es vis).push e.born) clock):=by rw [← Lq];exact M0
 have ja:=run_entry_at (P:=c.P) W r p clock (mK es vis) es clock e M1 nt (List.mem_of_getElem? ao) he.nodup
 refine⟨.tuple #[e.key,e.val],?_,_,rfl,.cons a3 (.cons bx .nil)⟩
 simp only [execOp,lF,Sem.run_bind,ja,Result.andThen_ok]
 rfl
end
end Gv
