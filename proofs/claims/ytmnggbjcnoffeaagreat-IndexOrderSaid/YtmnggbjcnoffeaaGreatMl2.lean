/-
  The library of the decompiler, as far as it is needed here. Conditions: none.
-/
import Derived.Maps.RangeRun
import Derived.Test.YtmnggbjcnoffeaaGreatMl1
set_option linter.unusedVariables false
set_option linter.unusedSimpArgs false
namespace Gv
open Go
def E8 (P:Program) (u:Value) {α σ ε γ:Type} (τ:α→I) (Ls:σ→γ→List aM) (Lx:ε→γ→List aM) (step:α→σ→ax (σ ⊕ ε)) (ab6:List Nat→World→Prop):Prop:=
 ∃ l,u= .func (.yield l) #[] #[]∧ ∀ x s R,step x s R→ ∀ g A W v,ab6 (aQ (Ls s g) ++ A) W→yy A W (Ls s g)→ (τ x).holds (aQ (Ls s g) ++ A) W v→
   YieldAt Fence.wide 8 P l #[v] W (fun e W'=>(∃ b6,R (.inl b6)∧j9 (aQ (Ls s g)) A W (fun _:γ=>I.of true) (fun g=>Ls b6 g) e W')∨ ∃ q,R (.inr q)∧j9 (aQ (Ls s g)) A W (fun _:γ=>I.of false) (fun g=>Lx q g) e W')
structure AT (P:Program) (f:FuncId) (τs:List I) {bU:Type} [eY bU] {α:Type} (τ:α→I) (run:∀ {σ ε:Type},(σ→aS bU)→ (α→σ→ax (σ ⊕ ε))→σ→ax (σ ⊕ ε)):Prop where
 go:∀ {σ ε γ:Type} (Ls:σ→γ→List aM) (Lx:ε→γ→List aM) (hq:σ→aS bU) (jY:σ→γ→List aM),(∀ s g,Ls s g=jY s g ++ aV (hq s))→ ∀ (step:α→σ→ax (σ ⊕ ε)) (cc:σ) (g0:γ) (R:σ ⊕ ε→Prop),run hq step cc R→
  ∀ (A:List Nat) (W:World) (u:Value) (vs:List Value),yy A W (Ls cc g0)→gB (aQ (Ls cc g0) ++ A) W τs vs→
    E8 P u τ Ls Lx step (fun c5 W'=>Ext (aQ (Ls cc g0) ++ A) W c5 W')→
    Calls P f (u :: vs).toArray W (j9 (aQ (Ls cc g0)) A W (δ:= {r // R r} × γ) (fun _=> .ed []) (fun d=>Lr Ls Lx d.1.1 d.2))
theorem AT.of {P:Program} {f:FuncId} {fn:Func} {code:Code} {n:Nat} {τs:List I} {bU:Type} [eY bU] {α:Type} {τ:α→I} {run:∀ {σ ε:Type},(σ→aS bU)→ (α→σ→ax (σ ⊕ ε))→σ→ax (σ ⊕ ε)}
 (ba:P.funcs[f]? =some fn) (hb:fn.body=some code) (aO:fn.ntmps=n) (hlen:Nat.ble (τs.length + 1) n=true)
 (h:∀ {σ ε γ:Type} (Ls:σ→γ→List aM) (Lx:ε→γ→List aM) (hq:σ→aS bU) (jY:σ→γ→List aM),(∀ s g,Ls s g=jY s g ++ aV (hq s))→ ∀ (step:α→σ→ax (σ ⊕ ε)) (cc:σ) (g0:γ) (R:σ ⊕ ε→Prop),run hq step cc R→
  ∀ W A u,E8 P u τ Ls Lx step (fun c5 W'=>Ext (aQ (Ls cc g0) ++ A) W c5 W')→
    ag ⟨P,n,W,aQ (Ls cc g0),A,none,[]⟩ (bodyPost P fn (j9 (aQ (Ls cc g0)) A W (δ:= {r // R r} × γ) (fun _=> .ed []) (fun d=>Lr Ls Lx d.1.1 d.2))) code (params 0 (.eq u :: τs)) (Ls cc g0)):AT P f τs τ run:=by
 refine⟨?_⟩
 intro σ ε γ Ls Lx hq jY ns step cc g0 R aR A W u vs ao a0 a5
 refine calls_of_wp ba hb (wpIn_wide.1 (h Ls Lx hq jY ns step cc g0 R aR W A u a5 _ _ ?_))
 have mW:gB (aQ (Ls cc g0) ++ A) W (.eq u :: τs) (u :: vs):= .cons rfl a0
 have kh:=mW.length
 have hle:τs.length + 1≤n:=Nat.le_of_ble_eq_true hlen
 exact
 {defers:=rfl
  size:=by simp at kh; simp [aO,kh]; omega
  env:=fun t τ e1=>by
   obtain⟨_,v,ad,aC⟩:=uS mW 0 t τ e1
   refine⟨v,?_,aC⟩
   have b5:t < (u :: vs).length:=(List.getElem?_eq_some_iff.1 ad).1
   rw [Array.getElem?_append_left (by simpa using b5)]
   simpa using ad
  dG:= .refl _ _
  own:=ao.ok
  nodup:=ao.nodup
  lt:=ao.lt
  fR:=fun k ay _=>ay
  eW:=ao.eW }
section
variable {c:dd} {E:List (Nat × I)} {L:List aM} {ops:Array Oper} {Q:Exit→Act→World→Prop}
variable {d:Option Tmp} {ty:TypeId} {pos:String} {af:Array Edge} {g:Option (Nat × Bool)} {x y:Operand} {t t2:TypeId}
theorem On {bU:Type} [eY bU] {σ γ:Type} {Ls jY:σ→γ→List aM} {hq:σ→aS bU} {s:σ} {g:γ} {p:Nat} {k:bU} {e:aM} (n:Nat) (al:L.drop n=Ls s g) (ns:∀ s g,Ls s g=jY s g ++ aV (hq s)) (h:pat (hq s) p=some k) (ay:eY.hB p k= [e]):e∈L:=by
 obtain⟨R,J,_⟩:=uX h
 rw [ay] at J
 have:e∈L.drop n:=by rw [al,ns]; exact List.mem_append.2 (.inr (J.mem_iff.2 (by simp)))
 exact List.mem_of_mem_drop this
theorem ah.V7 {rest:List Oper} {a7 lf:Nat} {ats:Array TypeId} {u:Value} {α σ ε γ:Type} {τ:α→I} {Ls:σ→γ→List aM} {Lx:ε→γ→List aM} {step:α→σ→ax (σ ⊕ ε)} {Lin:List aM} {x:Operand} {v:α} {s:σ} {gg:γ} {R:σ ⊕ ε→Prop}
 (ak:c.rd=none) (a5:E8 c.P u τ Ls Lx step (fun c5 W'=>Ext (c.X ++ c.bT) c.iN c5 W')) (ba:look E lf=some (.eq u)) (an:a9 c E (Lin ++ Ls s gg) x (τ v)) (aR:step v s R) (aO:Nat.blt a7 c.n=true)
 (a8:∀ b6,R (.inl b6)→ ∀ eF,ah c ops Q rest ((a7,.of true) :: E) (Lin ++ Ls b6 eF)) (bY:∀ q,R (.inr q)→ ∀ eF,ah c ops Q rest ((a7,.of false) :: E) (Lin ++ Lx q eF)):
 ah c ops Q (⟨some a7,.call ⟨.value (.tmp lf),#[x],ats⟩,ty,pos,af,none⟩ :: rest) E (Lin ++ Ls s gg):=fun a W st=>by
 obtain⟨l,rfl,a5⟩:=a5
 obtain⟨KA,J,ad⟩:=st.env lf _ ba
 have hu:KA= .func (.yield l) #[] #[]:=ad
 subst hu
 have nw:bx c E (Ls s gg ++ Lin) a W:=st.perm List.perm_append_comm
 have a0:=an a W st
 have mW:(τ v).holds (aQ (Ls s gg) ++ (aQ Lin ++ c.bT)) W (a.eval x):=(τ v).mono (.drop fun k hm=>by
  rw [eS]
  simp only [List.mem_append] at hm ⊢
  rcases hm with hm | hm | hm
  ·exact .inl (.inr hm)
  ·exact .inl (.inl hm)
  ·exact .inr hm) a0
 obtain⟨fn,tmps,assign,body,h5,jr⟩:=a5 v s R aR gg (aQ Lin ++ c.bT) W (a.eval x) (nw.O5.trans AN) nw.E7 mW
 have IK:(execOp a.eval ⟨some a7,.call ⟨.value (.tmp lf),#[x],ats⟩,ty,pos,af,none⟩).run c.P W= .ok (.round l fn tmps assign body) W:=by
  rw [← h5]
  simp [execOp,resolve,Deferred.ofValue,Act.eval,J,invoke,Sem.run_bind,Sem.run_pure,Result.andThen]
 refine wpListIn_plain rfl fun K wW=> ?_
 refine⟨fun _ _=>trivial,?_⟩
 rw [Oper.semAt_eq _ _ _ (fun _ h=>by cases h),IK,Oper.uponIn_round]
 refine⟨fun h=>by simp at h,?_⟩
 have JK:RoundIn c.F (9 - 1) c.P l fn tmps assign body W _:=jr
 refine JK.mono fun e W' he=> ?_
 rcases he with⟨b6,hs,w,eF,rfl,qi,aC,aU,a1,bk⟩ | ⟨q,hs,w,eF,rfl,qi,aC,aU,a1,bk⟩
 ·obtain rfl:=of_bool.1 bk
  refine wW _ _ (a8 b6 hs eF _ _ ?_)
  exact(((nw.after qi aC aU a1).perm List.perm_append_comm).put (by simpa using aO) (of_bool.2 rfl))
 ·obtain rfl:=of_bool.1 bk
  refine wW _ _ (bY q hs eF _ _ ?_)
  exact(((nw.after qi aC aU a1).perm List.perm_append_comm).put (by simpa using aO) (of_bool.2 rfl))
def Qr {σ ε γ:Type} (c:dd) (e4:ε→Code) (l D:Nat) (rec:Loop) (Ls:σ→γ→List aM) (Lx:ε→γ→List aM) (R:σ ⊕ ε→Prop):Exit→Act→World→Prop:=fun x a W=>
 (∃ b6,R (.inl b6)∧x= .normal∧ ∃ g,bx c [] (⟨some l,.is (.loop rec)⟩ :: ⟨some D,.dj⟩ :: Ls b6 g) a W)∨
 ∃ q,R (.inr q)∧vo (e4 q)=true∧x=A2 (e4 q)∧ ∃ g,bx c [] (⟨some l,.is (.loop rec)⟩ :: ⟨some D,.dj⟩ :: Lx q g) a W
theorem ae.Zr {σ ε γ:Type} {e4:ε→Code} {l D:Nat} {rec:Loop} {Ls:σ→γ→List aM} {Lx:ε→γ→List aM} {R:σ ⊕ ε→Prop} {b6:σ} (jr:R (.inl b6)) (g:γ) (n:Nat) (al:L.drop n=⟨some l,.is (.loop rec)⟩ :: ⟨some D,.dj⟩ :: Ls b6 g):
 ae c (Qr c e4 l D rec Ls Lx R) .normal E L:=fun a W s=> .inl ⟨b6,jr,rfl,g,by rw [← al]; exact(s.oF n).less (fun t τ h=>by simp [look] at h)⟩
theorem TS {gt p:Nat} {assign body:Code} {f:FuncId} {mQ:List I} {bU:Type} [eY bU] {α σ ε γ ρ:Type} {τ:α→I} {run:∀ {σ ε:Type},(σ→aS bU)→ (α→σ→ax (σ ⊕ ε))→σ→ax (σ ⊕ ε)}
 {Ls:σ→γ→List aM} {Lx:ε→γ→List aM} {hq:σ→aS bU} {step:α→σ→ax (σ ⊕ ε)} {cc:σ} {g0:γ} {k:σ ⊕ ε→ax ρ} {nA:ρ→Prop} (jY:σ→γ→List aM) (e4:ε→Code)
 (ak:c.rd=none) (ej:bH c.P f) (bs:look E gt=some (.gF f mQ)) (la:AT c.P f mQ τ run) (aR:ax.bind (run hq step cc) k nA) (ns:∀ s g,Ls s g=jY s g ++ aV (hq s)) (al:L=Ls cc g0) (hp:Nat.blt p c.n=true)
 (pb:∀ x s R,step x s R→ ∀ g (k3:World) (k8 k4:List Nat) (l D:Nat) (rec:Loop),rec.state= .ready→
  ag ⟨c.P,c.n,k3,k8,k4,some l,[]⟩ (Exit.then (CM ⟨c.P,c.n,k3,k8,k4,some l,[]⟩ l body (Qr ⟨c.P,c.n,k3,k8,k4,some l,[]⟩ e4 l D { rec with state:= .busy } Ls Lx R)) (fun _ _ _=>False)) assign ((p,τ x) :: E) (⟨some l,.is (.loop rec)⟩ :: ⟨some D,.dj⟩ :: Ls s g))
 (mL:∀ b6,k (.inl b6) nA→ ∀ g D,ae { c with ds:=D :: c.ds } Q .normal E (⟨some D,.dj⟩ :: Ls b6 g))
 (vM:∀ q,k (.inr q) nA→ ∀ g D,ag { c with ds:=D :: c.ds } Q (e4 q) E (⟨some D,.dj⟩ :: Lx q g)):
 ag c Q (.rangeFunc (.tmp gt) #[p] assign body) E L:=fun a W st=>by
 subst al
 refine wpIn_rangeFunc fun fn aaX=> ?_
 show ∃ l mark Z4 d Yk y7 args Z5,(Instr.enterLoop fn a.tmps #[p] assign body c.rd).run c.P W=_∧_
 rw [ak]
 obtain⟨rec,kB⟩:∃ rec:Loop,rec= { state:= .ready,pending:=none,fn,tmps:=a.tmps,params:= #[p],assign,body,defers:=W.heap.size } :=⟨_,rfl⟩
 obtain⟨v,Co,h0,wI,aaY⟩:=st.env gt _ bs
 obtain⟨hi,Cp⟩:∃ hi,(W.alloc (.deferred (some []))).alloc (.loop rec)=hi:=⟨_,rfl⟩
 have s1:=(st.alloc (o:= .deferred (some [])) (cp:= .dj) rfl).alloc (o:= .loop rec) (cp:= .is (.loop rec)) rfl
 rw [Cp,World.size_alloc] at s1
 obtain⟨D,lb⟩:∃ D,D=W.heap.size:=⟨_,rfl⟩
 obtain⟨l,ao⟩:∃ l,l=W.heap.size + 1:=⟨_,rfl⟩
 have Cq:=run_enterLoop_outer (P:=c.P) (w:=W) fn a.tmps #[p] assign body
 rw [← kB,Cp,← ao,← lb] at Cq
 rw [← ao,← lb] at s1
 obtain⟨lE,qj⟩:∃ lE:σ→γ→List aM,lE=fun s g=>⟨some l,.is (.loop rec)⟩ :: ⟨some D,.dj⟩ :: Ls s g:=⟨_,rfl⟩
 obtain⟨mX,Cr⟩:∃ mX:ε→γ→List aM,mX=fun q g=>⟨some l,.is (.loop { rec with state:= .done,pending:=some (e4 q) })⟩ :: ⟨some D,.dj⟩ :: Lx q g:=⟨_,rfl⟩
 have s2:bx c E (lE cc g0) a hi:=by rw [qj]; exact s1
 have JN:gB (aQ (lE cc g0) ++ c.bT) hi mQ h0:=by
  have J:(I.gF f mQ).holds (aQ (lE cc g0) ++ c.bT) hi v:=by
   obtain⟨wZ,J,ad⟩:=s2.env gt _ bs
   rw [Co] at J
   cases J
   exact ad
  obtain⟨JO,av,aX⟩:=J
  rw [wI] at av
  have:JO=h0:=by injection av with _ _ av; injection av with av; exact av.symm
  rw [← this]; exact aX
 have Cs:bx c E ((lE cc g0) ++ []) a hi:=by rw [List.append_nil]; exact s2
 have Bi:=Cs.E7
 simp only [aQ,List.nil_append] at Bi
 have Jd:E8 c.P (.func (.yield l) #[] #[]) τ lE mX step (fun c5 W'=>Ext (aQ (lE cc g0) ++ c.bT) hi c5 W'):=by
  refine⟨l,rfl,fun x s F1 hs g A oi v2 hg hle a0=> ?_⟩
  have BK:=hle
  rw [qj] at BK
  obtain⟨o,dh,eZ⟩:=BK.ok ⟨some l,.is (.loop rec)⟩ (by simp)
  have p1:o= .loop rec:=eZ
  subst p1
  have a5:=run_yield (P:=c.P) (args:= #[v2]) dh (by rw [kB]; rfl)
  refine⟨_,_,_,_,a5,roundIn_of_wpIn trivial ?_⟩
  have av:rec.assign=assign:=by rw [kB]
  have aX:rec.body=body:=by rw [kB]
  have c4:rec.params= #[p]:=by rw [kB]
  have gT:rec.tmps=a.tmps:=by rw [kB]
  rw [av,aX,c4,gT]
  refine DQ (n:=9) rfl ?_
  have IL:((#[p]:Array Tmp).zip #[v2]).foldl (fun tmps (t,a)=>tmps.setIfInBounds t a) a.tmps=a.tmps.setIfInBounds p v2:=by simp
  rw [IL]
  subst qj Cr
  refine wpIn_mono ((pb x s F1 hs g oi (aQ (⟨some l,.is (.loop rec)⟩ :: ⟨some D,.dj⟩ :: Ls s g)) A l D rec (by rw [kB])) { tmps:=a.tmps.setIfInBounds p v2,defers:= [] } oi ?_) ?_
  ·have iV:p < c.n:=by simpa using hp
   exact
   {defers:=rfl
    size:=by simp [s2.size]
    env:=fun t mU e1=>by
     simp only [look] at e1
     by_cases e:Nat.beq p t=true
     ·rw [e] at e1
      simp only [cond_true,Option.some.injEq] at e1
      subst e1
      have:=eh.1 e
      subst this
      exact⟨v2,by simp [s2.size,iV],a0⟩
     ·simp only [Bool.not_eq_true] at e
      rw [e] at e1
      simp only [cond_false] at e1
      obtain⟨u,J,ad⟩:=s2.env t mU e1
      have c6:p≠t:=fun h=>by rw [eh.2 h] at e; cases e
      exact⟨u,by rw [Array.getElem?_setIfInBounds_ne c6]; exact J,mU.mono hg ad⟩
    dG:= .refl _ _
    own:=hle.ok
    nodup:=hle.nodup
    lt:=hle.lt
    fR:=fun k ay _=>ay
    eW:=hle.eW }
  ·intro e gJ ab3 hq
   cases e with
   | normal=>
     obtain⟨KB,JP,hb⟩:=hq
     refine⟨KB,JP,DQ (n:=9) rfl (wpIn_mono hb ?_)⟩
     intro e pC CN FC
     have fin:∀ (jump:Option Code) {Lr:List aM},bx ⟨c.P,c.n,oi,aQ (⟨some l,.is (.loop rec)⟩ :: ⟨some D,.dj⟩ :: Ls s g),A,some l,[]⟩ [] (⟨some l,.is (.loop { rec with state:= .busy })⟩ :: ⟨some D,.dj⟩ :: Lr) pC CN→
      ∃ oV,(Instr.endRound l jump).run c.P CN= .ok (.bool jump.isNone) oV∧bx ⟨c.P,c.n,oi,aQ (⟨some l,.is (.loop rec)⟩ :: ⟨some D,.dj⟩ :: Ls s g),A,some l,[]⟩ [] (⟨some l,.is (.loop { rec with state:=if jump.isNone then .ready else .done,pending:=jump })⟩ :: ⟨some D,.dj⟩ :: Lr) pC oV:=fun jump Lr oW=>by
      obtain⟨o,J,ad⟩:=oW.own ⟨some l,.is (.loop { rec with state:= .busy })⟩ (by simp)
      have kj:o= .loop { rec with state:= .busy } :=ad
      subst kj
      exact⟨_,run_endRound jump J,oW.p0 (i:=0) rfl rfl⟩
     rcases FC with⟨b6,e0,rfl,eF,oW⟩ | ⟨q,e0,aH,rfl,eF,oW⟩
     ·obtain⟨oV,bk,sR⟩:=fin none oW
      refine⟨_,oV,bk,.inl ⟨b6,e0,?_⟩⟩
      have JQ:({ rec with state:=if (none:Option Code).isNone then .ready else .done,pending:=none } :Loop)=rec:=by rw [kB]; rfl
      rw [JQ] at sR
      exact sR.ends (ρ:=fun _:γ=>I.of true) (Lo:=fun g=>⟨some l,.is (.loop rec)⟩ :: ⟨some D,.dj⟩ :: Ls b6 g) eF (List.Sublist.refl _) (of_bool.2 rfl)
     ·obtain⟨oV,bk,sR⟩:=fin (some (e4 q)) oW
      have key:j9 (aQ (⟨some l,.is (.loop rec)⟩ :: ⟨some D,.dj⟩ :: Ls s g)) A oi (fun _:γ=>I.of false) (fun g=>⟨some l,.is (.loop { rec with state:= .done,pending:=some (e4 q) })⟩ :: ⟨some D,.dj⟩ :: Lx q g) (.returned (.bool false)) oV:=
       sR.ends (ρ:=fun _:γ=>I.of false) (Lo:=fun g=>⟨some l,.is (.loop { rec with state:= .done,pending:=some (e4 q) })⟩ :: ⟨some D,.dj⟩ :: Lx q g) eF (List.Sublist.refl _) (of_bool.2 rfl)
      exact Ll aH bk (.inr ⟨q,e0,key⟩)
   | exit id=>exact hq.elim
   | goto t=>exact hq.elim
   | ret=>exact hq.elim
   | panic Kr=>exact hq.elim
   | outgrown=>exact hq.elim
 have Bj:=la.go lE mX hq (fun s g=>⟨some l,.is (.loop rec)⟩ :: ⟨some D,.dj⟩ :: jY s g) (fun s g=>by rw [qj]; simp only [ns,List.cons_append]) step cc g0 (fun r=>k r nA) aR c.bT hi (.func (.yield l) #[] #[]) h0 Bi JN Jd
 have mv:a.eval (.tmp gt)= .func (.func f) #[] h0.toArray:=by simp [Act.eval,Co,wI]
 refine⟨l,[E0 D],hi,{ target:= .fn (.func f) h0.toArray,args:= #[.func (.yield l) #[] #[]] },hi,f,#[.func (.yield l) #[] #[]] ++ h0.toArray,hi,Cq,?_,fun _ _=>trivial,?_,fun h=>by simp at h,?_⟩
 ·simp only [resolve,mv]
  simp [go_sem]
 ·simp [invoke,go_sem,ej.run]
 ·refine CallsIn.HB ?_
  have IM:(#[.func (.yield l) #[] #[]] ++ h0.toArray:Array Value)=(.func (.yield l) #[] #[] :: h0).toArray:=by simp
  rw [IM]
  refine Bj.mono fun e KC ⟨ab4,⟨⟨r,Qs⟩,eF⟩,he,ba,aC,aU,a1,bk⟩=> ?_
  subst he
  have oX:=Cs.after ba aC (by simpa [aQ] using aU) (by simpa [aQ] using a1)
  rw [List.append_nil] at oX
  cases r with
  | inl b6=>
    simp only [Lr] at oX
    subst qj
    obtain⟨o,dh,eZ⟩:=oX.own ⟨some l,.is (.loop rec)⟩ (by simp)
    have p1:o= .loop rec:=eZ
    subst p1
    have n4:=run_endLoop (P:=c.P) dh (by rw [kB]; simp)
    have iV:rec.pending=none:=by rw [kB]
    rw [iV] at n4
    refine⟨none,_,n4,?_⟩
    have sS:=(oX.p0 (i:=0) (cp':= .is (.loop { rec with state:= .exhausted })) (o':= .loop { rec with state:= .exhausted }) rfl rfl).oF 1
    rw [iV] at sS
    exact mL b6 Qs eF D _ _ (sS.mark D)
  | inr q=>
    simp only [Lr] at oX
    subst Cr
    obtain⟨o,dh,eZ⟩:=oX.own ⟨some l,.is (.loop { rec with state:= .done,pending:=some (e4 q) })⟩ (by simp)
    have p1:o= .loop { rec with state:= .done,pending:=some (e4 q) } :=eZ
    subst p1
    have n4:=run_endLoop (P:=c.P) dh (by simp)
    refine⟨some (e4 q),_,n4,?_⟩
    have sS:=(oX.p0 (i:=0) (cp':= .is (.loop { rec with state:= .exhausted,pending:=some (e4 q) })) (o':= .loop { rec with state:= .exhausted,pending:=some (e4 q) }) rfl rfl).oF 1
    exact vM q Qs eF D _ _ (sS.mark D)
end
def ax.any (α:Type):ax α:=fun Q=> ∀ x,Q x
theorem ax.any_bind {α β:Type} {k:α→ax β} {R:β→Prop} (h:ax.bind (ax.any α) k R) (x:α):k x R:=h x
theorem gB.append {A:List Nat} {W:World} :∀ {τs σs:List I} {vs us:List Value},gB A W τs vs→gB A W σs us→gB A W (τs ++ σs) (vs ++ us)
 | _,_,_,_,.nil,h=>h
 | _,_,_,_,.cons h r,ad=> .cons h (r.append ad)
section
variable {c:dd} {E:List (Nat × I)} {L:List aM} {ops:Array Oper} {Q:Exit→Act→World→Prop}
variable {d:Option Tmp} {ty:TypeId} {pos:String} {af:Array Edge} {g:Option (Nat × Bool)} {x y:Operand} {t t2:TypeId}
def eV (c:dd) (E:List (Nat × I)) (L:List aM) (o:Oper) {δ:Type} (ρ:δ→I) (L':δ→List aM):Prop:=
 ∀ a W,bx c E L a W→gD c.P o a W fun v W'=> ∃ q,bx c E (L' q) a W'∧ (ρ q).holds (aQ (L' q) ++ c.bT) W' v
theorem ah.rm {o:Oper} {rest:List Oper} {a7:Nat} {δ:Type} {ρ:δ→I} {L':δ→List aM} (h:eV c E L o ρ L') (bs:o.guard=none) (hd:o.dst=some a7) (aO:Nat.blt a7 c.n=true)
 (k:∀ q,ah c ops Q rest ((a7,ρ q) :: E) (L' q)):ah c ops Q (o :: rest) E L:=fun a W s=>
 hy bs (h a W s) fun v W' ⟨q,f,a0⟩=>by
  rw [hd]
  exact k q _ _ (f.put (by simpa using aO) a0)
theorem ah.QV {o:Oper} {rest:List Oper} {a7 j gs:Nat} {b want:Bool} {δ β:Type} {σ:β→I} {L2:β→List aM} {K:β→Prop} {val:δ→β} {ρ:δ→I} {L':δ→List aM} (bs:o.guard=some (j,want)) (aH:(ops[j]?).bind (·.dst)=some gs)
 (ao:look E gs=some (.of b)) (hd:o.dst=some a7) (aO:Nat.blt a7 c.n=true) (h:b=want→eV c E L o ρ L')
 (J:b=want→ ∀ q,K (val q)∧ρ q=σ (val q)∧L' q=L2 (val q)) (ad: ¬ b=want→ ∃ y,K y∧L=L2 y)
 (k:∀ y,K y→ah c ops Q rest ((a7,.cond (b=want) (σ y)) :: E) (L2 y)):ah c ops Q (o :: rest) E L:=fun a W s=>by
 have a5:=xL aH ao s
 unfold dd.pq wpListIn
 by_cases hb:b=want
 ·rw [if_pos (by simp [Region.wanted,bs,a5,hb])]
  refine((h hb a W s).wpIn fun v W' ⟨q,f,a0⟩=> ?_)
  obtain⟨av,aX,c4⟩:=J hb q
  rw [aX] at a0
  rw [c4] at f a0
  rw [hd]
  exact k _ av _ _ (f.put (by simpa using aO) ⟨fun _=>a0,fun h=>absurd hb h⟩)
 ·rw [if_neg (by simp [Region.wanted,bs,a5,hb])]
  rw [hd]
  obtain⟨y,av,aX⟩:=ad hb
  rw [aX] at s
  exact⟨fun _ _=>trivial,k y av _ _ (s.put (by simpa using aO) ⟨fun h=>absurd h hb,fun _=>rfl⟩)⟩
theorem eV.perm {g8:List aM} {o:Oper} {δ:Type} {ρ:δ→I} {L' L2:δ→List aM} (p:L.Perm g8) (QW:∀ q,(L' q).Perm (L2 q)) (h:eV c E g8 o ρ L'):eV c E L o ρ L2:=fun a W s=>by
 have:=h a W (s.perm p)
 unfold gD at this ⊢
 exact Oper.wp_mono (fun gw W' ⟨v,J,q,ad,aC⟩=>⟨v,J,q,ad.perm (QW q),(ρ q).mono (m6 (QW q)) aC⟩) this
theorem eV.to {o:Oper} {δ:Type} {ρ:δ→I} {L' L2:δ→List aM} (e:∀ q,L' q=L2 q) (h:eV c E L o ρ L'):eV c E L o ρ L2:=by
 have:L'=L2:=funext e
 subst this; exact h
theorem eV.Z7 {o:Oper} {δ:Type} {τ:I} (h:eV c E L o (fun _:δ=>τ) (fun _=>L)):fG c E L o τ:=fun a W s=>by
 have:=h a W s
 unfold gD at this ⊢
 exact Oper.wp_mono (fun gw W' ⟨v,J,q,ad,aC⟩=>⟨v,J,ad,aC⟩) this
theorem eV.call {o:Oper} {f:FuncId} {as:Act→List Value} {τs:List I} {Lin Lr:List aM} {δ:Type} {ρ:δ→I} {Lo:δ→List aM} (h:bM c.P f τs Lin ρ Lo)
 (ak:∀ a W,bx c E (Lin ++ Lr) a W→ (execOp a.eval o).run c.P W= .ok (.enter f (as a).toArray) W∧gB (aQ (Lin ++ Lr) ++ c.bT) W τs (as a)):eV c E (Lin ++ Lr) o ρ (fun q=>Lo q ++ Lr):=fun a W s=>by
 obtain⟨h5,an⟩:=ak a W s
 have ml:=s.nodup
 rw [eS] at ml
 obtain⟨nv,oO,qd⟩:=List.nodup_append.1 ml
 have kd:Ext (aQ (Lin ++ Lr) ++ c.bT) W (aQ Lin ++ (aQ Lr ++ c.bT)) W:=AN
 have fY:∀ k∈aQ Lr ++ c.bT,k < W.heap.size∧k ∉ aQ Lin:=fun k hm=>by
  rcases List.mem_append.1 hm with hm | hm
  ·exact⟨s.lt k (by rw [eS]; exact List.mem_append.2 (.inr hm)),fun h=>qd k h k hm rfl⟩
  ·obtain⟨J,ad⟩:=s.eW k hm
   exact⟨J,fun h=>ad (by rw [eS]; exact List.mem_append.2 (.inl h))⟩
 have b5:∀ k∈aQ Lin,k < W.heap.size:=fun k hm=>s.lt k (by rw [eS]; exact List.mem_append.2 (.inl hm))
 refine .u4 (f:=f) (args:=(as a).toArray) (W':=W) h5 ?_
 refine(h (aQ Lr ++ c.bT) W (as a) fY nv b5 (fun e he=>aM.tj (s.own e (List.mem_append.2 (.inl he))) kd fun _ _=>rfl) (an.mono kd)).mono fun e W' ⟨v,a7,he,ba,J,ad,aC,aU⟩=> ?_
 exact⟨v,he,a7,s.after ba J ad aC,(ρ a7).mono Hl aU⟩
theorem eV.O8 {o:Oper} {bU:Type} [eY bU] {hp:aS bU} {Lin Lr:List aM} {δ:Type} {ρ:δ→I} {Lo:δ→List aM} {hq:δ→aS bU} (n m:Nat) (al:L.drop n=aV hp) (J:(L.take n).take m=Lin) (ad:(L.take n).drop m=Lr)
 (h:eV c E ((Lin ++ aV hp) ++ Lr) o ρ (fun q=>(Lo q ++ aV (hq q)) ++ Lr)):eV c E L o ρ (fun q=>(Lo q ++ Lr) ++ aV (hq q)):=by
 have e:L=(Lin ++ Lr) ++ aV hp:=by rw [← J,← ad,List.take_append_drop,← al,List.take_append_drop]
 clear al J ad
 subst e
 exact h.perm nK fun q=>nK
theorem eV.iR {f:FuncId} {xs:List Operand} {ats:Array TypeId} {bU:Type} [eY bU] {hp:aS bU} {τs:List I} {Lin Lr:List aM} {δ:Type} {ρ:δ→I} {Lo:δ→List aM} {hq:δ→aS bU} (n m:Nat) (al:L.drop n=aV hp) (ej:bH c.P f) (h:bM c.P f τs (Lin ++ aV hp) ρ (fun d=>Lo d ++ aV (hq d)))
 (J:(L.take n).take m=Lin) (ad:(L.take n).drop m=Lr) (an:hJ c E L xs τs):eV c E L ⟨d,.call ⟨.value (.func f),xs.toArray,ats⟩,ty,pos,af,g⟩ ρ (fun q=>(Lo q ++ Lr) ++ aV (hq q)):=by
 have e:L=(Lin ++ Lr) ++ aV hp:=by rw [← J,← ad,List.take_append_drop,← al,List.take_append_drop]
 refine eV.O8 n m al J ad (eV.call (as:=fun a=>xs.map a.eval) h fun a W s=>⟨by simp [execOp,resolve,Deferred.ofValue,Act.eval,invoke,ej.run],?_⟩)
 subst e
 exact(an.holds a W (s.perm nK.symm)).mono (m6 nK)
theorem eV.lP {f:FuncId} {xs:List Operand} {ats:Array TypeId} {τs:List I} {Lin Lr:List aM} {δ:Type} {ρ:δ→I} {Lo:δ→List aM} (m:Nat) (ej:bH c.P f) (h:bM c.P f τs Lin ρ Lo)
 (J:L.take m=Lin) (ad:L.drop m=Lr) (an:hJ c E L xs τs):eV c E L ⟨d,.call ⟨.value (.func f),xs.toArray,ats⟩,ty,pos,af,g⟩ ρ (fun q=>Lo q ++ Lr):=by
 have e:L=Lin ++ Lr:=by rw [← J,← ad,List.take_append_drop]
 clear J ad
 subst e
 exact eV.call (as:=fun a=>xs.map a.eval) h fun a W s=>⟨by simp [execOp,resolve,Deferred.ofValue,Act.eval,invoke,ej.run],an.holds a W s⟩
theorem a9.VG {oh:Operand} {f:FuncId} {tT τs:List I} {xs:List Operand} {ats:Array TypeId} (ej:bH c.P f) (ba:a9 c E L oh (.gF f tT)) (an:hJ c E L xs τs) {a:Act} {W:World} (s:bx c E L a W):
 ∃ h0:List Value,(execOp a.eval ⟨d,.call ⟨.value oh,xs.toArray,ats⟩,ty,pos,af,g⟩).run c.P W= .ok (.enter f (xs.map a.eval ++ h0).toArray) W∧gB (aQ L ++ c.bT) W (τs ++ tT) (xs.map a.eval ++ h0):=by
 obtain⟨h0,J,ad⟩:=ba a W s
 exact⟨h0,by simp [execOp,resolve,Deferred.ofValue,J,invoke,ej.run],(an.holds a W s).append ad⟩
theorem eV.gF {oh:Operand} {f:FuncId} {tT τs:List I} {xs:List Operand} {ats:Array TypeId} {Lin Lr:List aM} {δ:Type} {ρ:δ→I} {Lo:δ→List aM} (m:Nat) (ej:bH c.P f) (ba:a9 c E L oh (.gF f tT)) (h:bM c.P f (τs ++ tT) Lin ρ Lo)
 (J:L.take m=Lin) (ad:L.drop m=Lr) (an:hJ c E L xs τs):eV c E L ⟨d,.call ⟨.value oh,xs.toArray,ats⟩,ty,pos,af,g⟩ ρ (fun q=>Lo q ++ Lr):=by
 have e:L=Lin ++ Lr:=by rw [← J,← ad,List.take_append_drop]
 clear J ad
 subst e
 intro a W s
 obtain⟨h0,aC,aU⟩:=a9.VG (d:=d) (ty:=ty) (pos:=pos) (af:=af) (g:=g) (ats:=ats) ej ba an s
 have ml:=s.nodup
 rw [eS] at ml
 obtain⟨nv,oO,qd⟩:=List.nodup_append.1 ml
 have kd:Ext (aQ (Lin ++ Lr) ++ c.bT) W (aQ Lin ++ (aQ Lr ++ c.bT)) W:=AN
 have fY:∀ k∈aQ Lr ++ c.bT,k < W.heap.size∧k ∉ aQ Lin:=fun k hm=>by
  rcases List.mem_append.1 hm with hm | hm
  ·exact⟨s.lt k (by rw [eS]; exact List.mem_append.2 (.inr hm)),fun h=>qd k h k hm rfl⟩
  ·obtain⟨J,ad⟩:=s.eW k hm
   exact⟨J,fun h=>ad (by rw [eS]; exact List.mem_append.2 (.inl h))⟩
 have b5:∀ k∈aQ Lin,k < W.heap.size:=fun k hm=>s.lt k (by rw [eS]; exact List.mem_append.2 (.inl hm))
 refine .u4 (f:=f) (W':=W) aC ?_
 refine(h (aQ Lr ++ c.bT) W _ fY nv b5 (fun e he=>aM.tj (s.own e (List.mem_append.2 (.inl he))) kd fun _ _=>rfl) (aU.mono kd)).mono fun e W' ⟨v,a7,he,ba,J,ad,aC,aU⟩=> ?_
 exact⟨v,he,a7,s.after ba J ad aC,(ρ a7).mono Hl aU⟩
theorem hJ.perm {g8:List aM} (p:L.Perm g8):∀ {xs:List Operand} {τs:List I},hJ c E L xs τs→hJ c E g8 xs τs
 | [],[],h=>h
 | _ :: _,_ :: _,h=>⟨h.1.perm p,hJ.perm p h.2⟩
 | [],_ :: _,h=>h.elim
 | _ :: _,[],h=>h.elim
theorem eV.I1 {oh:Operand} {f:FuncId} {tT τs:List I} {xs:List Operand} {ats:Array TypeId} {bU:Type} [eY bU] {hp:aS bU} {Lin Lr:List aM} {δ:Type} {ρ:δ→I} {Lo:δ→List aM} {hq:δ→aS bU} (n m:Nat) (al:L.drop n=aV hp) (ej:bH c.P f) (ba:a9 c E L oh (.gF f tT)) (h:bM c.P f (τs ++ tT) (Lin ++ aV hp) ρ (fun d=>Lo d ++ aV (hq d)))
 (J:(L.take n).take m=Lin) (ad:(L.take n).drop m=Lr) (an:hJ c E L xs τs):eV c E L ⟨d,.call ⟨.value oh,xs.toArray,ats⟩,ty,pos,af,g⟩ ρ (fun q=>(Lo q ++ Lr) ++ aV (hq q)):=by
 have e:L=(Lin ++ Lr) ++ aV hp:=by rw [← J,← ad,List.take_append_drop,← al,List.take_append_drop]
 refine eV.O8 n m al J ad ?_
 subst e
 refine eV.to (fun q=>rfl) (eV.gF (Lin ++ aV hp).length ej (ba.perm nK) h List.take_left List.drop_left (an.perm nK))
theorem eV.obj {f:FuncId} {xs:List Operand} {ats:Array TypeId} {bU:Type} [eY bU] {hp:aS bU} {p:Nat} {k:bU} {τs:List I} {Lin:List aM} {δ:Type} {ρ:δ→I} {Lo:δ→List aM} (n:Nat) (k':δ→bU) (al:L.drop n=aV hp) (hp':pat hp p=some k) (ej:bH c.P f) (h:bM c.P f τs Lin ρ Lo)
 (ay:eY.hB p k=Lin) (iT:∀ q,eY.hB p (k' q)=Lo q) (an:hJ c E L xs τs):eV c E L ⟨d,.call ⟨.value (.func f),xs.toArray,ats⟩,ty,pos,af,g⟩ ρ (fun q=>L.take n ++ aV (df hp p (k' q))):=by
 obtain⟨R,aZ,bc⟩:=uX hp'
 have e:L=L.take n ++ aV hp:=by rw [← al,List.take_append_drop]
 have de:∀ {M X:List aM},M.Perm (X ++ R)→ (L.take n ++ M).Perm (X ++ (R ++ L.take n)):=fun h=>List.perm_append_comm.trans ((h.append_right _).trans (by rw [List.append_assoc]))
 have JV:L.Perm (Lin ++ (R ++ L.take n)):=by
  conv=>lhs; rw [e]
  exact de (by rw [← ay]; exact aZ)
 refine eV.perm JV (fun q=>(de (bc (k' q))).symm) ?_
 refine eV.to (fun q=>by rw [iT]) (eV.call (Lr:=R ++ L.take n) (as:=fun a=>xs.map a.eval) h fun a W s=>⟨by simp [execOp,resolve,Deferred.ofValue,Act.eval,invoke,ej.run],?_⟩)
 exact(an.holds a W (s.perm JV.symm)).mono (m6 JV)
theorem fG.obj {f:FuncId} {xs:List Operand} {ats:Array TypeId} {bU:Type} [eY bU] {hp:aS bU} {p:Nat} {k:bU} {τs:List I} {Lin:List aM} {δ:Type} {τ:I} (n:Nat) (al:L.drop n=aV hp) (hp':pat hp p=some k) (ej:bH c.P f) (h:bM c.P f τs Lin (fun _:δ=>τ) (fun _=>Lin))
 (ay:eY.hB p k=Lin) (an:hJ c E L xs τs):fG c E L ⟨d,.call ⟨.value (.func f),xs.toArray,ats⟩,ty,pos,af,g⟩ τ:=by
 have e:L=L.take n ++ aV hp:=by rw [← al,List.take_append_drop]
 have abb:df hp p k=hp:=by
  clear e al h ay
  induction hp with
  | nil=>rfl
  | cons z r bJ=>
    obtain⟨q,ac7⟩:=z
    simp only [pat] at hp'
    simp only [df]
    split at hp'
    ·rename_i e; simp only [Option.some.injEq] at hp'; rw [if_pos e,hp']
    ·rename_i e; rw [if_neg e,bJ hp']
 refine eV.Z7 (eV.to (fun q=> ?_) (eV.obj (d:=d) (ty:=ty) (pos:=pos) (af:=af) (g:=g) (ats:=ats) n (fun _=>k) al hp' ej h ay (fun _=>ay) an))
 rw [abb,← e]
theorem ah.W1 {l:List Oper} {bU:Type} [eY bU] {hp:aS bU} {p:Nat} {Lin Lr:List aM} (n m:Nat) (mk:bU) (al:L.drop n=aV hp) (J:(L.take n).take m=Lin) (ad:(L.take n).drop m=Lr) (ay:eY.hB p mk=Lin) (hm:p∈aQ Lin)
 (k:∀ a:Nat × aS bU,a.1 ∉ hp.map (·.1)∧a.2=(a.1,mk) :: hp→a.1=p→ah c ops Q l E (Lr ++ aV a.2)):ah c ops Q l E L:=fun a W s=>by
 have e:L=(Lin ++ Lr) ++ aV hp:=by rw [← J,← ad,List.take_append_drop,← al,List.take_append_drop]
 have de:L.Perm (Lr ++ aV ((p,mk) :: hp)):=by
  rw [e,aV,ay,← List.append_assoc]
  exact List.perm_append_comm.append_right _
 refine k (p,(p,mk) :: hp) ⟨fun abc=> ?_,rfl⟩ rfl _ _ (s.perm de)
 have gu:=s.nodup
 rw [e,eS,eS] at gu
 exact(List.nodup_append.1 gu).2.2 p (List.mem_append.2 (.inl hm)) p (NS abc) rfl
end
section
variable {c:dd} {E:List (Nat × I)} {L:List aM} {ops:Array Oper} {Q:Exit→Act→World→Prop}
theorem ct.q {hs:List du} {i np:Nat} {o:Oper} {h:du} (b3:ct c ops Q hs E L i o h):H5 c ops Q hs E L np i o h:=fun hd E' L' J ad _=>b3 hd E' L' J ad
structure AU (P:Program) (f:FuncId) (τs:List I) {bU:Type} [eY bU] (hp:aS bU) {α:Type} (τ:α→I) (run:∀ {σ ε:Type},(α→σ→Option (σ ⊕ ε))→σ→Option (σ ⊕ ε)):Prop where
 go:∀ {σ ε γ:Type} (Ls:σ→γ→List aM) (Lx:ε→γ→List aM) (jY:σ→γ→List aM),(∀ s g,Ls s g=jY s g ++ aV hp)→JM P f τs [] τ (run (σ:=σ) (ε:=ε)) Ls Lx
theorem AU.of {P:Program} {f:FuncId} {fn:Func} {code:Code} {n:Nat} {τs:List I} {bU:Type} [eY bU] {hp:aS bU} {α:Type} {τ:α→I} {run:∀ {σ ε:Type},(α→σ→Option (σ ⊕ ε))→σ→Option (σ ⊕ ε)}
 (ba:P.funcs[f]? =some fn) (hb:fn.body=some code) (aO:fn.ntmps=n) (hlen:Nat.ble (τs.length + 1) n=true)
 (h:∀ {σ ε γ:Type} (Ls:σ→γ→List aM) (Lx:ε→γ→List aM) (jY:σ→γ→List aM),(∀ s g,Ls s g=jY s g ++ aV hp)→ ∀ (step:α→σ→Option (σ ⊕ ε)) (cc:σ) (g0:γ) (r:σ ⊕ ε),run step cc=some r→
  ∀ W A u,wH P u τ Ls Lx step (fun c5 W'=>Ext (aQ (Ls cc g0) ++ A) W c5 W')→
    ag ⟨P,n,W,aQ (Ls cc g0),A,none,[]⟩ (bodyPost P fn (j9 (aQ (Ls cc g0)) A W (fun _:γ=> .ed []) (fun g=> [] ++ Lr Ls Lx r g))) code (params 0 (.eq u :: τs)) (Ls cc g0)):AU P f τs hp τ run:=by
 refine⟨?_⟩
 intro σ ε γ Ls Lx jY ns step cc g0 r aR A W u vs ao a0 a5
 refine calls_of_wp ba hb (wpIn_wide.1 (h Ls Lx jY ns step cc g0 r aR W A u a5 _ _ ?_))
 have mW:gB (aQ (Ls cc g0) ++ A) W (.eq u :: τs) (u :: vs):= .cons rfl a0
 have kh:=mW.length
 have hle:τs.length + 1≤n:=Nat.le_of_ble_eq_true hlen
 exact
 {defers:=rfl
  size:=by simp at kh; simp [aO,kh]; omega
  env:=fun t τ e1=>by
   obtain⟨_,v,ad,aC⟩:=uS mW 0 t τ e1
   refine⟨v,?_,aC⟩
   have b5:t < (u :: vs).length:=(List.getElem?_eq_some_iff.1 ad).1
   rw [Array.getElem?_append_left (by simpa using b5)]
   simpa using ad
  dG:= .refl _ _
  own:=ao.ok
  nodup:=ao.nodup
  lt:=ao.lt
  fR:=fun k ay _=>ay
  eW:=ao.eW }
theorem Xk {bU:Type} [eY bU] {σ γ:Type} {Ls jY:σ→γ→List aM} {hp:aS bU} {s:σ} {g:γ} {p:Nat} {k:bU} {e:aM} (n:Nat) (al:L.drop n=Ls s g) (ns:∀ s g,Ls s g=jY s g ++ aV hp) (h:pat hp p=some k) (ay:eY.hB p k= [e]):e∈L:=
 On (hq:=fun _=>hp) n al ns h ay
theorem G2 {gt p:Nat} {assign body:Code} {f:FuncId} {mQ:List I} {bU:Type} [eY bU] {hp:aS bU} {α σ ε γ:Type} {τ:α→I} {run:∀ {σ ε:Type},(α→σ→Option (σ ⊕ ε))→σ→Option (σ ⊕ ε)}
 {Ls:σ→γ→List aM} {Lx:ε→γ→List aM} {step:α→σ→Option (σ ⊕ ε)} {cc:σ} {g0:γ} {r:σ ⊕ ε} (jY:σ→γ→List aM) (e4:ε→Code)
 (ak:c.rd=none) (ej:bH c.P f) (bs:look E gt=some (.gF f mQ)) (la:AU c.P f mQ hp τ run) (aR:run step cc=some r) (ns:∀ s g,Ls s g=jY s g ++ aV hp) (al:L=Ls cc g0) (hp':Nat.blt p c.n=true)
 (pb:∀ x s r,step x s=some r→ ∀ g (k3:World) (k8 k4:List Nat) (l D:Nat) (rec:Loop),rec.state= .ready→
  ag ⟨c.P,c.n,k3,k8,k4,some l,[]⟩ (Exit.then (CM ⟨c.P,c.n,k3,k8,k4,some l,[]⟩ l body (CL ⟨c.P,c.n,k3,k8,k4,some l,[]⟩ e4 l D { rec with state:= .busy } Ls Lx r)) (fun _ _ _=>False)) assign ((p,τ x) :: E) (⟨some l,.is (.loop rec)⟩ :: ⟨some D,.dj⟩ :: Ls s g))
 (mL:∀ b6,r= .inl b6→ ∀ g D,ae { c with ds:=D :: c.ds } Q .normal E (⟨some D,.dj⟩ :: Ls b6 g))
 (vM:∀ q,r= .inr q→ ∀ g D,ag { c with ds:=D :: c.ds } Q (e4 q) E (⟨some D,.dj⟩ :: Lx q g)):
 ag c Q (.rangeFunc (.tmp gt) #[p] assign body) E L:=
 Mf (Lin:= []) (run:=run) e4 ak ej bs (fun av aX mX=>la.go (fun s g=>av :: aX :: Ls s g) mX (fun s g=>av :: aX :: jY s g) (fun s g=>by rw [ns]; rfl)) aR al hp' pb mL vM
end
structure Raw where
 f:FuncId
 us:Option (List Value)
instance:Inhabited Raw:=⟨⟨0,none⟩⟩
def Raw.val:Raw→Value
 | ⟨f,some us⟩=> .func (.func f) #[] us.toArray
 | ⟨_,none⟩=> .nilFunc
instance:ai Raw where
 size:=1
 agg:=false
 rep _ _ cs x:=cs= [x.val]
 len h:=by rw [h]; rfl
 one h:=by
  intro v a0
  rw [h,List.mem_singleton] at a0
  subst a0
  rename_i x
  obtain⟨f,us⟩:=x
  cases us <;> rfl
 flat _:=rfl
 mono _ h:=h
instance:bg Raw:=⟨[.nilFunc],fun _ _=>rfl⟩
theorem NV {A W v} {x:Raw} :(I.of x).holds A W v↔v=x.val:=by
 constructor
 ·intro h
  exact oq (by have:=h.1; exact this) h.2
 ·intro h
  subst h
  obtain⟨f,us⟩:=x
  cases us <;> exact⟨rfl,rfl⟩
section
variable {c:dd} {E:List (Nat × I)} {L:List aM} {ops:Array Oper} {Q:Exit→Act→World→Prop}
variable {d:Option Tmp} {ty:TypeId} {pos:String} {af:Array Edge} {g:Option (Nat × Bool)} {x y:Operand} {t t2:TypeId}
theorem gB.eqs {A:List Nat} {W:World} :∀ {us vs:List Value},gB A W (us.map I.eq) vs→vs=us
 | [],_,.nil=>rfl
 | _ :: _,_,.cons h r=>by rw [r.eqs]; congr 1
theorem gB.O9 {A:List Nat} {W:World} :∀ {us:List Value},gB A W (us.map I.eq) us
 | []=> .nil
 | _ :: _=> .cons rfl .O9
theorem Oz {f:FuncId} {xs:List Operand} {us:List Value} (an:hJ c E L xs (us.map I.eq)):bS c E L ⟨d,.makeFunc (.func f) #[] xs.toArray,ty,pos,af,g⟩ (.of (⟨f,some us⟩:Raw)):= .pure fun a W s=>
 ⟨.func (.func f) #[] us.toArray,by
   have h:=(an.holds a W s).eqs
   simp [execOp,Instr.makeFunc,h],NV.2 rfl⟩
theorem Hc {f:FuncId} {us:List Value} (an:a9 c E L x (.of (⟨f,some us⟩:Raw))):a9 c E L x (.gF f (us.map I.eq)):=fun a W s=>
 ⟨us,NV.1 (an a W s),.O9⟩
theorem ah.FW {o:Oper} {rest:List Oper} {a7 j gs:Nat} {b want:Bool} {β γ Cw:Type} {m:ax β} {z:β} {k:β→ax Cw} {R:Cw→Prop} (h:ax.bind (bif decide (b=want) then m else ax.ret z) k R) (σ:β→I) (L2:β→γ→List aM) (g0:γ) (al:L=L2 z g0)
 (bs:o.guard=some (j,want)) (aH:(ops[j]?).bind (·.dst)=some gs) (ao:look E gs=some (.of b)) (hd:o.dst=some a7) (aO:Nat.blt a7 c.n=true)
 (bL:b=want→m (fun r=>k r R)→eV c E L o (fun q: {r // k r R} × γ=>σ q.1.1) (fun q=>L2 q.1.1 q.2))
 (m0:∀ y g,k y R→ah c ops Q rest ((a7,.cond (b=want) (σ y)) :: E) (L2 y g)):ah c ops Q (o :: rest) E L:=by
 by_cases hb:b=want
 ·have hm:m (fun r=>k r R):=by
   have c0:(bif decide (b=want) then m else ax.ret z) (fun r=>k r R):=h
   rw [decide_eq_true hb] at c0; exact c0
  exact ah.QV (β:=β × γ) (K:=fun y=>k y.1 R) (σ:=fun y=>σ y.1) (L2:=fun y=>L2 y.1 y.2) (val:=fun q=>(q.1.1,q.2)) bs aH ao hd aO (fun _=>bL hb hm) (fun _ q=>⟨q.1.2,rfl,rfl⟩) (fun h=>absurd hb h) fun y a5=>m0 y.1 y.2 a5
 ·have hm:k z R:=by
   have c0:(bif decide (b=want) then m else ax.ret z) (fun r=>k r R):=h
   rw [decide_eq_false hb] at c0; exact c0
  exact ah.QV (δ:=Unit) (β:=β × γ) (K:=fun y=>k y.1 R) (σ:=fun y=>σ y.1) (L2:=fun y=>L2 y.1 y.2) (val:=fun _=>(z,g0)) (ρ:=fun _=>σ z) (L':=fun _=>L2 z g0) bs aH ao hd aO (fun h=>absurd h hb) (fun h=>absurd h hb) (fun _=>⟨(z,g0),hm,al⟩) fun y a5=>m0 y.1 y.2 a5
end
section
variable {c:dd} {E:List (Nat × I)} {L:List aM} {ops:Array Oper} {Q:Exit→Act→World→Prop}
theorem ah.W2 {l:List Oper} {p q:Nat} (fo:Nat) (ao:look E fo=some (.eq (.pointer (some ⟨p,0,none⟩)))) (he:q=p) (k:ah c ops Q l ((fo,.of (some q:Ref)) :: E) L):ah c ops Q l E L:=fun a W s=>by
 subst he
 refine k a W (s.less fun t τ h=> ?_)
 simp only [look] at h
 by_cases e:Nat.beq fo t=true
 ·rw [e] at h
  simp only [cond_true,Option.some.injEq] at h
  have:=eh.1 e
  subst this
  subst h
  exact⟨_,ao,fun A W v a0=>tv.2 a0⟩
 ·simp only [Bool.not_eq_true] at e
  rw [e] at h
  exact⟨τ,h,fun _ _ _ h=>h⟩
end
section
variable {c:dd} {E:List (Nat × I)} {L:List aM} {ops:Array Oper} {Q:Exit→Act→World→Prop}
def yh (ops:Array Oper) (n:Nat) (hs:List (Option Nat × List Nat × List Nat × List Nat)) (E:List Nat):Bool:=
 decide (hs.length=n) && decide (n≤ops.size) && decide (hs.filterMap (·.1)).Nodup && ((List.range n).all fun m=>match hs[m]? with | some (some s,up,_)=> !E.contains s || (List.range n).all fun k=>decide (k=m) || up.contains k | _=>true) &&
 ((List.range n).all fun i=>match hs[i]? with
   | none=>false
   | some (_,up,rd,wr)=>
     (((ops[i]?).map fun o=>(o.dst ==(hs[i]?).bind (·.1)) && o.after.all fun e=> !Region.binds .any e || decide (e.on < i)).getD false) &&
     (up.all fun k=>Region.waitsFor .any ops i k || (List.range i).any fun m=>Region.waitsFor .any ops i m && ((hs[m]?).map fun h=>h.2.1.contains k).getD false) &&
     ((List.range n).all fun k=>match hs[k]? with
       | none=>true
       | some (_,JG,_,Cj)=>
         (!(decide (k < i) && Cj.any rd.contains) || up.contains k) && (!(decide (i < k) && Cj.any fun j=>rd.contains j || wr.contains j) || JG.contains i))) &&
 (decide (n=ops.size) || (Region.sinkB .any ops n && Region.chainB .any ops n)) &&
 Region.seqB .any ops (ops.size - n) n ((List.range n).foldl (fun l i=>l.setIfInBounds i true) (Array.replicate ops.size false))
theorem TB {n:Nat} {hs:List du} {np:Nat} (hw:∀ h∈hs,∀ j∈h.wr,j < np∨L.length≤j) (hr:yh ops n (jj hs) (E.map (·.1))=true) (b3:o7 c ops Q hs E L np 0 (ops.toList.take n) hs)
 (bL:∀ hd,ah c ops Q (ops.toList.drop n) (hS (fun _=>true) hd E 0 hs) (gY (fun _=>true) hd 0 hs L)):
 ∀ m (a4:Array Bool) (hd:Nat→Hid) (a:Act) (W:World),((List.range n).filter fun i=> !a4.getD i true).length≤m→HeadInv .any ops n a4→
   bx c (hS (fun i=>a4.getD i false) hd E 0 hs) (gY (fun i=>a4.getD i false) hd 0 hs L) a W→wpAnyIn c.F 9 c.P .any ops Q (m + (ops.size - n)) a4 a W:=by
 simp only [yh,Bool.and_eq_true,decide_eq_true_eq,Bool.or_eq_true] at hr
 obtain⟨⟨⟨⟨⟨⟨II,aO⟩,gu⟩,BI⟩,kA⟩,vJ⟩,pW⟩:=hr
 have hlen:hs.length=n:=by simpa [jj] using II
 have lU:∀ i,i < n→ ∃ h o,hs[i]? =some h∧ops[i]? =some o:=fun i au=>⟨hs[i]'(by omega),ops[i],by simp,by simp⟩
 have pR:∀ (i:Nat) (h:du) (o:Oper),hs[i]? =some h→ops[i]? =some o→
  o.dst=h.slot∧ (∀ e∈o.after,Region.binds .any e=true→e.on < i)∧
  (∀ k∈h.up,Region.waitsFor .any ops i k=true∨ ∃ m,m < i∧Region.waitsFor .any ops i m=true∧ ∃ x,hs[m]? =some x∧k∈x.up)∧
  (∀ (k:Nat) (x:du),hs[k]? =some x→ (k < i→ (∃ j∈x.wr,h.rd.contains j=true)→k∈h.up)∧ (i < k→ (∃ j∈x.wr,h.rd.contains j=true∨h.wr.contains j=true)→i∈x.up)):=by
  intro i h o au bb
  have b5:i < n:=by have:=(List.getElem?_eq_some_iff.1 au).1; omega
  have J:=List.all_eq_true.1 kA i (List.mem_range.2 b5)
  rw [xU au] at J
  simp only [Bool.and_eq_true] at J
  obtain⟨⟨ad,aC⟩,aU⟩:=J
  simp only [bb,Option.map_some,Option.getD_some,Bool.and_eq_true,Option.bind_some,beq_iff_eq] at ad
  refine⟨ad.1,fun e he hb=> ?_,fun k ay=> ?_,fun k x an=> ?_⟩
  ·have:=Array.all_eq_true_iff_forall_mem.1 ad.2 e he
   simp [hb] at this
   exact this
  ·have:=List.all_eq_true.1 aC k ay
   simp only [Bool.or_eq_true,List.any_eq_true,Bool.and_eq_true,List.mem_range] at this
   rcases this with a1 | ⟨m,a1,bk,cT⟩
   ·exact .inl a1
   ·have hm:m < hs.length:=by omega
    rw [xU (List.getElem?_eq_getElem hm)] at cT
    exact .inr ⟨m,a1,bk,hs[m],List.getElem?_eq_getElem hm,by simpa using cT⟩
  ·have B7:k < n:=by have:=(List.getElem?_eq_some_iff.1 an).1; omega
   have:=List.all_eq_true.1 aU k (List.mem_range.2 B7)
   rw [xU an] at this
   simp only [Bool.and_eq_true,Bool.or_eq_true,Bool.not_eq_true',Bool.and_eq_false_iff,decide_eq_false_iff_not,List.contains_iff_mem] at this
   refine⟨fun ps ⟨j,aH,aR⟩=> ?_,fun lC ⟨j,aH,aR⟩=> ?_⟩
   ·rcases this.1 with(a1 | a1) | a1
    ·exact absurd ps a1
    ·have:=List.any_eq_false.1 a1 j aH
     exact absurd aR this
    ·exact a1
   ·rcases this.2 with(a1 | a1) | a1
    ·exact absurd lC a1
    ·have:=List.any_eq_false.1 a1 j aH
     simp only [Bool.or_eq_true] at this
     exact absurd aR this
    ·exact a1
 have vL:∀ (i j s:Nat) (x y:du),hs[i]? =some x→hs[j]? =some y→x.slot=some s→y.slot=some s→i=j:=by
  have key:∀ (l:List du),((jj l).filterMap (·.1)).Nodup→ ∀ (i j s:Nat) (x y:du),l[i]? =some x→l[j]? =some y→x.slot=some s→y.slot=some s→i=j:=by
   intro l
   induction l with
   | nil=>intro _ i j s x y h; simp at h
   | cons z r bJ=>
     intro gu i j s x y au aH an a5
     have aR:((jj r).filterMap (·.1)).Nodup:=by
      cases db:z.slot with
      | none=>simpa [jj,db] using gu
      | some w=>
        simp only [jj,List.map_cons,List.filterMap_cons,db] at gu
        exact(List.nodup_cons.1 gu).2
     have pV:z.slot=some s→ ∀ (q:Nat) (v:du),r[q]? =some v→v.slot≠some s:=fun db q v hq a0=>by
      simp only [jj,List.map_cons,List.filterMap_cons,db] at gu
      exact(List.nodup_cons.1 gu).1 (List.mem_filterMap.2 ⟨_,List.mem_map.2 ⟨v,List.mem_of_getElem? hq,rfl⟩,a0⟩)
     cases i with
     | zero=>
       simp only [List.getElem?_cons_zero,Option.some.injEq] at au
       subst au
       cases j with
       | zero=>rfl
       | succ j=>simp only [List.getElem?_cons_succ] at aH; exact absurd a5 (pV an j y aH)
     | succ i=>
       simp only [List.getElem?_cons_succ] at au
       cases j with
       | zero=>
         simp only [List.getElem?_cons_zero,Option.some.injEq] at aH
         subst aH
         exact absurd an (pV a5 i x au)
       | succ j=>simp only [List.getElem?_cons_succ] at aH; rw [bJ aR i j s x y au aH an a5]
  exact key hs gu
 have IJ:∀ (t:Nat) (τ:I),look E t=some τ→ ∀ (m:Nat) (h:du),hs[m]? =some h→h.slot=some t→ ∀ k,k < n→k≠m→k∈h.up:=by
  intro t τ ao m h hm e0 k ay sB
  have mT:m < n:=by have:=(List.getElem?_eq_some_iff.1 hm).1; omega
  have J:=List.all_eq_true.1 BI m (List.mem_range.2 mT)
  rw [show(jj hs)[m]? =some (h.slot,h.up,h.rd,h.wr) by simp [jj,hm],e0] at J
  have tQ:t∈E.map (·.1):=by
   clear BI J b3 bL hm e0
   induction E with
   | nil=>simp [look] at ao
   | cons x r bJ=>
     obtain⟨s,σ⟩:=x
     simp only [look] at ao
     by_cases e:Nat.beq s t=true
     ·have:=eh.1 e; subst this; simp
     ·simp only [Bool.not_eq_true] at e
      rw [e] at ao
      simp only [List.map_cons,List.mem_cons]
      exact .inr (bJ ao)
  replace J:(!(E.map (·.1)).contains t || (List.range n).all fun k=>decide (k=m) || h.up.contains k)=true:=J
  rw [show(E.map (·.1)).contains t=true by simpa using tQ] at J
  have ad:∀ x,x < n→x=m∨x∈h.up:=by simpa using J
  exact(ad k ay).resolve_left sB
 have sC:∀ (a4:Array Bool),HeadInv .any ops n a4→ ∀ (d i:Nat),i≤d→ ∀ (h:du) (o:Oper),hs[i]? =some h→ops[i]? =some o→ (∀ e∈o.after,Region.binds .any e=true→a4.getD e.on false=true)→ ∀ k∈h.up,a4.getD k false=true:=by
  intro a4 inv d
  induction d with
  | zero=>
    intro i au h o dr oa hw k ay
    rcases (pR i h o dr oa).2.2.1 k ay with J | ⟨m,hm,_⟩
    ·obtain⟨kL,hZ,e,he,hb,lD⟩:=Region.waitsFor_spec J
     rw [oa] at hZ; cases hZ
     rw [← lD]; exact hw e he hb
    ·omega
  | succ d bJ=>
    intro i au h o dr oa hw k ay
    rcases (pR i h o dr oa).2.2.1 k ay with J | ⟨m,hm,J,x,an,JH⟩
    ·obtain⟨kL,hZ,e,he,hb,lD⟩:=Region.waitsFor_spec J
     rw [oa] at hZ; cases hZ
     rw [← lD]; exact hw e he hb
    ·obtain⟨kL,hZ,e,he,hb,lD⟩:=Region.waitsFor_spec J
     rw [oa] at hZ; cases hZ
     have mT:=hw e he hb
     rw [lD] at mT
     obtain⟨aP,qt,aaR,qf⟩:=lU m (by have:=(List.getElem?_eq_some_iff.1 dr).1; omega)
     exact bJ m (by omega) x qt an qf (fun e he hb=>inv.closed m qt qf mT e he hb) k JH
 have mL:∀ (a4:Array Bool) (hd:Nat→Hid) (a:Act) (W:World),(∀ i,i < n→a4.getD i true=true)→HeadInv .any ops n a4→
  bx c (hS (fun i=>a4.getD i false) hd E 0 hs) (gY (fun i=>a4.getD i false) hd 0 hs L) a W→wpAnyIn c.F 9 c.P .any ops Q (ops.size - n) a4 a W:=by
  intro a4 hd a W pS inv st
  have ao:=GX inv aO pS
  rw [← ao] at pW
  have vK:(ops.toList.drop n).length=ops.size - n:=by simp
  rw [← vK]
  rw [← vK] at pW
  refine z9 (ops.toList.drop n) n a4 a W (fun j=>by simp) pW (bL hd a W ?_)
  have FF:∀ m,m < hs.length→a4.getD (0 + m) false=true:=fun m hm=>by
   have J:=pS m (by omega)
   have ad:m < a4.size:=by rw [inv.size]; omega
   simpa [ad] using J
  rw [GZ (ls':=fun _=>true) FF,Hj (ls':=fun _=>true) FF] at st
  exact st
 have more:∀ f (a4:Array Bool) a W,wpAnyIn c.F 9 c.P .any ops Q f a4 a W→wpAnyIn c.F 9 c.P .any ops Q (f + 1) a4 a W:=by
  intro f
  induction f with
  | zero=>intro a4 a W h; exact⟨fun _=>h.2,fun i au=>by rw [h.1] at au; cases au⟩
  | succ f B2=>intro a4 a W h; exact⟨h.1,fun i au=>wpOpIn_mono (fun gw qs c0=>B2 _ gw qs c0) (h.2 i au)⟩
 intro m
 induction m with
 | zero=>
   intro a4 hd a W hm inv st
   rw [Nat.zero_add]
   refine mL a4 hd a W (fun i au=> ?_) inv st
   cases h:a4.getD i true with
   | true=>rfl
   | false=>
     have:i∈ (List.range n).filter fun i=> !a4.getD i true:=List.mem_filter.2 ⟨List.mem_range.2 au,by rw [h]; rfl⟩
     rw [List.length_eq_zero_iff.1 (Nat.le_zero.1 hm)] at this
     cases this
 | succ m bJ=>
   intro a4 hd a W hm inv st
   rw [show m + 1 + (ops.size - n)=(m + (ops.size - n)) + 1 by omega]
   by_cases Bk:∀ i,i < n→a4.getD i true=true
   ·have J:=mL a4 hd a W Bk inv st
    have key:∀ k,wpAnyIn c.F 9 c.P .any ops Q (k + (ops.size - n)) a4 a W:=by
     intro k
     induction k with
     | zero=>rw [Nat.zero_add]; exact J
     | succ k B3=>rw [show k + 1 + (ops.size - n)=(k + (ops.size - n)) + 1 by omega]; exact more _ _ _ _ B3
    exact more _ _ _ _ (key m)
   have hex:∃ i,i < n∧a4.getD i true=false:=by
    false_or_by_contra
    rename_i ad
    exact Bk fun i au=>by
     cases h:a4.getD i true with
     | true=>rfl
     | false=>exact absurd ⟨i,au,h⟩ ad
   have AY:∀ t∈Region.ready .any ops a4,t < n:=by
    intro t qa
    rcases Nat.lt_or_ge t n with h | h
    ·exact h
    ·obtain⟨i,au,ir⟩:=hex
     have PN:n < ops.size∨n=ops.size:=by omega
     have Z8:t < ops.size:=by
      obtain⟨_,o,bb,_⟩:=mem_ready.1 qa
      exact(Array.getElem?_eq_some_iff.1 bb).1
     rcases vJ with J | J
     ·omega
     ·exact absurd qa (tail_waits J.1 J.2 (by omega) inv _ i rfl au ir t h)
   refine⟨fun bI=> ?_,fun i au=> ?_⟩
   ·exfalso
    have key:∀ d i,i≤d→i < n→a4.getD i true=true:=by
     intro d
     induction d with
     | zero=>
       intro i wx au
       cases ao:a4.getD i true with
       | true=>rfl
       | false=>
         obtain⟨h,o,dr,bb⟩:=lU i au
         have:i∈Region.ready .any ops a4:=mem_ready.2 ⟨ao,o,bb,fun e he hb=>by have:=(pR i h o dr bb).2.1 e he hb; omega⟩
         rw [bI] at this; cases this
     | succ d Ck=>
       intro i wx au
       cases ao:a4.getD i true with
       | true=>rfl
       | false=>
         obtain⟨h,o,dr,bb⟩:=lU i au
         have:i∈Region.ready .any ops a4:=mem_ready.2 ⟨ao,o,bb,fun e he hb=>by
          have J:=(pR i h o dr bb).2.1 e he hb
          have ad:=Ck e.on (by omega) (by omega)
          have aC:e.on < a4.size:=by rw [inv.size]; omega
          simpa [aC] using ad⟩
         rw [bI] at this; cases this
    obtain⟨i,au,ir⟩:=hex
    have:=key i i (Nat.le_refl _) au
    rw [ir] at this; cases this
   ·have eu:i < n:=AY i au
    obtain⟨ir,o,bb,nO⟩:=mem_ready.1 au
    obtain⟨h,_,dr,_⟩:=lU i eu
    have jR:a4.getD i false=false:=getD_both ir
    have pY:i < a4.size:=by rw [inv.size]; omega
    have pX:((List.range n).filter fun j=> !(a4.setIfInBounds i true).getD j true).length≤m:=by
     have:((List.range n).filter fun j=> !(a4.setIfInBounds i true).getD j true).length < ((List.range n).filter fun j=> !a4.getD j true).length:=by
      refine Er (fun j=> !a4.getD j true) (fun j=> !(a4.setIfInBounds i true).getD j true) i (by simp only [ir]; rfl) ?_ (fun j aH=> ?_) n eu
      ·simp [pY]
      ·by_cases e:i=j
       ·subst e; simp only [ir]; rfl
       ·rw [getD_set_ne true e] at aH; exact aH
     omega
    have sf:=inv.set au eu
    obtain⟨BE,AZ,Yi,tP⟩:=pR i h o dr bb
    have v9:=sC a4 inv i i (Nat.le_refl _) h o dr bb nO
    have A0:∀ (k:Nat) (x:du),hs[k]? =some x→i < k→ (∃ j∈x.wr,h.rd.contains j=true∨h.wr.contains j=true)→a4.getD k false=false:=fun k x an lC aH=>by
     have J:=(tP k x an).2 lC aH
     cases ay:a4.getD k false with
     | false=>rfl
     | true=>
       obtain⟨_,ok,_,hF⟩:=lU k (by have:=(List.getElem?_eq_some_iff.1 an).1; omega)
       have:=sC a4 inv k k (Nat.le_refl _) x ok an hF (fun e he hb=>inv.closed k ok hF ay e he hb) i J
       rw [jR] at this; cases this
    have A1:hs=hs.take i ++ h :: hs.drop (i + 1):=by
     have yO:i < hs.length:=by omega
     rw [List.getElem?_eq_getElem yO] at dr
     cases dr
     rw [List.getElem_cons_drop]
     exact(List.take_append_drop i hs).symm
    have yP:(hs.take i).length=i:=by rw [List.length_take]; omega
    have mx:∀ (t:Nat) (τ:I),look E t=some τ→ ∀ (m:Nat) (x:du),hs[m]? =some x→a4.getD (0 + m) false=true→x.slot≠some t:=fun t τ ao m x an sD e0=>by
     rw [Nat.zero_add] at sD
     have Cl:i≠m:=fun e=>by subst e; rw [jR] at sD; cases sD
     obtain⟨_,qt,_,qf⟩:=lU m (by have:=(List.getElem?_eq_some_iff.1 an).1; omega)
     have:=sC a4 inv m m (Nat.le_refl _) x qt an qf (fun e he hb=>inv.closed m qt qf sD e he hb) i (IJ t τ ao m x an e0 i eu Cl)
     rw [jR] at this; cases this
    have Bh:=(o7.get b3 i h o dr (by rw [List.getElem?_take,if_pos eu,Array.getElem?_toList]; exact bb))
    rw [Nat.zero_add] at Bh
    have Cm:=Bh hd (hS (fun i=>a4.getD i false) hd E 0 hs) (gY (fun i=>a4.getD i false) hd 0 hs L) (fun t τ ao=> ?_) (fun j e aH aR=> ?_) (Ea hw)
    ·have hw:=Ae (K:=fun a W=> ∃ x,bx c (n3 h.slot (h.τ (gk h.up i (iU hd i x))) (hS (fun i=>a4.getD i false) hd E 0 hs)) (mm (gY (fun i=>a4.getD i false) hd 0 hs L) (h.e9 (gk h.up i (iU hd i x))) h.wr) a W) bb (Cm a W st)
     refine wpOpIn_mono (fun gw W' ⟨x,nw⟩=> ?_) hw
     have Cn:∀ j,j≠i→iU hd i x j=hd j:=fun j aH=>by
      have:Nat.beq j i=false:=by
       cases hb:Nat.beq j i
       ·rfl
       ·exact absurd (eh.1 hb) aH
      simp only [iU,this,cond_false]
     have wF:∀ (j:Nat) (y:du),hs[j]? =some y→a4.getD j false=true→gk y.up j (iU hd i x)=gk y.up j hd:=fun j y a5 aH=>by
      obtain⟨_,kL,_,hZ⟩:=lU j (by have:=(List.getElem?_eq_some_iff.1 a5).1; omega)
      refine Md (Cn j fun e=>by subst e; rw [jR] at aH; cases aH) fun k ay=>Cn k fun e=> ?_
      have:=sC a4 inv j j (Nat.le_refl _) y kL a5 hZ (fun e he hb=>inv.closed j kL hZ aH e he hb) k ay
      subst e
      rw [jR] at this; cases this
     have wG:(a4.setIfInBounds i true).getD i false=true:=by simp [pY]
     have fU:∀ j,j≠i→ (a4.setIfInBounds i true).getD j false=a4.getD j false:=fun j aH=>getD_set_ne false (fun e=>aH e.symm)
     refine bJ _ (iU hd i x) gw W' pX sf ?_
     have Jb:gY (fun j=>(a4.setIfInBounds i true).getD j false) (iU hd i x) 0 hs L=mm (gY (fun i=>a4.getD i false) hd 0 hs L) (h.e9 (gk h.up i (iU hd i x))) h.wr:=by
      apply List.ext_getElem?
      intro j
      rw [vn,DY,vn]
      by_cases aH:h.wr.contains j=true
      ·rw [if_pos aH]
       have av:∀ (ls:Nat→Bool) (g:Nat→Hid) (v:Option aM),(∀ k x,hs[k]? =some x→i < k→x.wr.contains j=true→ls k=false)→kf ls g j 0 hs v=(bif ls i then(kf ls g j 0 (hs.take i) v).map (fun _=>h.e9 (gk h.up i g) j) else kf ls g j 0 (hs.take i) v):=fun ls g v Ci=>by
        conv=>lhs; rw [A1]
        rw [Ai,yP,Nat.zero_add,kf,aH,Bool.and_true,As]
        intro k x an hw
        rw [List.getElem?_drop] at an
        exact Ci (i + 1 + k) x an (by omega) hw
       have e8:∀ k x,hs[k]? =some x→i < k→x.wr.contains j=true→a4.getD k false=false:=fun k x an lC hw=>A0 k x an lC ⟨j,by simpa using hw,.inr aH⟩
       rw [av (fun j=>(a4.setIfInBounds i true).getD j false) (iU hd i x) _ (fun k x an lC hw=>by rw [fU k (by omega)]; exact e8 k x an lC hw),av (fun j=>a4.getD j false) hd _ e8]
       simp only [wG,jR,cond_true,cond_false]
       rw [uW (ls':=fun j=>a4.getD j false) (hd':=hd) fun q x an _=>by
        have hq:q < i:=by have:=(List.getElem?_eq_some_iff.1 an).1; omega
        rw [List.getElem?_take,if_pos hq] at an
        rw [Nat.zero_add]
        exact⟨fU q (by omega),fun ao=>wF q x an (by rw [fU q (by omega)] at ao; exact ao)⟩]
      ·rw [if_neg aH]
       refine uW fun q x an hw=> ?_
       rw [Nat.zero_add]
       have hq:q≠i:=fun e=>by subst e; rw [dr] at an; cases an; exact aH hw
       exact⟨fU q hq,fun ao=>wF q x an (by rw [fU q hq] at ao; exact ao)⟩
     rw [Jb]
     refine nw.less fun t τ ao=> ?_
     rcases Hi ao with⟨j,y,J,ad,aC,aU⟩ | ⟨J,e8⟩
     ·rw [Nat.zero_add] at ad aU
      by_cases g5:j=i
      ·subst g5
       rw [dr] at J
       cases J
       exact⟨τ,by rw [aC,aU]; simp [n3,look,Nat.beq_refl],fun _ _ _ h=>h⟩
      ·rw [fU j g5] at ad
       rw [wF j y J ad] at aU
       have a1:=AF (ls:=fun i=>a4.getD i false) (hd:=hd) (E:=E) (k:=0) J (by rw [Nat.zero_add]; exact ad) aC fun q z hq db=>vL q j t z y hq J db aC
       rw [Nat.zero_add,← aU] at a1
       refine⟨τ,?_,fun _ _ _ h=>h⟩
       cases oL:h.slot with
       | none=>exact a1
       | some s=>
         have c6:Nat.beq s t=false:=by
          cases hb:Nat.beq s t
          ·rfl
          ·have:=eh.1 hb; subst this
           exact absurd (vL j i s y h J dr aC oL) g5
         simp only [n3,look,c6,cond_false]
         exact a1
     ·have hb:=mx t τ J
      have a1:=At (ls:=fun i=>a4.getD i false) (hd:=hd) (E:=E) (k:=0) hb
      refine⟨τ,?_,fun _ _ _ h=>h⟩
      cases oL:h.slot with
      | none=>simp only [n3]; rw [a1]; exact J
      | some s=>
        have c6:Nat.beq s t=false:=by
         cases lB:Nat.beq s t
         ·rfl
         ·have:=eh.1 lB; subst this
          exact absurd oL (e8 i h dr (by rw [Nat.zero_add]; exact wG))
        simp only [n3,look,c6,cond_false]
        rw [a1]; exact J
    ·rcases HF ao with⟨j,aH,y,J,ad,aC⟩ | J
     ·have a1:=AF (ls:=fun i=>a4.getD i false) (hd:=hd) (E:=E) (k:=0) J (by rw [Nat.zero_add]; exact v9 j aH) ad fun q z hq db=>vL q j t z y hq J db ad
      rw [Nat.zero_add,← aC] at a1
      exact a1
     ·rw [At (mx t τ J)]; exact J
    ·rw [vn] at aH ⊢
     rw [← aH]
     conv=>lhs; rw [A1]
     rw [Ai,As]
     ·refine uW fun q x an hw=> ?_
      rw [Nat.zero_add]
      have hq:q < i:=by have:=(List.getElem?_eq_some_iff.1 an).1; omega
      rw [List.getElem?_take,if_pos hq] at an
      exact⟨v9 q ((tP q x an).1 hq ⟨j,by simpa using hw,aR⟩),fun _=>rfl⟩
     ·intro q x an hw
      rw [yP,Nat.zero_add]
      cases q with
      | zero=>exact jR
      | succ q=>
        simp only [List.getElem?_cons_succ] at an
        rw [List.getElem?_drop] at an
        exact A0 (i + (q + 1)) x (by rw [← an]; congr 1; omega) (by omega) ⟨j,by simpa using hw,.inl aR⟩
theorem ag.yh {oN:Nat} {l:List Oper} (n np:Nat) (hm:c.P.follows .mixedOrders=true) (hs:List du) (ds:List (Option Nat × List Nat × List Nat × List Nat)) (es:List Nat) (hM:jj hs=ds) (qg:E.map (·.1)=es) (hr:Gv.yh l.toArray n ds es=true) (hw:(ds.all fun d=>d.2.2.2.all fun j=>Nat.blt j np)=true)
 (b3:o7 c l.toArray Q hs E L np 0 (l.take n) hs) (bL:∀ hd,ah c l.toArray Q (l.drop n) (hS (fun _=>true) hd E 0 hs) (gY (fun _=>true) hd 0 hs L)):ag c Q (.region oN l.toArray true) E L:=fun a W s=>by
 subst hM qg
 have ua:=O4 (L:=L) (hs:=hs) rfl hw
 refine wpIn_region_any hm ?_
 have aO:n≤l.toArray.size:=by
  simp only [Gv.yh,Bool.and_eq_true,decide_eq_true_eq] at hr
  exact hr.1.1.1.1.1.2
 have BF:HeadInv .any l.toArray n (Array.replicate l.toArray.size false):=
  {size:=by simp
   closed:=fun j kL _ ao=>by rw [getD_replicate_false] at ao; cases ao
   tail:=fun t _ bL=>by simp at bL; simp [bL] }
 have h:=TB ua (ops:=l.toArray) (Q:=Q) hr (by simpa using b3) (by simpa using bL) n (Array.replicate l.toArray.size false) (fun _ _=>none) a W.drew (Nat.le_trans (List.length_filter_le _ _) (by simp)) BF ?_
 ·rw [show n + (l.toArray.size - n)=l.toArray.size by omega] at h
  exact h
 have J:∀ (hs:List du) (k:Nat),hS (fun i=>(Array.replicate l.toArray.size false).getD i false) (fun _ _=>none) E k hs=E:=by
  intro hs
  induction hs with
  | nil=>intro k; rfl
  | cons h r bJ=>
    intro k
    have ad:=bJ (k + 1)
    simp only [getD_replicate_false] at ad
    unfold hS
    simp only [getD_replicate_false]
    exact ad
 have ad:∀ (hs:List du) (k:Nat) (L:List aM),gY (fun i=>(Array.replicate l.toArray.size false).getD i false) (fun _ _=>none) k hs L=L:=by
  intro hs
  induction hs with
  | nil=>intro k L; rfl
  | cons h r bJ=>intro k L; rw [gY,bJ]; simp only [getD_replicate_false,cond_false]
 rw [J,ad]
 exact s.world (Fr.drew W)
theorem c9.tail {l:List Oper} {f:Nat} {a4:Array Bool} (n:Nat) (ba:(l.drop n).length=f) (hs:Region.seqB .any l.toArray f n a4=true) (h:ah c l.toArray Q (l.drop n) E L):c9 c l.toArray Q f a4 E L:=fun a W s=>by
 subst ba
 exact z9 (l.drop n) n a4 a W (fun j=>by simp) hs (h a W s)
theorem ax.ex {α β:Type} {m:ax α} {k:α→ax β} {R:β→Prop} (h:ax.bind m k R):∃ K:α→Prop,m K∧ ∀ r,K r→k r R:=⟨_,h,fun _ h=>h⟩
end
theorem bM.law {P:Program} {f:FuncId} {τs:List I} {bU:Type} [eY bU] {R:Bool × aS bU→Prop} {Lo: {r:Bool × aS bU // R r} × Unit→List aM} (h:bM P f τs ([] ++ aV ([]:aS bU)) (fun d: {r:Bool × aS bU // R r} × Unit=>I.of d.1.1.1) Lo) (jr:∀ r,R r→r.1=true):bK P f τs (I.of true):=by
 intro A W vs fY a0
 refine(h A W vs (fun k ay=>⟨fY k ay,by simp [aV,aQ]⟩) (by simp [aV,aQ]) (fun k ay=>by simp [aV,aQ] at ay) (fun e he=>by simp [aV] at he) (by simpa [aV,aQ] using a0)).mono ?_
 intro e W' ⟨v,d,J,ad,_,_,_,aC⟩
 refine⟨v,J,by simpa [aV,aQ] using ad,?_⟩
 have aU:=jr d.1.1 d.1.2
 rw [of_bool] at aC ⊢
 rw [aC,aU]
section
variable {c:dd} {E:List (Nat × I)} {L:List aM} {ops:Array Oper} {Q:Exit→Act→World→Prop}
theorem UW {n:Nat} (aO:n≤ops.size) (Qt:∀ i o,i < n→ops[i]? =some o→ ∀ e∈o.after,Region.binds .any e=true→e.on < i)
 (vJ:n=ops.size∨ (Region.sinkB .any ops n=true∧Region.chainB .any ops n=true))
 (pW:Region.seqB .any ops (ops.size - n) n ((List.range n).foldl (fun l i=>l.setIfInBounds i true) (Array.replicate ops.size false))=true)
 (S:Array Bool→Act→World→Prop)
 (r6:∀ (a4:Array Bool) (i:Nat) (o:Oper) (a:Act) (W:World),HeadInv .any ops n a4→i < n→ops[i]? =some o→a4.getD i false=false→ (∀ e∈o.after,Region.binds .any e=true→a4.getD e.on false=true)→S a4 a W→
  wpOpIn c.F 9 c.P ops Q i (fun gw W'=>S (a4.setIfInBounds i true) gw W') a W)
 (n4:∀ (a4:Array Bool) (a:Act) (W:World),(∀ i,i < n→a4.getD i false=true)→S a4 a W→c.pq ops Q (ops.toList.drop n) a W):
 ∀ m (a4:Array Bool) (a:Act) (W:World),((List.range n).filter fun i=> !a4.getD i true).length≤m→HeadInv .any ops n a4→S a4 a W→wpAnyIn c.F 9 c.P .any ops Q (m + (ops.size - n)) a4 a W:=by
 have lU:∀ i,i < n→ ∃ o,ops[i]? =some o:=fun i au=>⟨ops[i],by simp⟩
 have mL:∀ (a4:Array Bool) (a:Act) (W:World),(∀ i,i < n→a4.getD i true=true)→HeadInv .any ops n a4→S a4 a W→wpAnyIn c.F 9 c.P .any ops Q (ops.size - n) a4 a W:=by
  intro a4 a W pS inv st
  have ao:=GX inv aO pS
  have oL:=pW
  rw [← ao] at oL
  have vK:(ops.toList.drop n).length=ops.size - n:=by simp
  rw [← vK] at oL ⊢
  exact z9 (ops.toList.drop n) n a4 a W (fun j=>by simp) oL (n4 a4 a W (fun i au=>by
   have J:=pS i au
   have ad:i < a4.size:=by rw [inv.size]; omega
   simpa [ad] using J) st)
 have more:∀ f (a4:Array Bool) a W,wpAnyIn c.F 9 c.P .any ops Q f a4 a W→wpAnyIn c.F 9 c.P .any ops Q (f + 1) a4 a W:=by
  intro f
  induction f with
  | zero=>intro a4 a W h; exact⟨fun _=>h.2,fun i au=>by rw [h.1] at au; cases au⟩
  | succ f B2=>intro a4 a W h; exact⟨h.1,fun i au=>wpOpIn_mono (fun gw qs c0=>B2 _ gw qs c0) (h.2 i au)⟩
 intro m
 induction m with
 | zero=>
   intro a4 a W hm inv st
   rw [Nat.zero_add]
   refine mL a4 a W (fun i au=> ?_) inv st
   cases h:a4.getD i true with
   | true=>rfl
   | false=>
     have:i∈ (List.range n).filter fun i=> !a4.getD i true:=List.mem_filter.2 ⟨List.mem_range.2 au,by rw [h]; rfl⟩
     rw [List.length_eq_zero_iff.1 (Nat.le_zero.1 hm)] at this
     cases this
 | succ m bJ=>
   intro a4 a W hm inv st
   rw [show m + 1 + (ops.size - n)=(m + (ops.size - n)) + 1 by omega]
   by_cases Bk:∀ i,i < n→a4.getD i true=true
   ·have J:=mL a4 a W Bk inv st
    have key:∀ k,wpAnyIn c.F 9 c.P .any ops Q (k + (ops.size - n)) a4 a W:=by
     intro k
     induction k with
     | zero=>rw [Nat.zero_add]; exact J
     | succ k B3=>rw [show k + 1 + (ops.size - n)=(k + (ops.size - n)) + 1 by omega]; exact more _ _ _ _ B3
    exact more _ _ _ _ (key m)
   have hex:∃ i,i < n∧a4.getD i true=false:=by
    false_or_by_contra
    rename_i ad
    exact Bk fun i au=>by
     cases h:a4.getD i true with
     | true=>rfl
     | false=>exact absurd ⟨i,au,h⟩ ad
   have AY:∀ t∈Region.ready .any ops a4,t < n:=by
    intro t qa
    rcases Nat.lt_or_ge t n with h | h
    ·exact h
    ·obtain⟨i,au,ir⟩:=hex
     have Z8:t < ops.size:=by
      obtain⟨_,o,bb,_⟩:=mem_ready.1 qa
      exact(Array.getElem?_eq_some_iff.1 bb).1
     rcases vJ with J | J
     ·omega
     ·exact absurd qa (tail_waits J.1 J.2 (by omega) inv _ i rfl au ir t h)
   refine⟨fun bI=> ?_,fun i au=> ?_⟩
   ·exfalso
    have key:∀ d i,i≤d→i < n→a4.getD i true=true:=by
     intro d
     induction d with
     | zero=>
       intro i wx au
       cases ao:a4.getD i true with
       | true=>rfl
       | false=>
         obtain⟨o,bb⟩:=lU i au
         have:i∈Region.ready .any ops a4:=mem_ready.2 ⟨ao,o,bb,fun e he hb=>by have:=Qt i o au bb e he hb; omega⟩
         rw [bI] at this; cases this
     | succ d Ck=>
       intro i wx au
       cases ao:a4.getD i true with
       | true=>rfl
       | false=>
         obtain⟨o,bb⟩:=lU i au
         have:i∈Region.ready .any ops a4:=mem_ready.2 ⟨ao,o,bb,fun e he hb=>by
          have J:=Qt i o au bb e he hb
          have ad:=Ck e.on (by omega) (by omega)
          have aC:e.on < a4.size:=by rw [inv.size]; omega
          simpa [aC] using ad⟩
         rw [bI] at this; cases this
    obtain⟨i,au,ir⟩:=hex
    have:=key i i (Nat.le_refl _) au
    rw [ir] at this; cases this
   ·have eu:i < n:=AY i au
    obtain⟨ir,o,bb,nO⟩:=mem_ready.1 au
    have pY:i < a4.size:=by rw [inv.size]; omega
    have pX:((List.range n).filter fun j=> !(a4.setIfInBounds i true).getD j true).length≤m:=by
     have:((List.range n).filter fun j=> !(a4.setIfInBounds i true).getD j true).length < ((List.range n).filter fun j=> !a4.getD j true).length:=by
      refine Er (fun j=> !a4.getD j true) (fun j=> !(a4.setIfInBounds i true).getD j true) i (by simp only [ir]; rfl) ?_ (fun j aH=> ?_) n eu
      ·simp [pY]
      ·by_cases e:i=j
       ·subst e; simp only [ir]; rfl
       ·rw [getD_set_ne true e] at aH; exact aH
     omega
    exact wpOpIn_mono (fun gw W' nw=>bJ _ gw W' pX (inv.set au eu) nw) (r6 a4 i o a W inv eu bb (getD_both ir) nO st)
def h1 (ls:Nat→Bool) (E:List (Nat × I)):Nat→List (Option (Nat × I))→List (Nat × I)
 | _,[]=>E
 | k,none :: r=>h1 ls E (k + 1) r
 | k,some x :: r=>bif ls k then x :: h1 ls E (k + 1) r else h1 ls E (k + 1) r
def oY (fs:List (Option (Nat × I))) (E:List (Nat × I)):List Nat→List (Nat × I)
 | []=>E
 | i :: r=>match fs[i]? with
   | some (some x)=>x :: oY fs E r
   | _=>oY fs E r
def je (fs:List (Option (Nat × I))):List Nat:=fs.filterMap fun x=>x.map (·.1)
theorem H6 {ls:Nat→Bool} {E:List (Nat × I)} {t:Nat} {τ:I} :∀ {fs:List (Option (Nat × I))} {k:Nat},look (h1 ls E k fs) t=some τ→ (∃ j,ls (k + j)=true∧fs[j]? =some (some (t,τ)))∨look E t=some τ
 | [],k,h=> .inr h
 | none :: r,k,h=>by
   rcases H6 (fs:=r) (k:=k + 1) h with⟨j,J,ad⟩ | J
   ·exact .inl ⟨j + 1,by rw [← J]; congr 1; omega,by simpa using ad⟩
   ·exact .inr J
 | some x :: r,k,h=>by
   have aR:look (h1 ls E (k + 1) r) t=some τ→ (∃ j,ls (k + j)=true∧ (some x :: r)[j]? =some (some (t,τ)))∨look E t=some τ:=fun h=>by
    rcases H6 (fs:=r) (k:=k + 1) h with⟨j,J,ad⟩ | J
    ·exact .inl ⟨j + 1,by rw [← J]; congr 1; omega,by simpa using ad⟩
    ·exact .inr J
   unfold h1 at h
   cases ay:ls k with
   | false=>rw [ay] at h; exact aR h
   | true=>
     rw [ay] at h
     simp only [cond_true,look] at h
     cases hb:Nat.beq x.1 t with
     | true=>
       rw [hb] at h
       have J:x.2=τ:=by simpa using h
       have ad:=eh.1 hb
       exact .inl ⟨0,ay,by rw [← J,← ad]; rfl⟩
     | false=>rw [hb] at h; exact aR h
theorem xV {ls:Nat→Bool} {E:List (Nat × I)} {t:Nat} :∀ {fs:List (Option (Nat × I))} {k:Nat},t ∉ je fs→look (h1 ls E k fs) t=look E t
 | [],k,h=>rfl
 | none :: r,k,h=>xV (fs:=r) (k:=k + 1) h
 | some x :: r,k,h=>by
   have J:t≠x.1∧t ∉ je r:=by simpa [je] using h
   unfold h1
   cases ay:ls k with
   | false=>exact xV J.2
   | true=>
     have hb:Nat.beq x.1 t=false:=by
      cases hb:Nat.beq x.1 t with
      | false=>rfl
      | true=>exact absurd (eh.1 hb).symm J.1
     simp only [cond_true,look,hb,cond_false]
     exact xV J.2
theorem DR {fs:List (Option (Nat × I))} {j:Nat} {x:Nat × I} (h:fs[j]? =some (some x)):x.1∈je fs:=
 List.mem_filterMap.2 ⟨_,List.mem_of_getElem? h,rfl⟩
theorem Es {ls:Nat→Bool} {E:List (Nat × I)} :∀ {fs:List (Option (Nat × I))} {k j:Nat} {x:Nat × I},(je fs).Nodup→fs[j]? =some (some x)→ls (k + j)=true→look (h1 ls E k fs) x.1=some x.2
 | [],k,j,x,_,h,_=>by simp at h
 | none :: r,k,j,x,aO,h,ao=>by
   cases j with
   | zero=>simp at h
   | succ j=>exact Es (fs:=r) (k:=k + 1) (j:=j) aO (by simpa using h) (by rw [← ao]; congr 1; omega)
 | some y :: r,k,j,x,aO,h,ao=>by
   have oO:y.1 ∉ je r∧ (je r).Nodup:=by simpa [je] using aO
   cases j with
   | zero=>
     have:y=x:=by simpa using h
     subst this
     have ao:ls k=true:=ao
     unfold h1
     simp only [ao,cond_true,look,Nat.beq_refl]
   | succ j=>
     have c0:r[j]? =some (some x):=by simpa using h
     have au:=Es (fs:=r) (k:=k + 1) (E:=E) (ls:=ls) oO.2 c0 (by rw [← ao]; congr 1; omega)
     unfold h1
     cases ay:ls k with
     | false=>exact au
     | true=>
       have hb:Nat.beq y.1 x.1=false:=by
        cases hb:Nat.beq y.1 x.1 with
        | false=>rfl
        | true=>exact absurd (by rw [eh.1 hb]; exact DR c0) oO.1
       simp only [cond_true,look,hb,cond_false]
       exact au
theorem NW {fs:List (Option (Nat × I))} {E:List (Nat × I)} {t:Nat} {τ:I} :∀ {us:List Nat},look (oY fs E us) t=some τ→ (∃ j∈us,fs[j]? =some (some (t,τ)))∨look E t=some τ
 | [],h=> .inr h
 | i :: r,h=>by
   have aR:look (oY fs E r) t=some τ→ (∃ j∈i :: r,fs[j]? =some (some (t,τ)))∨look E t=some τ:=fun h=>by
    rcases NW h with⟨j,J,ad⟩ | J
    ·exact .inl ⟨j,List.mem_cons_of_mem _ J,ad⟩
    ·exact .inr J
   unfold oY at h
   split at h
   ·rename_i x an
    simp only [look] at h
    cases hb:Nat.beq x.1 t with
    | true=>
      rw [hb] at h
      have J:x.2=τ:=by simpa using h
      have ad:=eh.1 hb
      exact .inl ⟨i,by simp,by rw [an,← J,← ad]⟩
    | false=>rw [hb] at h; exact aR h
   ·exact aR h
theorem Yn {fs:List (Option (Nat × I))} {E:List (Nat × I)} {ls:Nat→Bool} {us:List Nat} (aO:(je fs).Nodup) (aB:∀ t∈je fs,look E t=none) (hu:∀ j∈us,ls j=true) {t:Nat} {τ:I} (h:look (oY fs E us) t=some τ):look (h1 ls E 0 fs) t=some τ:=by
 rcases NW h with⟨j,J,ad⟩ | J
 ·exact Es aO ad (by rw [Nat.zero_add]; exact hu j J)
 ·rw [xV fun ad=>by rw [aB t ad] at J; cases J]; exact J
theorem Mz:∀ {E:List (Nat × I)} {t:Nat},(E.map (·.1)).contains t=false→look E t=none
 | [],t,_=>rfl
 | (s,σ) :: r,t,h=>by
   have J: ¬ t=s∧ (r.map (·.1)).contains t=false:=by simpa using h
   have hb:Nat.beq s t=false:=by
    cases hb:Nat.beq s t with
    | false=>rfl
    | true=>exact absurd (eh.1 hb).symm J.1
   simp only [look,hb,cond_false]
   exact Mz J.2
def NX (ops:Array Oper) (n w m2 y2:Nat) (gK:List (Option Nat)) (pw:List (List Nat)) (E:List Nat):Bool:=
 decide (gK.length=n) && decide (n≤ops.size) && decide (w < n) && decide (m2 :: gK.filterMap id).Nodup && ((m2 :: gK.filterMap id).all fun s=> !E.contains s && Nat.blt s y2) &&
 ((List.range n).all fun i=>((ops[i]?).map fun o=>(o.dst ==if i=w then some m2 else(gK[i]?).getD none) && o.guard.isNone && (decide (i=w) || ((gK[i]?).getD none).isSome) && o.after.all fun e=> !Region.binds .any e || decide (e.on < i)).getD false &&
   ((pw[i]?).getD []).all fun k=>decide (k≠w) && Region.waitsFor .any ops i k) &&
 decide ((gK[w]?).getD none=none) &&
 (decide (n=ops.size) || (Region.sinkB .any ops n && Region.chainB .any ops n)) &&
 Region.seqB .any ops (ops.size - n) n ((List.range n).foldl (fun l i=>l.setIfInBounds i true) (Array.replicate ops.size false))
def rU (c:dd) (E:List (Nat × I)) (L:List aM) {γ:Type} (K:γ→Prop) (g8:γ→List aM) (fs:List (Option (Nat × I))):List Oper→List (Option (Nat × I))→List (List Nat)→Prop
 | o :: os,some x :: r,u :: us=>(bS c (oY fs E u) L o x.2∧ ∀ y,K y→bS c (oY fs E u) (g8 y) o x.2)∧rU c E L K g8 fs os r us
 | _ :: os,none :: r,_ :: us=>rU c E L K g8 fs os r us
 | _,_,_=>True
theorem rU.get {γ:Type} {K:γ→Prop} {g8:γ→List aM} {fs:List (Option (Nat × I))} :∀ {os:List Oper} {rs:List (Option (Nat × I))} {us:List (List Nat)},rU c E L K g8 fs os rs us→ ∀ {i:Nat} {o:Oper} {x:Nat × I} {u:List Nat},os[i]? =some o→rs[i]? =some (some x)→us[i]? =some u→
 bS c (oY fs E u) L o x.2∧ ∀ y,K y→bS c (oY fs E u) (g8 y) o x.2
 | o :: os,some x :: r,u :: us,h,0,o',F2,F3,J,ad,aC=>by
   have av:o=o':=by simpa using J
   have aX:x=F2:=by simpa using ad
   have c4:u=F3:=by simpa using aC
   subst av aX c4
   exact h.1
 | o :: os,some x :: r,u :: us,h,i + 1,o',F2,F3,J,ad,aC=>rU.get h.2 (i:=i) (by simpa using J) (by simpa using ad) (by simpa using aC)
 | o :: os,none :: r,u :: us,h,0,o',F2,F3,J,ad,aC=>by simp at ad
 | o :: os,none :: r,u :: us,h,i + 1,o',F2,F3,J,ad,aC=>by
   have h:rU c E L K g8 fs os r us:=h
   exact rU.get h (i:=i) (by simpa using J) (by simpa using ad) (by simpa using aC)
 | [],_,_,_,i,_,_,_,J,_,_=>by simp at J
 | _ :: _,[],_,_,i,_,_,_,_,ad,_=>by simp at ad
 | _ :: _,_ :: _,[],_,i,_,_,_,_,_,aC=>by simp at aC
theorem Wd {oN:Nat} {l:List Oper} (hm:c.P.follows .mixedOrders=true) (n w m2 y2:Nat) {γ:Type} {K:γ→Prop} (fs:List (Option (Nat × I))) (gK:List (Option Nat)) (pw:List (List Nat)) (es:List Nat) (FG:γ→I) (g8:γ→List aM)
 {KE:Oper} {KF:List Nat} (abd:l[w]? =some KE) (abe:pw[w]? =some KF) (JW:c.n=y2) (abf:(fs.map fun x=>x.map (·.1))=gK) (acN:pw.length=n) (qg:E.map (·.1)=es) (hr:NX l.toArray n w m2 y2 gK pw es=true)
 (b3:rU c E L K g8 fs (l.take n) fs pw)
 (hw:∀ (sL:Exit→Act→World→Prop) (E':List (Nat × I)),(∀ {t τ},look (oY fs E KF) t=some τ→look E' t=some τ)→ (∀ y,K y→ae c sL .normal ((m2,FG y) :: E') (g8 y))→ah c l.toArray sL [KE] E' L)
 (bL:∀ y,K y→ah c l.toArray Q (l.drop n) ((m2,FG y) :: h1 (fun _=>true) E 0 fs) (g8 y)):ag c Q (.region oN l.toArray true) E L:=fun a W s=>by
 subst JW abf qg
 refine wpIn_region_any hm ?_
 simp only [NX,Bool.and_eq_true,decide_eq_true_eq,Bool.or_eq_true] at hr
 obtain⟨⟨⟨⟨⟨⟨⟨⟨hlen,aO⟩,abg⟩,gu⟩,Qu⟩,kA⟩,JX⟩,vJ⟩,pW⟩:=hr
 have hlen:fs.length=n:=by simpa using hlen
 have abh:(fs.map fun x=>x.map (·.1)).filterMap id=je fs:=by
  unfold je; rw [List.filterMap_map]; rfl
 rw [abh] at gu Qu
 obtain⟨Qv,gu⟩:=List.nodup_cons.1 gu
 have abi:∀ t,(E.map (·.1)).contains t=false→look E t=none:=fun t h=>Mz h
 have aB:∀ t∈m2 :: je fs,look E t=none∧Nat.blt t c.n=true:=fun t bL=>by
  have:=List.all_eq_true.1 Qu t bL
  simp only [Bool.and_eq_true,Bool.not_eq_true'] at this
  exact⟨abi t this.1,this.2⟩
 have JY:∀ t∈je fs,look E t=none:=fun t bL=>(aB t (List.mem_cons_of_mem _ bL)).1
 have su:∀ i o,i < n→l.toArray[i]? =some o→ (o.dst=if i=w then some m2 else((fs[i]?).getD none).map (·.1))∧o.guard=none∧ (i=w∨ ∃ x,fs[i]? =some (some x))∧ (∀ e∈o.after,Region.binds .any e=true→e.on < i)∧ ∀ k∈ (pw[i]?).getD [],k≠w∧Region.waitsFor .any l.toArray i k=true:=fun i o au bb=>by
  have J:=List.all_eq_true.1 kA i (List.mem_range.2 au)
  simp only [Bool.and_eq_true] at J
  obtain⟨ad,aC⟩:=J
  simp only [bb,Option.map_some,Option.getD_some,Bool.and_eq_true,beq_iff_eq] at ad
  obtain⟨⟨⟨aU,a1⟩,bk⟩,cT⟩:=ad
  have abj:((fs.map fun x=>x.map (·.1))[i]?).getD none=((fs[i]?).getD none).map (·.1):=by
   rw [List.getElem?_map]
   cases fs[i]? with
   | none=>rfl
   | some x=>rfl
  rw [abj] at aU bk
  refine⟨aU,by simpa using a1,?_,fun e he hb=> ?_,fun k ay=> ?_⟩
  ·simp only [Bool.or_eq_true,decide_eq_true_eq] at bk
   rcases bk with bk | bk
   ·exact .inl bk
   ·right
    cases an:fs[i]? with
    | none=>rw [an] at bk; cases bk
    | some x=>
      cases x with
      | none=>rw [an] at bk; cases bk
      | some x=>exact⟨x,rfl⟩
  ·have:=Array.all_eq_true_iff_forall_mem.1 cT e he
   simp [hb] at this
   exact this
  ·have:=List.all_eq_true.1 aC k ay
   simpa using this
 have Z9:fs[w]? =some none:=by
  have J:((fs.map fun x=>x.map (·.1))[w]?).getD none=none:=JX
  rw [List.getElem?_map] at J
  cases an:fs[w]? with
  | none=>have:=List.getElem?_eq_none_iff.1 an; omega
  | some x=>
    cases x with
    | none=>rfl
    | some x=>rw [an] at J; cases J
 let S:Array Bool→Act→World→Prop:=fun a4 a W=>(a4.getD w false=false→bx c (h1 (fun i=>a4.getD i false) E 0 fs) L a W)∧ (a4.getD w false=true→ ∃ y,K y∧bx c ((m2,FG y) :: h1 (fun i=>a4.getD i false) E 0 fs) (g8 y) a W)
 have h:=UW (c:=c) (ops:=l.toArray) (Q:=Q) aO (fun i o au bb=>(su i o au bb).2.2.2.1) vJ pW S ?_ ?_ n (Array.replicate l.toArray.size false) a W.drew (Nat.le_trans (List.length_filter_le _ _) (by simp)) ?_ ?_
 ·rw [show n + (l.toArray.size - n)=l.toArray.size by omega] at h
  exact h
 ·
  intro a4 i o a W inv au bb ir nO wX
  obtain⟨ca,b2,lG,FY,qq⟩:=su i o au bb
  have pY:i < a4.size:=by rw [inv.size]; omega
  have wG:(a4.setIfInBounds i true).getD i false=true:=by simp [pY]
  have fU:∀ j,j≠i→ (a4.setIfInBounds i true).getD j false=a4.getD j false:=fun j aH=>getD_set_ne false (fun e=>aH e.symm)
  have JZ:i < pw.length:=by omega
  have v9:∀ k∈pw[i],a4.getD k false=true:=fun k ay=>by
   have:=qq k (by rw [List.getElem?_eq_getElem JZ]; exact ay)
   obtain⟨kL,hZ,e,he,hb,lD⟩:=Region.waitsFor_spec this.2
   rw [bb] at hZ; cases hZ
   rw [← lD]; exact nO e he hb
  have Qw:l[i]? =some o:=by simpa using bb
  have Je:∀ {t τ},look (oY fs E pw[i]) t=some τ→look (h1 (fun i=>a4.getD i false) E 0 fs) t=some τ:=fun {t τ} h=>Yn gu JY v9 h
  by_cases FH:i=w
  ·subst FH
   rw [if_pos rfl] at ca
   have av:KE=o:=Option.some.inj (abd.symm.trans Qw)
   have aX:KF=pw[i]:=Option.some.inj (abe.symm.trans (List.getElem?_eq_getElem JZ))
   subst av aX
   have Cm:=hw (sO (fun gw W'=>S (a4.setIfInBounds i true) gw W') Q) (h1 (fun i=>a4.getD i false) E 0 fs) Je fun y a5 gw W' st=> ?_
   ·exact Ae bb (Cm a W (wX.1 ir))
   ·refine⟨fun h=>(by rw [wG] at h; cases h),fun _=>⟨y,a5,?_⟩⟩
    have:h1 (fun j=>(a4.setIfInBounds i true).getD j false) E 0 fs=h1 (fun j=>a4.getD j false) E 0 fs:=by
     have key:∀ (gs:List (Option (Nat × I))) (k:Nat),(∀ j,gs[j]? ≠none→gs[j]? =fs[k + j]?)→h1 (fun j=>(a4.setIfInBounds i true).getD j false) E k gs=h1 (fun j=>a4.getD j false) E k gs:=by
      intro gs
      induction gs with
      | nil=>intro k _; rfl
      | cons x r bJ=>
        intro k ay
        have aR:=bJ (k + 1) fun j aH=>by
         have:=ay (j + 1) (by simpa using aH)
         rw [List.getElem?_cons_succ] at this
         rw [this]; congr 1; omega
        cases x with
        | none=>exact aR
        | some x=>
          have bI:=ay 0 (by simp)
          have ps:k≠i:=fun e=>by
           rw [e,Nat.add_zero,Z9] at bI
           simp at bI
          unfold h1
          simp only [fU k ps,aR]
     exact key fs 0 fun j _=>by rw [Nat.zero_add]
    rw [this]; exact st
  ·obtain⟨x,an⟩:=lG.resolve_left FH
   rw [if_neg FH,an] at ca
   have Fx:(a4.setIfInBounds i true).getD w false=a4.getD w false:=fU w fun e=>FH e.symm
   have bs:=rU.get b3 (i:=i) (by rw [List.getElem?_take,if_pos au]; exact Qw) an (List.getElem?_eq_getElem JZ)
   have J0:=DR an
   have acx:∀ (jq:List (Nat × I)),(∀ t τ,look ((x.1,x.2) :: jq) t=some τ→True):=fun _ _ _ _=>trivial
   have Pa:∀ t τ,look (h1 (fun j=>(a4.setIfInBounds i true).getD j false) E 0 fs) t=some τ→look ((x.1,x.2) :: h1 (fun j=>a4.getD j false) E 0 fs) t=some τ:=fun t τ ao=>by
    rcases H6 ao with⟨j,qp,F4⟩ | J
    ·rw [Nat.zero_add] at qp
     by_cases g5:j=i
     ·subst g5
      rw [an] at F4; cases F4
      simp only [look,Nat.beq_refl,cond_true]
     ·rw [fU j g5] at qp
      have ad:=Es (E:=E) (ls:=fun j=>a4.getD j false) (k:=0) gu F4 (by rw [Nat.zero_add]; exact qp)
      cases hb:Nat.beq x.1 t with
      | false=>simp only [look,hb,cond_false]; exact ad
      | true=>
        exfalso
        have av:=eh.1 hb
        have uniq:∀ (gs:List (Option (Nat × I))) (p q:Nat) (u v:Nat × I),(je gs).Nodup→gs[p]? =some (some u)→gs[q]? =some (some v)→u.1=v.1→p=q:=by
         intro gs
         induction gs with
         | nil=>intro p q u v _ hp; simp at hp
         | cons z r bJ=>
           intro p q u v aO hp hq e
           have aR:(je r).Nodup:=by
            cases z with
            | none=>exact aO
            | some z=>exact(show z.1 ∉ je r∧ (je r).Nodup by simpa [je] using aO).2
           cases p with
           | zero=>
             have db:z=some u:=by simpa using hp
             subst db
             cases q with
             | zero=>rfl
             | succ q=>exact absurd (by rw [e]; exact DR (by simpa using hq)) (show u.1 ∉ je r∧ (je r).Nodup by simpa [je] using aO).1
           | succ p=>
             cases q with
             | zero=>
               have db:z=some v:=by simpa using hq
               subst db
               exact absurd (by rw [← e]; exact DR (by simpa using hp)) (show v.1 ∉ je r∧ (je r).Nodup by simpa [je] using aO).1
             | succ q=>rw [bJ p q u v aR (by simpa using hp) (by simpa using hq) e]
        exact g5 (uniq fs j i _ _ gu F4 an av.symm)
    ·have hb:Nat.beq x.1 t=false:=by
      cases hb:Nat.beq x.1 t with
      | false=>rfl
      | true=>
        have av:=eh.1 hb
        rw [← av,JY x.1 J0] at J; cases J
     simp only [look,hb,cond_false]
     rw [xV fun ad=>by rw [JY t ad] at J; cases J]; exact J
   have mx:=(aB x.1 (List.mem_cons_of_mem _ J0)).2
   refine Ae bb ?_
   cases FI:a4.getD w false with
   | false=>
     refine ah.v (τ:=x.2) (d:=x.1) (fun a W st=>bs.1 a W (st.less fun t τ h=>⟨τ,Je h,fun _ _ _ h=>h⟩)) b2 ca mx (ah.nil fun gw W' st=>⟨fun _=>st.less fun t τ h=>⟨τ,Pa t τ h,fun _ _ _ h=>h⟩,fun h=> ?_⟩) a W (wX.1 FI)
     rw [Fx,FI] at h; cases h
   | true=>
     obtain⟨y,a5,JL⟩:=wX.2 FI
     have abk:∀ {t τ},look (oY fs E pw[i]) t=some τ→look ((m2,FG y) :: h1 (fun i=>a4.getD i false) E 0 fs) t=some τ:=fun {t τ} h=>by
      have J:=Je h
      cases hb:Nat.beq m2 t with
      | false=>simp only [look,hb,cond_false]; exact J
      | true=>
        exfalso
        have av:=eh.1 hb
        subst av
        rw [xV Qv,(aB m2 (by simp)).1] at J; cases J
     refine ah.v (τ:=x.2) (d:=x.1) (fun a W st=>bs.2 y a5 a W (st.less fun t τ h=>⟨τ,abk h,fun _ _ _ h=>h⟩)) b2 ca mx (ah.nil fun gw W' st=>⟨fun h=> ?_,fun _=>⟨y,a5,st.less fun t τ h=>⟨τ,?_,fun _ _ _ h=>h⟩⟩⟩) a W JL
     ·rw [Fx,FI] at h; cases h
     ·cases hb:Nat.beq m2 t with
      | true=>
        have av:=eh.1 hb
        subst av
        have lB:Nat.beq x.1 m2=false:=by
         cases lB:Nat.beq x.1 m2 with
         | false=>rfl
         | true=>exact absurd (by rw [← eh.1 lB]; exact J0) Qv
        simp only [look,hb,cond_true] at h ⊢
        simp only [lB,cond_false]; exact h
      | false=>
        simp only [look,hb,cond_false] at h ⊢
        have:=Pa t τ h
        simp only [look] at this
        exact this
 ·intro a4 a W pS wX
  obtain⟨y,a5,st⟩:=wX.2 (pS w abg)
  refine bL y a5 a W (st.less fun t τ h=>⟨τ,?_,fun _ _ _ h=>h⟩)
  have key:∀ (gs:List (Option (Nat × I))) (k:Nat),k + gs.length≤n→h1 (fun j=>a4.getD j false) E k gs=h1 (fun _=>true) E k gs:=by
   intro gs
   induction gs with
   | nil=>intro k _; rfl
   | cons x r bJ=>
     intro k ay
     have aR:=bJ (k + 1) (by simp only [List.length_cons] at ay; omega)
     cases x with
     | none=>exact aR
     | some x=>
       unfold h1
       simp only [pS k (by simp only [List.length_cons] at ay; omega),aR]
  rw [key fs 0 (by omega)]; exact h
 ·exact
  {size:=by simp
   closed:=fun j kL _ ao=>by rw [getD_replicate_false] at ao; cases ao
   tail:=fun t _ bL=>by simp at bL; simp [bL] }
 ·refine⟨fun _=> ?_,fun h=>by rw [getD_replicate_false] at h; cases h⟩
  have key:∀ (gs:List (Option (Nat × I))) (k:Nat),h1 (fun j=>(Array.replicate l.toArray.size false).getD j false) E k gs=E:=by
   intro gs
   induction gs with
   | nil=>intro k; rfl
   | cons x r bJ=>
     intro k
     have aR:=bJ (k + 1)
     cases x with
     | none=>exact aR
     | some x=>
       unfold h1
       simp only [getD_replicate_false,cond_false] at aR ⊢
       exact aR
  show bx c (h1 (fun j=>(Array.replicate l.toArray.size false).getD j false) E 0 fs) L a W.drew
  rw [key]
  exact s.world (Fr.drew W)
end
def q3 {α:Type} (n:Nat) (m:Option (List α)):Option (List α):=m.bind fun y=>if y.length=n then some y else none
theorem Hu {α:Type} {n:Nat} {m:Option (List α)} {y:List α} (h:q3 n m=some y):m=some y:=by
 unfold q3 at h
 cases m with
 | none=>cases h
 | some z=>
   rw [Option.bind_some] at h
   split at h
   ·exact h
   ·cases h
theorem u0 {α:Type} {n:Nat} {m:Option (List α)} {y:List α} (h:q3 n m=some y):y.length=n:=by
 unfold q3 at h
 cases m with
 | none=>cases h
 | some z=>
   rw [Option.bind_some] at h
   split at h
   ·rename_i e; cases h; exact e
   ·cases h
def w1 (n:Nat) (vis:List Nat):Option Nat→Prop
 | none=> ∀ j,j < n→j∈vis
 | some j=>j < n∧j ∉ vis
def ax.next (n:Nat) (vis:List Nat):ax (Option Nat):=fun R=> ∀ j,w1 n vis j→R j
theorem ax.TR {β:Type} {n:Nat} {vis:List Nat} {k:Option Nat→ax β} {R:β→Prop} (h:ax.bind (ax.next n vis) k R) (j:Option Nat) (aH:w1 n vis j):k j R:=h j aH
def lO (es:Array MapEntry) (vis:List Nat):Array Nat:=(vis.filterMap fun j=>(es[j]?).map (·.born)).toArray
def lX (ab7:Nat) (es:Array MapEntry) (clock:Nat) (vis:List Nat):Obj:= .mapIter (some ab7) clock (lO es vis) clock
structure F5 (es:Array MapEntry) (clock n:Nat):Prop where
 size:es.size=n
 born:∀ x∈es.toList,x.born < clock
 nodup:(es.toList.map MapEntry.born).Nodup
def dB.and (cp:dB) (o:Obj):dB where
 holds A W x:=cp.holds A W x∧x=o
 mJ:=cp.mJ
 mono e h:=⟨cp.mono e h.1,h.2⟩
def sg (b:Nat) (o:Obj) (e:aM):aM:=if e.key=some b then⟨e.key,e.cp.and o⟩ else e
def lA (b:Nat) (o:Obj) (L:List aM):List aM:=L.map (sg b o)
theorem UX (b:Nat) (o:Obj) (e:aM):(sg b o e).key=e.key:=by unfold sg; split <;> rfl
theorem H7 {b:Nat} {o:Obj} :∀ {L:List aM},aQ (lA b o L)=aQ L
 | []=>rfl
 | e :: L=>by
   have bJ:=H7 (b:=b) (o:=o) (L:=L)
   show aQ (sg b o e :: lA b o L)=_
   unfold aQ
   rw [UX,bJ]
def I.Qx (b:Bool):I where
 holds _ _ v:= ∃ xs:Array Value,v= .tuple xs∧xs[0]? =some (.bool b)
 mono _ h:=h
section
variable {c:dd} {E:List (Nat × I)} {L:List aM} {ops:Array Oper} {Q:Exit→Act→World→Prop}
variable {d:Option Tmp} {ty:TypeId} {pos:String} {af:Array Edge} {g:Option (Nat × Bool)} {x y z:Operand} {t t2:TypeId}
variable {bU:Type} [eY bU] {hp:aS bU} {loc:List aM}
theorem UB {key:Option Nat} {n m cap:Nat} (aO:n=m) (h:a9 c E L x (.eq (a2 key n cap))):a9 c E L x (.eq (a2 key m cap)):=aO ▸ h
theorem NB {b:Nat} {o:Obj} {α β:Type} [ai α] [ai β] {kv:List (α × β)} {sT:bU} (n:Nat) (al:L.drop n=Gv.lA b o (aV hp)) (hp':pat hp b=some sT) (ay:eY.hB b sT= [⟨some b,.map kv⟩]):(⟨some b,dB.and (.map kv) o⟩:aM)∈L:=by
 have J:(⟨some b,.map kv⟩:aM)∈aV hp:=eM (n:=0) (hp:=hp) rfl hp' ay
 have ad:sg b o ⟨some b,.map kv⟩∈Gv.lA b o (aV hp):=List.mem_map.2 ⟨_,J,rfl⟩
 rw [← al] at ad
 have aC:=List.mem_of_mem_drop ad
 unfold sg at aC
 rw [if_pos rfl] at aC
 exact aC
theorem bx.swap {L':List aM} {a:Act} {W:World} (h:bx c E L a W) (ay:aQ L'=aQ L) (bb:∀ e∈L',e.ok (aQ L ++ c.bT) W):bx c E L' a W:=
 {defers:=h.defers
  size:=h.size
  env:=by rw [ay]; exact h.env
  dG:=h.dG
  own:=by rw [ay]; exact bb
  nodup:=by rw [ay]; exact h.nodup
  lt:=by rw [ay]; exact h.lt
  fR:=by rw [ay]; exact h.fR
  eW:=by rw [ay]; exact h.eW }
theorem bx.lA {a:Act} {W:World} {M:List aM} (h:bx c E (loc ++ M) a W) {b:Nat} {o:Obj} (hb:W.heap[b]? =some o):bx c E (loc ++ Gv.lA b o M) a W:=by
 refine h.swap (by rw [eS,eS,H7]) fun e he=> ?_
 rcases List.mem_append.1 he with he | he
 ·exact h.own e (List.mem_append_left _ he)
 ·obtain⟨iZ,bI,rfl⟩:=List.mem_map.1 he
  have J:=h.own iZ (List.mem_append_right _ bI)
  unfold sg
  split
  ·rename_i ay
   unfold aM.ok at J ⊢
   simp only [ay] at J ⊢
   obtain⟨o',aq,bd⟩:=J
   have:o'=o:=by rw [hb] at aq; exact(Option.some.inj aq).symm
   exact⟨o',aq,bd,this⟩
  ·exact J
theorem bx.vH {a:Act} {W:World} {M:List aM} {b:Nat} {o:Obj} (h:bx c E (loc ++ Gv.lA b o M) a W):bx c E (loc ++ M) a W:=by
 have ay:aQ (loc ++ M)=aQ (loc ++ Gv.lA b o M):=by rw [eS,eS,H7]
 refine h.swap ay fun e he=> ?_
 rcases List.mem_append.1 he with he | he
 ·exact h.own e (List.mem_append_left _ he)
 ·have J:=h.own (sg b o e) (List.mem_append_right _ (List.mem_map.2 ⟨e,he,rfl⟩))
  unfold sg at J
  split at J
  ·rename_i cX
   unfold aM.ok at J ⊢
   simp only [cX] at J ⊢
   obtain⟨o',aq,bd,_⟩:=J
   exact⟨o',aq,bd⟩
  ·exact J
theorem ah.vH {l:List Oper} {b:Nat} {o:Obj} (n:Nat) (al:L.drop n=Gv.lA b o (aV hp)) (k:ah c ops Q l E (L.take n ++ aV hp)):ah c ops Q l E L:=fun a W s=>by
 have e:L=L.take n ++ Gv.lA b o (aV hp):=by rw [← al,List.take_append_drop]
 rw [e] at s
 exact k a W s.vH
theorem ag.vH {z:Code} {b:Nat} {o:Obj} (n:Nat) (al:L.drop n=Gv.lA b o (aV hp)) (k:ag c Q z E (L.take n ++ aV hp)):ag c Q z E L:=fun a W s=>by
 have e:L=L.take n ++ Gv.lA b o (aV hp):=by rw [← al,List.take_append_drop]
 rw [e] at s
 exact k a W s.vH
theorem ae.vH {z:Exit} {b:Nat} {o:Obj} (n:Nat) (al:L.drop n=Gv.lA b o (aV hp)) (k:ae c Q z E (L.take n ++ aV hp)):ae c Q z E L:=fun a W s=>by
 have e:L=L.take n ++ Gv.lA b o (aV hp):=by rw [← al,List.take_append_drop]
 rw [e] at s
 exact k a W s.vH
theorem kk.get {α β:Type} [ai α] [ai β] {A W} :∀ {es:List MapEntry} {kv:List (α × β)},kk A W es kv→ ∀ {j:Nat} {x:α × β},kv[j]? =some x→ ∃ e,es[j]? =some e∧ (I.of x.1).holds A W e.key∧ (I.of x.2).holds A W e.val
 | _,_,.nil,j,x,h=>by simp at h
 | _,_,.cons J ad r,0,x,h=>by
   have h:some _=some x:=h
   cases h
   exact⟨_,rfl,J,ad⟩
 | _,_,.cons J ad r,j + 1,x,h=>by
   obtain⟨e,aq,bd⟩:=r.get (j:=j) (by simpa using h)
   exact⟨e,by simpa using aq,bd⟩
theorem ah.Wa {rest:List Oper} {a7 p key elem:Nat} {α β:Type} [ai α] [ai β] {kv:List (α × β)} {sT:bU} (n:Nat) (al:L.drop n=aV hp) (hu:c.P.underlying t=some (.map key elem)) (an:a9 c E L x (.of (⟨some p⟩:gf))) (hp':pat hp p=some sT) (ay:eY.hB p sT= [⟨some p,.map kv⟩]) (aO:Nat.blt a7 c.n=true)
 (k:∀ r es clock,F5 es clock kv.length→ah c ops Q rest ((a7,.eq (.pointer (some ⟨r,0,none⟩))) :: E) (⟨some r,.is (lX p es clock [])⟩ :: (L.take n ++ Gv.lA p (.map es clock) (aV hp)))):
 ah c ops Q (⟨some a7,.range t x,ty,pos,af,none⟩ :: rest) E L:=fun a W s=>by
 have e:L=L.take n ++ aV hp:=by rw [← al,List.take_append_drop]
 have hm:(⟨some p,.map kv⟩:aM)∈L:=by
  rw [e]
  exact eM (n:=(L.take n).length) (hp:=hp) (by simp) hp' ay
 obtain⟨es,clock,bb,ad,aC,aU⟩:=s.ER hm
 have l0:=ve.1 (an a W s)
 have qg:F5 es clock kv.length:=⟨by have:=ad.length; simpa using this,aC,aU⟩
 refine hy rfl (R:=fun v W'=>v= .pointer (some ⟨W.heap.size,0,none⟩)∧W'=W.alloc (lX p es clock [])) (.kx ?_ ⟨rfl,rfl⟩) fun v W' ⟨a0,hw⟩=> ?_
 ·have bs:(getObj p).run c.P W= .ok (.map es clock) W:=by simp [getObj,Sem.run,bb]
  simp [execOp,Instr.range,Sem.run_bind,run_underlying hu,l0,bs,newObj,Sem.run]
  rfl
 ·subst a0
  subst hw
  have s1:=s.alloc (cp:= .is (lX p es clock [])) (o:=lX p es clock []) rfl
  refine k W.heap.size es clock qg _ _ (bx.put ?_ (by simpa using aO) rfl)
  rw [e] at s1
  have hb:(W.alloc (lX p es clock [])).heap[p]? =some (.map es clock):=by
   have b5:p < W.heap.size:=(Array.getElem?_eq_some_iff.1 bb).1
   show(W.heap.push _)[p]? =_
   rw [Array.getElem?_push_lt b5,← Array.getElem?_eq_getElem b5]
   exact bb
  exact bx.lA (loc:=⟨some W.heap.size,.is (lX p es clock [])⟩ :: L.take n) s1 hb
theorem ah.XN {rest:List Oper} {a7 r p:Nat} {α β:Type} [ai α] [ai β] {kv:List (α × β)} {es:Array MapEntry} {clock:Nat} {vis:List Nat} (i:Nat) (an:a9 c E L x (.eq (.pointer (some ⟨r,0,none⟩)))) (au:L[i]? =some ⟨some r,.is (lX p es clock vis)⟩)
 (hm:(⟨some p,dB.and (.map kv) (.map es clock)⟩:aM)∈L) (he:F5 es clock kv.length) (aO:Nat.blt a7 c.n=true)
 (k:∀ j,w1 kv.length vis j→ah c ops Q rest ((a7,.Qx j.isSome) :: E) (L.set i ⟨some r,.is (lX p es clock (vis ++ j.toList))⟩)):
 ah c ops Q (⟨some a7,.next x false,ty,pos,af,none⟩ :: rest) E L:=fun a W s=>by
 have l0:a.eval x=_:=an a W s
 obtain⟨ca,mq,⟨_,lB⟩⟩:=s.own _ hm
 subst lB
 obtain⟨b2,J1,wL⟩:=s.own _ (List.mem_of_getElem? au)
 have wL:b2=lX p es clock vis:=wL
 subst wL
 have Yo:∀ {j:Nat} {e:MapEntry},es[j]? =some e→ (lO es vis).contains e.born=true→j∈vis:=fun {j e} aH ak=>by
  unfold lO at ak
  simp only [List.contains_toArray,List.contains_iff_mem,List.mem_filterMap] at ak
  obtain⟨v,a0,J⟩:=ak
  cases FJ:es[v]? with
  | none=>rw [FJ] at J; cases J
  | some e'=>
    rw [FJ] at J
    have J:e'.born=e.born:=by simpa using J
    have B5:j < es.toList.length:=by simpa using (Array.getElem?_eq_some_iff.1 aH).1
    have qe:v < es.toList.length:=by simpa using (Array.getElem?_eq_some_iff.1 FJ).1
    have av:(es.toList.map MapEntry.born)[j]? =some e.born:=by simp [aH]
    have aX:(es.toList.map MapEntry.born)[v]? =some e.born:=by simp [FJ,J]
    have:=(List.getElem?_inj (by simpa using B5) he.nodup).1 (av.trans aX.symm)
    rw [this]; exact a0
 rcases run_next_at (P:=c.P) W ty r p clock clock (lO es vis) es clock J1 mq he.born (Nat.le_refl _) with⟨bI,h5⟩ | ⟨e,Cg,QX,yH,h5⟩
 ·
  have k6:w1 kv.length vis none:=fun j aH=>by
   have wM:j < es.size:=by rw [he.size]; exact aH
   false_or_by_contra
   rename_i e8
   have:es[j]∈ (leftOf es (lO es vis)).toList:=by
    unfold leftOf
    simp only [Array.toList_filter,List.mem_filter]
    refine⟨by simp,?_⟩
    cases ak:(lO es vis).contains es[j].born with
    | false=>rfl
    | true=>exact absurd (Yo (by simp [wM]) ak) e8
   have db:(leftOf es (lO es vis)).toList= []:=by
    apply List.eq_nil_of_length_eq_zero; simpa using bI
   rw [db] at this; cases this
  refine hy rfl (R:=fun v W'=>v= .tuple #[.bool false]∧W'=W) (.kx (v:= .tuple #[.bool false]) ?_ ⟨rfl,rfl⟩) fun v W' ⟨a0,hw⟩=> ?_
  ·simp only [execOp,l0,Sem.run_bind,h5,Result.andThen_ok]; rfl
  ·subst a0 hw
   have ay:=k none k6
   have kd:L.set i ⟨some r,.is (lX p es clock (vis ++ Option.toList none))⟩=L:=by
    apply List.ext_getElem?
    intro q
    rw [List.getElem?_set]
    split
    ·rename_i hq
     subst hq
     rw [if_pos (List.getElem?_eq_some_iff.1 au).1,au]
     simp
    ·rfl
   rw [kd] at ay
   exact ay _ _ (bx.put s (by simpa using aO) ⟨_,rfl,rfl⟩)
 ·have PV:e∈es.toList∧ (lO es vis).contains e.born=false:=by
   unfold leftOf at Cg
   simp only [Array.toList_filter,List.mem_filter,Bool.not_eq_true'] at Cg
   exact Cg
  obtain⟨j,aH⟩:=List.mem_iff_getElem?.1 PV.1
  have wM:es[j]? =some e:=by simpa using aH
  have B5:j < kv.length:=by rw [← he.size]; exact(Array.getElem?_eq_some_iff.1 wM).1
  have k6:w1 kv.length vis (some j):=⟨B5,fun a0=>by
   have:(lO es vis).contains e.born=true:=by
    unfold lO
    simp only [List.contains_toArray,List.contains_iff_mem,List.mem_filterMap]
    exact⟨j,a0,by rw [wM]; rfl⟩
   rw [PV.2] at this; cases this⟩
  have IN:(lO es vis).push e.born=lO es (vis ++ [j]):=by
   unfold lO
   rw [List.filterMap_append]
   simp [wM]
  rw [IN] at h5
  refine hy rfl (R:=fun v W'=>v= .tuple #[.bool true,e.key,e.val]∧W'=QX.putObj r (lX p es clock (vis ++ [j]))) (.kx (v:= .tuple #[.bool true,e.key,e.val]) ?_ ⟨rfl,rfl⟩) fun v W' ⟨a0,hw⟩=> ?_
  ·simp only [execOp,l0,Sem.run_bind,h5,Result.andThen_ok]; rfl
  ·subst a0 hw
   have s1:bx c E L a QX:=by
    rcases yH with rfl | rfl
    ·exact s
    ·exact s.world (Fr.drew W)
   exact k (some j) k6 _ _ (bx.put (s1.p0 au (cp':= .is (lX p es clock (vis ++ [j]))) (o':=lX p es clock (vis ++ [j])) rfl) (by simpa using aO) ⟨_,rfl,rfl⟩)
theorem Wb {b:Bool} (an:a9 c E L x (.Qx b)):bS c E L ⟨d,.extract x 0,ty,pos,af,g⟩ (.of b):= .pure fun a W s=>by
 obtain⟨xs,J,ad⟩:=an a W s
 refine⟨.bool b,?_,of_bool.2 rfl⟩
 simp [execOp,Instr.extract,J,ad]
theorem UG {r p:Nat} {α β:Type} [ai α] [ai β] [Inhabited α] [Inhabited β] {kv:List (α × β)} {es:Array MapEntry} {clock:Nat} {vis:List Nat} {j:Option Nat} {q:Nat} (i:Nat) (an:a9 c E L x (.eq (.pointer (some ⟨r,0,none⟩)))) (au:L[i]? =some ⟨some r,.is (lX p es clock (vis ++ j.toList))⟩)
 (hm:(⟨some p,dB.and (.map kv) (.map es clock)⟩:aM)∈L) (he:F5 es clock kv.length) (aH:w1 kv.length vis j) (hq:j=some q):
 bS c E L ⟨d,.entry x,ty,pos,af,g⟩ (.ed [.of (aE kv q).1,.of (aE kv q).2]):= .pure fun a W s=>by
 subst hq
 have l0:a.eval x=_:=an a W s
 obtain⟨ca,mq,⟨l1,vp,p8,ad,aC,aU⟩,lB⟩:=s.own _ hm
 subst lB
 cases p8
 obtain⟨b2,J1,wL⟩:=s.own _ (List.mem_of_getElem? au)
 have wL:b2=lX p es clock (vis ++ [q]):=wL
 subst wL
 have Fv:q < kv.length:=aH.1
 obtain⟨e,aq,bd,bN⟩:=ad.get (j:=q) (x:=aE kv q) (by rw [ew _ Fv]; exact List.getElem?_eq_getElem Fv)
 have wM:es[q]? =some e:=by simpa using aq
 have IN:lO es (vis ++ [q])=(lO es vis).push e.born:=by
  unfold lO
  rw [List.filterMap_append]
  simp [wM]
 have J2:W.heap[r]? =some (.mapIter (some p) clock ((lO es vis).push e.born) clock):=by rw [← IN]; exact J1
 have h5:=run_entry_at (P:=c.P) W r p clock (lO es vis) es clock e J2 mq (List.mem_of_getElem? aq) he.nodup
 refine⟨.tuple #[e.key,e.val],?_,_,rfl,.cons bd (.cons bN .nil)⟩
 simp only [execOp,l0,Sem.run_bind,h5,Result.andThen_ok]
 rfl
end
end Gv
