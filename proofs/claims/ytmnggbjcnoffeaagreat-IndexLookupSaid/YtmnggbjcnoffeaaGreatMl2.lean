/-
  The library of the decompiler, as far as it is needed here. Conditions: none.
-/
import Derived.Test.YtmnggbjcnoffeaaGreatMl1
namespace Gv
open Go
set_option linter.unusedVariables false
set_option linter.unusedSimpArgs false
def Ce (P:Program) (u:Value) {α σ ε γ:Type} (τ:α→I) (Ls:σ→γ→List aL) (Lx:ε→γ→List aL) (step:α→σ→aC (σ ⊕ ε)) (WL:List Nat→World→Prop):Prop:=
 ∃ l,u= .func (.yield l) #[] #[]∧ ∀ x s R,step x s R→ ∀ g A W v,WL (aN (Ls s g) ++ A) W→vN A W (Ls s g)→ (τ x).holds (aN (Ls s g) ++ A) W v→
   YieldAt Fence.wide 8 P l #[v] W (fun e W'=>(∃ bZ,R (.inl bZ)∧jh (aN (Ls s g)) A W (fun _:γ=>I.of true) (fun g=>Ls bZ g) e W')∨ ∃ q,R (.inr q)∧jh (aN (Ls s g)) A W (fun _:γ=>I.of false) (fun g=>Lx q g) e W')
structure x5 (P:Program) (f:FuncId) (τs:List I) {bU:Type} [e9 bU] {α:Type} (τ:α→I) (run:∀ {σ ε:Type},(σ→a1 bU)→ (α→σ→aC (σ ⊕ ε))→σ→aC (σ ⊕ ε)):Prop where
 go:∀ {σ ε γ:Type} (Ls:σ→γ→List aL) (Lx:ε→γ→List aL) (hq:σ→a1 bU) (iY:σ→γ→List aL),(∀ s g,Ls s g=iY s g ++ a3 (hq s))→ ∀ (step:α→σ→aC (σ ⊕ ε)) (b1:σ) (g0:γ) (R:σ ⊕ ε→Prop),run hq step b1 R→
  ∀ (A:List Nat) (W:World) (u:Value) (vs:List Value),vN A W (Ls b1 g0)→fV (aN (Ls b1 g0) ++ A) W τs vs→
    Ce P u τ Ls Lx step (fun cQ W'=>Ext (aN (Ls b1 g0) ++ A) W cQ W')→
    Calls P f (u :: vs).toArray W (jh (aN (Ls b1 g0)) A W (δ:= {r // R r} × γ) (fun _=> .cG []) (fun d=>Lr Ls Lx d.1.1 d.2))
theorem x5.of {P:Program} {f:FuncId} {fn:Func} {code:Code} {n:Nat} {τs:List I} {bU:Type} [e9 bU] {α:Type} {τ:α→I} {run:∀ {σ ε:Type},(σ→a1 bU)→ (α→σ→aC (σ ⊕ ε))→σ→aC (σ ⊕ ε)}
 (ba:P.funcs[f]? =some fn) (hb:fn.body=some code) (aP:fn.ntmps=n) (hlen:Nat.ble (τs.length + 1) n=true)
 (h:∀ {σ ε γ:Type} (Ls:σ→γ→List aL) (Lx:ε→γ→List aL) (hq:σ→a1 bU) (iY:σ→γ→List aL),(∀ s g,Ls s g=iY s g ++ a3 (hq s))→ ∀ (step:α→σ→aC (σ ⊕ ε)) (b1:σ) (g0:γ) (R:σ ⊕ ε→Prop),run hq step b1 R→
  ∀ W A u,Ce P u τ Ls Lx step (fun cQ W'=>Ext (aN (Ls b1 g0) ++ A) W cQ W')→
    ag ⟨P,n,W,aN (Ls b1 g0),A,none,[]⟩ (bodyPost P fn (jh (aN (Ls b1 g0)) A W (δ:= {r // R r} × γ) (fun _=> .cG []) (fun d=>Lr Ls Lx d.1.1 d.2))) code (params 0 (.eq u :: τs)) (Ls b1 g0)):x5 P f τs τ run:=by
 refine⟨?_⟩
 intro σ ε γ Ls Lx hq iY l8 step b1 g0 R aU A W u vs an a2 a9
 refine calls_of_wp ba hb (wpIn_wide.1 (h Ls Lx hq iY l8 step b1 g0 R aU W A u a9 _ _ ?_))
 have lG:fV (aN (Ls b1 g0) ++ A) W (.eq u :: τs) (u :: vs):= .cons rfl a2
 have kM:=lG.length
 have hle:τs.length + 1≤n:=Nat.le_of_ble_eq_true hlen
 exact
 {defers:=rfl
  size:=by simp at kM; simp [aP,kM]; omega
  env:=fun t τ eC=>by
   obtain⟨_,v,ae,aD⟩:=sm lG 0 t τ eC
   refine⟨v,?_,aD⟩
   have cl:t < (u :: vs).length:=(List.getElem?_eq_some_iff.1 ae).1
   rw [Array.getElem?_append_left (by simpa using cl)]
   simpa using ae
  dm:= .refl _ _
  own:=an.ok
  nodup:=an.nodup
  lt:=an.lt
  fI:=fun k ax _=>ax
  eB:=an.eB }
section
variable {c:cY} {E:List (Nat × I)} {L:List aL} {ops:Array Oper} {Q:Exit→Act→World→Prop}
variable {d:Option Tmp} {ty:TypeId} {pos:String} {af:Array Edge} {g:Option (Nat × Bool)} {x y:Operand} {t t2:TypeId}
theorem KU {bU:Type} [e9 bU] {σ γ:Type} {Ls iY:σ→γ→List aL} {hq:σ→a1 bU} {s:σ} {g:γ} {p:Nat} {k:bU} {e:aL} (n:Nat) (ao:L.drop n=Ls s g) (l8:∀ s g,Ls s g=iY s g ++ a3 (hq s)) (h:pat (hq s) p=some k) (ax:e9.hT p k= [e]):e∈L:=by
 obtain⟨R,aa,_⟩:=uT h
 rw [ax] at aa
 have:e∈L.drop n:=by rw [ao,l8]; exact List.mem_append.2 (.inr (aa.mem_iff.2 (by simp)))
 exact List.mem_of_mem_drop this
theorem ai.RJ {rest:List Oper} {a4 kd:Nat} {ats:Array TypeId} {u:Value} {α σ ε γ:Type} {τ:α→I} {Ls:σ→γ→List aL} {Lx:ε→γ→List aL} {step:α→σ→aC (σ ⊕ ε)} {Lin:List aL} {x:Operand} {v:α} {s:σ} {gg:γ} {R:σ ⊕ ε→Prop}
 (ar:c.rd=none) (a9:Ce c.P u τ Ls Lx step (fun cQ W'=>Ext (c.X ++ c.bP) c.hY cQ W')) (ba:look E kd=some (.eq u)) (aq:a7 c E (Lin ++ Ls s gg) x (τ v)) (aU:step v s R) (aP:Nat.blt a4 c.n=true)
 (aW:∀ bZ,R (.inl bZ)→ ∀ e8,ai c ops Q rest ((a4,.of true) :: E) (Lin ++ Ls bZ e8)) (bR:∀ q,R (.inr q)→ ∀ e8,ai c ops Q rest ((a4,.of false) :: E) (Lin ++ Lx q e8)):
 ai c ops Q (⟨some a4,.call ⟨.value (.tmp kd),#[x],ats⟩,ty,pos,af,none⟩ :: rest) E (Lin ++ Ls s gg):=fun a W st=>by
 obtain⟨l,rfl,a9⟩:=a9
 obtain⟨Hc,aa,ae⟩:=st.env kd _ ba
 have hu:Hc= .func (.yield l) #[] #[]:=ae
 subst hu
 have oJ:bC c E (Ls s gg ++ Lin) a W:=st.perm List.perm_append_comm
 have a2:=aq a W st
 have lG:(τ v).holds (aN (Ls s gg) ++ (aN Lin ++ c.bP)) W (a.eval x):=(τ v).mono (.drop fun k hm=>by
  rw [eH]
  simp only [List.mem_append] at hm ⊢
  rcases hm with hm | hm | hm
  ·exact .inl (.inr hm)
  ·exact .inl (.inl hm)
  ·exact .inr hm) a2
 obtain⟨fn,tmps,assign,body,kk,iv⟩:=a9 v s R aU gg (aN Lin ++ c.bP) W (a.eval x) (oJ.Lk.trans xZ) oJ.Cd lG
 have Fi:(execOp a.eval ⟨some a4,.call ⟨.value (.tmp kd),#[x],ats⟩,ty,pos,af,none⟩).run c.P W= .ok (.round l fn tmps assign body) W:=by
  rw [← kk]
  simp [execOp,resolve,Deferred.ofValue,Act.eval,aa,invoke,Sem.run_bind,Sem.run_pure,Result.andThen]
 refine wpListIn_plain rfl fun K tS=> ?_
 refine⟨fun _ _=>trivial,?_⟩
 rw [Oper.semAt_eq _ _ _ (fun _ h=>by cases h),Fi,Oper.uponIn_round]
 refine⟨fun h=>by simp at h,?_⟩
 have Gn:RoundIn c.F (9 - 1) c.P l fn tmps assign body W _:=iv
 refine Gn.mono fun e W' he=> ?_
 rcases he with⟨bZ,hs,w,e8,rfl,oL,aD,aZ,a6,bl⟩ | ⟨q,hs,w,e8,rfl,oL,aD,aZ,a6,bl⟩
 ·obtain rfl:=of_bool.1 bl
  refine tS _ _ (aW bZ hs e8 _ _ ?_)
  exact(((oJ.after oL aD aZ a6).perm List.perm_append_comm).put (by simpa using aP) (of_bool.2 rfl))
 ·obtain rfl:=of_bool.1 bl
  refine tS _ _ (bR q hs e8 _ _ ?_)
  exact(((oJ.after oL aD aZ a6).perm List.perm_append_comm).put (by simpa using aP) (of_bool.2 rfl))
def MJ {σ ε γ:Type} (c:cY) (eD:ε→Code) (l D:Nat) (rec:Loop) (Ls:σ→γ→List aL) (Lx:ε→γ→List aL) (R:σ ⊕ ε→Prop):Exit→Act→World→Prop:=fun x a W=>
 (∃ bZ,R (.inl bZ)∧x= .normal∧ ∃ g,bC c [] (⟨some l,.is (.loop rec)⟩ :: ⟨some D,.db⟩ :: Ls bZ g) a W)∨
 ∃ q,R (.inr q)∧sK (eD q)=true∧x=yl (eD q)∧ ∃ g,bC c [] (⟨some l,.is (.loop rec)⟩ :: ⟨some D,.db⟩ :: Lx q g) a W
theorem ab.Uz {σ ε γ:Type} {eD:ε→Code} {l D:Nat} {rec:Loop} {Ls:σ→γ→List aL} {Lx:ε→γ→List aL} {R:σ ⊕ ε→Prop} {bZ:σ} (iv:R (.inl bZ)) (g:γ) (n:Nat) (ao:L.drop n=⟨some l,.is (.loop rec)⟩ :: ⟨some D,.db⟩ :: Ls bZ g):
 ab c (MJ c eD l D rec Ls Lx R) .normal E L:=fun a W s=> .inl ⟨bZ,iv,rfl,g,by rw [← ao]; exact(s.nn n).less (fun t τ h=>by simp [look] at h)⟩
theorem PT {gt p:Nat} {assign body:Code} {f:FuncId} {lA:List I} {bU:Type} [e9 bU] {α σ ε γ ρ:Type} {τ:α→I} {run:∀ {σ ε:Type},(σ→a1 bU)→ (α→σ→aC (σ ⊕ ε))→σ→aC (σ ⊕ ε)}
 {Ls:σ→γ→List aL} {Lx:ε→γ→List aL} {hq:σ→a1 bU} {step:α→σ→aC (σ ⊕ ε)} {b1:σ} {g0:γ} {k:σ ⊕ ε→aC ρ} {mi:ρ→Prop} (iY:σ→γ→List aL) (eD:ε→Code)
 (ar:c.rd=none) (dS:bM c.P f) (bx:look E gt=some (.gE f lA)) (j9:x5 c.P f lA τ run) (aU:aC.bind (run hq step b1) k mi) (l8:∀ s g,Ls s g=iY s g ++ a3 (hq s)) (ao:L=Ls b1 g0) (hp:Nat.blt p c.n=true)
 (nI:∀ x s R,step x s R→ ∀ g (kp:World) (kz kq:List Nat) (l D:Nat) (rec:Loop),rec.state= .ready→
  ag ⟨c.P,c.n,kp,kz,kq,some l,[]⟩ (Exit.then (Ag ⟨c.P,c.n,kp,kz,kq,some l,[]⟩ l body (MJ ⟨c.P,c.n,kp,kz,kq,some l,[]⟩ eD l D { rec with state:= .busy } Ls Lx R)) (fun _ _ _=>False)) assign ((p,τ x) :: E) (⟨some l,.is (.loop rec)⟩ :: ⟨some D,.db⟩ :: Ls s g))
 (pe:∀ bZ,k (.inl bZ) mi→ ∀ g D,ab { c with ds:=D :: c.ds } Q .normal E (⟨some D,.db⟩ :: Ls bZ g))
 (sV:∀ q,k (.inr q) mi→ ∀ g D,ag { c with ds:=D :: c.ds } Q (eD q) E (⟨some D,.db⟩ :: Lx q g)):
 ag c Q (.rangeFunc (.tmp gt) #[p] assign body) E L:=fun a W st=>by
 subst ao
 refine wpIn_rangeFunc fun fn V2=> ?_
 show ∃ l mark U8 d TD wq args U9,(Instr.enterLoop fn a.tmps #[p] assign body c.rd).run c.P W=_∧_
 rw [ar]
 obtain⟨rec,jD⟩:∃ rec:Loop,rec= { state:= .ready,pending:=none,fn,tmps:=a.tmps,params:= #[p],assign,body,defers:=W.heap.size } :=⟨_,rfl⟩
 obtain⟨v,zO,hh,tL,V3⟩:=st.env gt _ bx
 obtain⟨g6,zP⟩:∃ g6,(W.alloc (.deferred (some []))).alloc (.loop rec)=g6:=⟨_,rfl⟩
 have s1:=(st.alloc (o:= .deferred (some [])) (cp:= .db) rfl).alloc (o:= .loop rec) (cp:= .is (.loop rec)) rfl
 rw [zP,World.size_alloc] at s1
 obtain⟨D,ka⟩:∃ D,D=W.heap.size:=⟨_,rfl⟩
 obtain⟨l,an⟩:∃ l,l=W.heap.size + 1:=⟨_,rfl⟩
 have zQ:=run_enterLoop_outer (P:=c.P) (w:=W) fn a.tmps #[p] assign body
 rw [← jD,zP,← an,← ka] at zQ
 rw [← an,← ka] at s1
 obtain⟨ku,oM⟩:∃ ku:σ→γ→List aL,ku=fun s g=>⟨some l,.is (.loop rec)⟩ :: ⟨some D,.db⟩ :: Ls s g:=⟨_,rfl⟩
 obtain⟨lH,zR⟩:∃ lH:ε→γ→List aL,lH=fun q g=>⟨some l,.is (.loop { rec with state:= .done,pending:=some (eD q) })⟩ :: ⟨some D,.db⟩ :: Lx q g:=⟨_,rfl⟩
 have s2:bC c E (ku b1 g0) a g6:=by rw [oM]; exact s1
 have Gq:fV (aN (ku b1 g0) ++ c.bP) g6 lA hh:=by
  have aa:(I.gE f lA).holds (aN (ku b1 g0) ++ c.bP) g6 v:=by
   obtain⟨tU,aa,ae⟩:=s2.env gt _ bx
   rw [zO] at aa
   cases aa
   exact ae
  obtain⟨Gr,av,aX⟩:=aa
  rw [tL] at av
  have:Gr=hh:=by injection av with _ _ av; injection av with av; exact av.symm
  rw [← this]; exact aX
 have zS:bC c E ((ku b1 g0) ++ []) a g6:=by rw [List.append_nil]; exact s2
 have yS:=zS.Cd
 simp only [aN,List.nil_append] at yS
 have FJ:Ce c.P (.func (.yield l) #[] #[]) τ ku lH step (fun cQ W'=>Ext (aN (ku b1 g0) ++ c.bP) g6 cQ W'):=by
  refine⟨l,rfl,fun x s CW hs g A m0 v2 gC hle a2=> ?_⟩
  have zo:=hle
  rw [oM] at zo
  obtain⟨o,eA,fQ⟩:=zo.ok ⟨some l,.is (.loop rec)⟩ (by simp)
  have ow:o= .loop rec:=fQ
  subst ow
  have a9:=run_yield (P:=c.P) (args:= #[v2]) eA (by rw [jD]; rfl)
  refine⟨_,_,_,_,a9,roundIn_of_wpIn trivial ?_⟩
  have av:rec.assign=assign:=by rw [jD]
  have aX:rec.body=body:=by rw [jD]
  have dk:rec.params= #[p]:=by rw [jD]
  have gz:rec.tmps=a.tmps:=by rw [jD]
  rw [av,aX,dk,gz]
  refine Bc (n:=9) rfl ?_
  have Fj:((#[p]:Array Tmp).zip #[v2]).foldl (fun tmps (t,a)=>tmps.setIfInBounds t a) a.tmps=a.tmps.setIfInBounds p v2:=by simp
  rw [Fj]
  subst oM zR
  refine wpIn_mono ((nI x s CW hs g m0 (aN (⟨some l,.is (.loop rec)⟩ :: ⟨some D,.db⟩ :: Ls s g)) A l D rec (by rw [jD])) { tmps:=a.tmps.setIfInBounds p v2,defers:= [] } m0 ?_) ?_
  ·have lI:p < c.n:=by simpa using hp
   exact
   {defers:=rfl
    size:=by simp [s2.size]
    env:=fun t lD eC=>by
     simp only [look] at eC
     by_cases e:Nat.beq p t=true
     ·rw [e] at eC
      simp only [cond_true,Option.some.injEq] at eC
      subst eC
      have:=eO.1 e
      subst this
      exact⟨v2,by simp [s2.size,lI],a2⟩
     ·simp only [Bool.not_eq_true] at e
      rw [e] at eC
      simp only [cond_false] at eC
      obtain⟨u,aa,ae⟩:=s2.env t lD eC
      have dn:p≠t:=fun h=>by rw [eO.2 h] at e; cases e
      exact⟨u,by rw [Array.getElem?_setIfInBounds_ne dn]; exact aa,lD.mono gC ae⟩
    dm:= .refl _ _
    own:=hle.ok
    nodup:=hle.nodup
    lt:=hle.lt
    fI:=fun k ax _=>ax
    eB:=hle.eB }
  ·intro e jq WI hq
   cases e with
   | normal=>
     obtain⟨Hd,Gs,hb⟩:=hq
     refine⟨Hd,Gs,Bc (n:=9) rfl (wpIn_mono hb ?_)⟩
     intro e qL Ah CA
     have fin:∀ (jump:Option Code) {Lr:List aL},bC ⟨c.P,c.n,m0,aN (⟨some l,.is (.loop rec)⟩ :: ⟨some D,.db⟩ :: Ls s g),A,some l,[]⟩ [] (⟨some l,.is (.loop { rec with state:= .busy })⟩ :: ⟨some D,.db⟩ :: Lr) qL Ah→
      ∃ nw,(Instr.endRound l jump).run c.P Ah= .ok (.bool jump.isNone) nw∧bC ⟨c.P,c.n,m0,aN (⟨some l,.is (.loop rec)⟩ :: ⟨some D,.db⟩ :: Ls s g),A,some l,[]⟩ [] (⟨some l,.is (.loop { rec with state:=if jump.isNone then .ready else .done,pending:=jump })⟩ :: ⟨some D,.db⟩ :: Lr) qL nw:=fun jump Lr hf=>by
      obtain⟨o,aa,ae⟩:=hf.own ⟨some l,.is (.loop { rec with state:= .busy })⟩ (by simp)
      have la:o= .loop { rec with state:= .busy } :=ae
      subst la
      exact⟨_,run_endRound jump aa,hf.qf (i:=0) rfl rfl⟩
     rcases CA with⟨bZ,eZ,rfl,e8,hf⟩ | ⟨q,eZ,aG,rfl,e8,hf⟩
     ·obtain⟨nw,bl,hX⟩:=fin none hf
      refine⟨_,nw,bl,.inl ⟨bZ,eZ,?_⟩⟩
      have Gt:({ rec with state:=if (none:Option Code).isNone then .ready else .done,pending:=none } :Loop)=rec:=by rw [jD]; rfl
      rw [Gt] at hX
      exact hX.ends (ρ:=fun _:γ=>I.of true) (Lo:=fun g=>⟨some l,.is (.loop rec)⟩ :: ⟨some D,.db⟩ :: Ls bZ g) e8 (List.Sublist.refl _) (of_bool.2 rfl)
     ·obtain⟨nw,bl,hX⟩:=fin (some (eD q)) hf
      have key:jh (aN (⟨some l,.is (.loop rec)⟩ :: ⟨some D,.db⟩ :: Ls s g)) A m0 (fun _:γ=>I.of false) (fun g=>⟨some l,.is (.loop { rec with state:= .done,pending:=some (eD q) })⟩ :: ⟨some D,.db⟩ :: Lx q g) (.returned (.bool false)) nw:=
       hX.ends (ρ:=fun _:γ=>I.of false) (Lo:=fun g=>⟨some l,.is (.loop { rec with state:= .done,pending:=some (eD q) })⟩ :: ⟨some D,.db⟩ :: Lx q g) e8 (List.Sublist.refl _) (of_bool.2 rfl)
      exact HT aG bl (.inr ⟨q,eZ,key⟩)
   | exit id=>exact hq.elim
   | goto t=>exact hq.elim
   | ret=>exact hq.elim
   | panic GZ=>exact hq.elim
   | outgrown=>exact hq.elim
 have yT:=j9.go ku lH hq (fun s g=>⟨some l,.is (.loop rec)⟩ :: ⟨some D,.db⟩ :: iY s g) (fun s g=>by rw [oM]; simp only [l8,List.cons_append]) step b1 g0 (fun r=>k r mi) aU c.bP g6 (.func (.yield l) #[] #[]) hh yS Gq FJ
 have lb:a.eval (.tmp gt)= .func (.func f) #[] hh.toArray:=by simp [Act.eval,zO,tL]
 refine⟨l,[B5 D],g6,{ target:= .fn (.func f) hh.toArray,args:= #[.func (.yield l) #[] #[]] },g6,f,#[.func (.yield l) #[] #[]] ++ hh.toArray,g6,zQ,?_,fun _ _=>trivial,?_,fun h=>by simp at h,?_⟩
 ·simp only [resolve,lb]
  simp [go_sem]
 ·simp [invoke,go_sem,dS.run]
 ·refine CallsIn.Ei ?_
  have Fk:(#[.func (.yield l) #[] #[]] ++ hh.toArray:Array Value)=(.func (.yield l) #[] #[] :: hh).toArray:=by simp
  rw [Fk]
  refine yT.mono fun e He ⟨WJ,⟨⟨r,MK⟩,e8⟩,he,ba,aD,aZ,a6,bl⟩=> ?_
  subst he
  have nx:=zS.after ba aD (by simpa [aN] using aZ) (by simpa [aN] using a6)
  rw [List.append_nil] at nx
  cases r with
  | inl bZ=>
    simp only [Lr] at nx
    subst oM
    obtain⟨o,eA,fQ⟩:=nx.own ⟨some l,.is (.loop rec)⟩ (by simp)
    have ow:o= .loop rec:=fQ
    subst ow
    have mR:=run_endLoop (P:=c.P) eA (by rw [jD]; simp)
    have lI:rec.pending=none:=by rw [jD]
    rw [lI] at mR
    refine⟨none,_,mR,?_⟩
    have qM:=(nx.qf (i:=0) (cp':= .is (.loop { rec with state:= .exhausted })) (o':= .loop { rec with state:= .exhausted }) rfl rfl).nn 1
    rw [lI] at qM
    exact pe bZ MK e8 D _ _ (qM.mark D)
  | inr q=>
    simp only [Lr] at nx
    subst zR
    obtain⟨o,eA,fQ⟩:=nx.own ⟨some l,.is (.loop { rec with state:= .done,pending:=some (eD q) })⟩ (by simp)
    have ow:o= .loop { rec with state:= .done,pending:=some (eD q) } :=fQ
    subst ow
    have mR:=run_endLoop (P:=c.P) eA (by simp)
    refine⟨some (eD q),_,mR,?_⟩
    have qM:=(nx.qf (i:=0) (cp':= .is (.loop { rec with state:= .exhausted,pending:=some (eD q) })) (o':= .loop { rec with state:= .exhausted,pending:=some (eD q) }) rfl rfl).nn 1
    exact sV q MK e8 D _ _ (qM.mark D)
end
end Gv
namespace Gv
open Go
set_option linter.unusedVariables false
set_option linter.unusedSimpArgs false
def aC.any (α:Type):aC α:=fun Q=> ∀ x,Q x
theorem aC.any_bind {α β:Type} {k:α→aC β} {R:β→Prop} (h:aC.bind (aC.any α) k R) (x:α):k x R:=h x
theorem fV.append {A:List Nat} {W:World} :∀ {τs σs:List I} {vs us:List Value},fV A W τs vs→fV A W σs us→fV A W (τs ++ σs) (vs ++ us)
 | _,_,_,_,.nil,h=>h
 | _,_,_,_,.cons h r,ae=> .cons h (r.append ae)
section
variable {c:cY} {E:List (Nat × I)} {L:List aL} {ops:Array Oper} {Q:Exit→Act→World→Prop}
variable {d:Option Tmp} {ty:TypeId} {pos:String} {af:Array Edge} {g:Option (Nat × Bool)} {x y:Operand} {t t2:TypeId}
def eR (c:cY) (E:List (Nat × I)) (L:List aL) (o:Oper) {δ:Type} (ρ:δ→I) (L':δ→List aL):Prop:=
 ∀ a W,bC c E L a W→gh c.P o a W fun v W'=> ∃ q,bC c E (L' q) a W'∧ (ρ q).holds (aN (L' q) ++ c.bP) W' v
theorem ai.CS {o:Oper} {rest:List Oper} {a4:Nat} {δ:Type} {ρ:δ→I} {L':δ→List aL} (h:eR c E L o ρ L') (bx:o.guard=none) (hd:o.dst=some a4) (aP:Nat.blt a4 c.n=true)
 (k:∀ q,ai c ops Q rest ((a4,ρ q) :: E) (L' q)):ai c ops Q (o :: rest) E L:=fun a W s=>
 hI bx (h a W s) fun v W' ⟨q,f,a2⟩=>by
  rw [hd]
  exact k q _ _ (f.put (by simpa using aP) a2)
theorem ai.Nc {o:Oper} {rest:List Oper} {a4 j gs:Nat} {b want:Bool} {δ β:Type} {σ:β→I} {L2:β→List aL} {K:β→Prop} {val:δ→β} {ρ:δ→I} {L':δ→List aL} (bx:o.guard=some (j,want)) (aG:(ops[j]?).bind (·.dst)=some gs)
 (an:look E gs=some (.of b)) (hd:o.dst=some a4) (aP:Nat.blt a4 c.n=true) (h:b=want→eR c E L o ρ L')
 (aa:b=want→ ∀ q,K (val q)∧ρ q=σ (val q)∧L' q=L2 (val q)) (ae: ¬ b=want→ ∃ y,K y∧L=L2 y)
 (k:∀ y,K y→ai c ops Q rest ((a4,.cond (b=want) (σ y)) :: E) (L2 y)):ai c ops Q (o :: rest) E L:=fun a W s=>by
 have a9:=uS aG an s
 unfold cY.oD wpListIn
 by_cases hb:b=want
 ·rw [if_pos (by simp [Region.wanted,bx,a9,hb])]
  refine((h hb a W s).wpIn fun v W' ⟨q,f,a2⟩=> ?_)
  obtain⟨av,aX,dk⟩:=aa hb q
  rw [aX] at a2
  rw [dk] at f a2
  rw [hd]
  exact k _ av _ _ (f.put (by simpa using aP) ⟨fun _=>a2,fun h=>absurd hb h⟩)
 ·rw [if_neg (by simp [Region.wanted,bx,a9,hb])]
  rw [hd]
  obtain⟨y,av,aX⟩:=ae hb
  rw [aX] at s
  exact⟨fun _ _=>trivial,k y av _ _ (s.put (by simpa using aP) ⟨fun h=>absurd h hb,fun _=>rfl⟩)⟩
theorem eR.perm {jc:List aL} {o:Oper} {δ:Type} {ρ:δ→I} {L' L2:δ→List aL} (p:L.Perm jc) (Nd:∀ q,(L' q).Perm (L2 q)) (h:eR c E jc o ρ L'):eR c E L o ρ L2:=fun a W s=>by
 have:=h a W (s.perm p)
 unfold gh at this ⊢
 exact Oper.wp_mono (fun iE W' ⟨v,aa,q,ae,aD⟩=>⟨v,aa,q,ae.perm (Nd q),(ρ q).mono (mv (Nd q)) aD⟩) this
theorem eR.to {o:Oper} {δ:Type} {ρ:δ→I} {L' L2:δ→List aL} (e:∀ q,L' q=L2 q) (h:eR c E L o ρ L'):eR c E L o ρ L2:=by
 have:L'=L2:=funext e
 subst this; exact h
theorem eR.Va {o:Oper} {δ:Type} {τ:I} (h:eR c E L o (fun _:δ=>τ) (fun _=>L)):gO c E L o τ:=fun a W s=>by
 have:=h a W s
 unfold gh at this ⊢
 exact Oper.wp_mono (fun iE W' ⟨v,aa,q,ae,aD⟩=>⟨v,aa,ae,aD⟩) this
theorem eR.call {o:Oper} {f:FuncId} {as:Act→List Value} {τs:List I} {Lin Lr:List aL} {δ:Type} {ρ:δ→I} {Lo:δ→List aL} (h:cf c.P f τs Lin ρ Lo)
 (ar:∀ a W,bC c E (Lin ++ Lr) a W→ (execOp a.eval o).run c.P W= .ok (.enter f (as a).toArray) W∧fV (aN (Lin ++ Lr) ++ c.bP) W τs (as a)):eR c E (Lin ++ Lr) o ρ (fun q=>Lo q ++ Lr):=fun a W s=>by
 obtain⟨kk,aq⟩:=ar a W s
 have k3:=s.nodup
 rw [eH] at k3
 obtain⟨mc,px,oI⟩:=List.nodup_append.1 k3
 have l2:Ext (aN (Lin ++ Lr) ++ c.bP) W (aN Lin ++ (aN Lr ++ c.bP)) W:=xZ
 have fU:∀ k∈aN Lr ++ c.bP,k < W.heap.size∧k ∉ aN Lin:=fun k hm=>by
  rcases List.mem_append.1 hm with hm | hm
  ·exact⟨s.lt k (by rw [eH]; exact List.mem_append.2 (.inr hm)),fun h=>oI k h k hm rfl⟩
  ·obtain⟨aa,ae⟩:=s.eB k hm
   exact⟨aa,fun h=>ae (by rw [eH]; exact List.mem_append.2 (.inl h))⟩
 have cl:∀ k∈aN Lin,k < W.heap.size:=fun k hm=>s.lt k (by rw [eH]; exact List.mem_append.2 (.inl hm))
 refine .sv (f:=f) (args:=(as a).toArray) (W':=W) kk ?_
 refine(h (aN Lr ++ c.bP) W (as a) fU mc cl (fun e he=>aL.q8 (s.own e (List.mem_append.2 (.inl he))) l2 fun _ _=>rfl) (aq.mono l2)).mono fun e W' ⟨v,a4,he,ba,aa,ae,aD,aZ⟩=> ?_
 exact⟨v,he,a4,s.after ba aa ae aD,(ρ a4).mono DZ aZ⟩
theorem eR.Ln {o:Oper} {bU:Type} [e9 bU] {hp:a1 bU} {Lin Lr:List aL} {δ:Type} {ρ:δ→I} {Lo:δ→List aL} {hq:δ→a1 bU} (n m:Nat) (ao:L.drop n=a3 hp) (aa:(L.take n).take m=Lin) (ae:(L.take n).drop m=Lr)
 (h:eR c E ((Lin ++ a3 hp) ++ Lr) o ρ (fun q=>(Lo q ++ a3 (hq q)) ++ Lr)):eR c E L o ρ (fun q=>(Lo q ++ Lr) ++ a3 (hq q)):=by
 have e:L=(Lin ++ Lr) ++ a3 hp:=by rw [← aa,← ae,List.take_append_drop,← ao,List.take_append_drop]
 clear ao aa ae
 subst e
 exact h.perm mw fun q=>mw
theorem eR.kj {f:FuncId} {xs:List Operand} {ats:Array TypeId} {bU:Type} [e9 bU] {hp:a1 bU} {τs:List I} {Lin Lr:List aL} {δ:Type} {ρ:δ→I} {Lo:δ→List aL} {hq:δ→a1 bU} (n m:Nat) (ao:L.drop n=a3 hp) (dS:bM c.P f) (h:cf c.P f τs (Lin ++ a3 hp) ρ (fun d=>Lo d ++ a3 (hq d)))
 (aa:(L.take n).take m=Lin) (ae:(L.take n).drop m=Lr) (aq:g1 c E L xs τs):eR c E L ⟨d,.call ⟨.value (.func f),xs.toArray,ats⟩,ty,pos,af,g⟩ ρ (fun q=>(Lo q ++ Lr) ++ a3 (hq q)):=by
 have e:L=(Lin ++ Lr) ++ a3 hp:=by rw [← aa,← ae,List.take_append_drop,← ao,List.take_append_drop]
 refine eR.Ln n m ao aa ae (eR.call (as:=fun a=>xs.map a.eval) h fun a W s=>⟨by simp [execOp,resolve,Deferred.ofValue,Act.eval,invoke,dS.run],?_⟩)
 subst e
 exact(aq.holds a W (s.perm mw.symm)).mono (mv mw)
theorem eR.kZ {f:FuncId} {xs:List Operand} {ats:Array TypeId} {τs:List I} {Lin Lr:List aL} {δ:Type} {ρ:δ→I} {Lo:δ→List aL} (m:Nat) (dS:bM c.P f) (h:cf c.P f τs Lin ρ Lo)
 (aa:L.take m=Lin) (ae:L.drop m=Lr) (aq:g1 c E L xs τs):eR c E L ⟨d,.call ⟨.value (.func f),xs.toArray,ats⟩,ty,pos,af,g⟩ ρ (fun q=>Lo q ++ Lr):=by
 have e:L=Lin ++ Lr:=by rw [← aa,← ae,List.take_append_drop]
 clear aa ae
 subst e
 exact eR.call (as:=fun a=>xs.map a.eval) h fun a W s=>⟨by simp [execOp,resolve,Deferred.ofValue,Act.eval,invoke,dS.run],aq.holds a W s⟩
theorem a7.Rq {mZ:Operand} {f:FuncId} {rF τs:List I} {xs:List Operand} {ats:Array TypeId} (dS:bM c.P f) (ba:a7 c E L mZ (.gE f rF)) (aq:g1 c E L xs τs) {a:Act} {W:World} (s:bC c E L a W):
 ∃ hh:List Value,(execOp a.eval ⟨d,.call ⟨.value mZ,xs.toArray,ats⟩,ty,pos,af,g⟩).run c.P W= .ok (.enter f (xs.map a.eval ++ hh).toArray) W∧fV (aN L ++ c.bP) W (τs ++ rF) (xs.map a.eval ++ hh):=by
 obtain⟨hh,aa,ae⟩:=ba a W s
 exact⟨hh,by simp [execOp,resolve,Deferred.ofValue,aa,invoke,dS.run],(aq.holds a W s).append ae⟩
theorem eR.gE {mZ:Operand} {f:FuncId} {rF τs:List I} {xs:List Operand} {ats:Array TypeId} {Lin Lr:List aL} {δ:Type} {ρ:δ→I} {Lo:δ→List aL} (m:Nat) (dS:bM c.P f) (ba:a7 c E L mZ (.gE f rF)) (h:cf c.P f (τs ++ rF) Lin ρ Lo)
 (aa:L.take m=Lin) (ae:L.drop m=Lr) (aq:g1 c E L xs τs):eR c E L ⟨d,.call ⟨.value mZ,xs.toArray,ats⟩,ty,pos,af,g⟩ ρ (fun q=>Lo q ++ Lr):=by
 have e:L=Lin ++ Lr:=by rw [← aa,← ae,List.take_append_drop]
 clear aa ae
 subst e
 intro a W s
 obtain⟨hh,aD,aZ⟩:=a7.Rq (d:=d) (ty:=ty) (pos:=pos) (af:=af) (g:=g) (ats:=ats) dS ba aq s
 have k3:=s.nodup
 rw [eH] at k3
 obtain⟨mc,px,oI⟩:=List.nodup_append.1 k3
 have l2:Ext (aN (Lin ++ Lr) ++ c.bP) W (aN Lin ++ (aN Lr ++ c.bP)) W:=xZ
 have fU:∀ k∈aN Lr ++ c.bP,k < W.heap.size∧k ∉ aN Lin:=fun k hm=>by
  rcases List.mem_append.1 hm with hm | hm
  ·exact⟨s.lt k (by rw [eH]; exact List.mem_append.2 (.inr hm)),fun h=>oI k h k hm rfl⟩
  ·obtain⟨aa,ae⟩:=s.eB k hm
   exact⟨aa,fun h=>ae (by rw [eH]; exact List.mem_append.2 (.inl h))⟩
 have cl:∀ k∈aN Lin,k < W.heap.size:=fun k hm=>s.lt k (by rw [eH]; exact List.mem_append.2 (.inl hm))
 refine .sv (f:=f) (W':=W) aD ?_
 refine(h (aN Lr ++ c.bP) W _ fU mc cl (fun e he=>aL.q8 (s.own e (List.mem_append.2 (.inl he))) l2 fun _ _=>rfl) (aZ.mono l2)).mono fun e W' ⟨v,a4,he,ba,aa,ae,aD,aZ⟩=> ?_
 exact⟨v,he,a4,s.after ba aa ae aD,(ρ a4).mono DZ aZ⟩
theorem g1.perm {jc:List aL} (p:L.Perm jc):∀ {xs:List Operand} {τs:List I},g1 c E L xs τs→g1 c E jc xs τs
 | [],[],h=>h
 | _ :: _,_ :: _,h=>⟨h.1.perm p,g1.perm p h.2⟩
 | [],_ :: _,h=>h.elim
 | _ :: _,[],h=>h.elim
theorem eR.LQ {mZ:Operand} {f:FuncId} {rF τs:List I} {xs:List Operand} {ats:Array TypeId} {bU:Type} [e9 bU] {hp:a1 bU} {Lin Lr:List aL} {δ:Type} {ρ:δ→I} {Lo:δ→List aL} {hq:δ→a1 bU} (n m:Nat) (ao:L.drop n=a3 hp) (dS:bM c.P f) (ba:a7 c E L mZ (.gE f rF)) (h:cf c.P f (τs ++ rF) (Lin ++ a3 hp) ρ (fun d=>Lo d ++ a3 (hq d)))
 (aa:(L.take n).take m=Lin) (ae:(L.take n).drop m=Lr) (aq:g1 c E L xs τs):eR c E L ⟨d,.call ⟨.value mZ,xs.toArray,ats⟩,ty,pos,af,g⟩ ρ (fun q=>(Lo q ++ Lr) ++ a3 (hq q)):=by
 have e:L=(Lin ++ Lr) ++ a3 hp:=by rw [← aa,← ae,List.take_append_drop,← ao,List.take_append_drop]
 refine eR.Ln n m ao aa ae ?_
 subst e
 refine eR.to (fun q=>rfl) (eR.gE (Lin ++ a3 hp).length dS (ba.perm mw) h List.take_left List.drop_left (aq.perm mw))
theorem eR.obj {f:FuncId} {xs:List Operand} {ats:Array TypeId} {bU:Type} [e9 bU] {hp:a1 bU} {p:Nat} {k:bU} {τs:List I} {Lin:List aL} {δ:Type} {ρ:δ→I} {Lo:δ→List aL} (n:Nat) (k':δ→bU) (ao:L.drop n=a3 hp) (hp':pat hp p=some k) (dS:bM c.P f) (h:cf c.P f τs Lin ρ Lo)
 (ax:e9.hT p k=Lin) (jI:∀ q,e9.hT p (k' q)=Lo q) (aq:g1 c E L xs τs):eR c E L ⟨d,.call ⟨.value (.func f),xs.toArray,ats⟩,ty,pos,af,g⟩ ρ (fun q=>L.take n ++ a3 (dH hp p (k' q))):=by
 obtain⟨R,aR,a0⟩:=uT hp'
 have e:L=L.take n ++ a3 hp:=by rw [← ao,List.take_append_drop]
 have dB:∀ {M X:List aL},M.Perm (X ++ R)→ (L.take n ++ M).Perm (X ++ (R ++ L.take n)):=fun h=>List.perm_append_comm.trans ((h.append_right _).trans (by rw [List.append_assoc]))
 have GB:L.Perm (Lin ++ (R ++ L.take n)):=by
  conv=>lhs; rw [e]
  exact dB (by rw [← ax]; exact aR)
 refine eR.perm GB (fun q=>(dB (a0 (k' q))).symm) ?_
 refine eR.to (fun q=>by rw [jI]) (eR.call (Lr:=R ++ L.take n) (as:=fun a=>xs.map a.eval) h fun a W s=>⟨by simp [execOp,resolve,Deferred.ofValue,Act.eval,invoke,dS.run],?_⟩)
 exact(aq.holds a W (s.perm GB.symm)).mono (mv GB)
theorem gO.obj {f:FuncId} {xs:List Operand} {ats:Array TypeId} {bU:Type} [e9 bU] {hp:a1 bU} {p:Nat} {k:bU} {τs:List I} {Lin:List aL} {δ:Type} {τ:I} (n:Nat) (ao:L.drop n=a3 hp) (hp':pat hp p=some k) (dS:bM c.P f) (h:cf c.P f τs Lin (fun _:δ=>τ) (fun _=>Lin))
 (ax:e9.hT p k=Lin) (aq:g1 c E L xs τs):gO c E L ⟨d,.call ⟨.value (.func f),xs.toArray,ats⟩,ty,pos,af,g⟩ τ:=by
 have e:L=L.take n ++ a3 hp:=by rw [← ao,List.take_append_drop]
 have V8:dH hp p k=hp:=by
  clear e ao h ax
  induction hp with
  | nil=>rfl
  | cons z r b0=>
    obtain⟨q,XI⟩:=z
    simp only [pat] at hp'
    simp only [dH]
    split at hp'
    ·rename_i e; simp only [Option.some.injEq] at hp'; rw [if_pos e,hp']
    ·rename_i e; rw [if_neg e,b0 hp']
 refine eR.Va (eR.to (fun q=> ?_) (eR.obj (d:=d) (ty:=ty) (pos:=pos) (af:=af) (g:=g) (ats:=ats) n (fun _=>k) ao hp' dS h ax (fun _=>ax) aq))
 rw [V8,← e]
theorem ai.S5 {l:List Oper} {bU:Type} [e9 bU] {hp:a1 bU} {p:Nat} {Lin Lr:List aL} (n m:Nat) (mk:bU) (ao:L.drop n=a3 hp) (aa:(L.take n).take m=Lin) (ae:(L.take n).drop m=Lr) (ax:e9.hT p mk=Lin) (hm:p∈aN Lin)
 (k:∀ a:Nat × a1 bU,a.1 ∉ hp.map (·.1)∧a.2=(a.1,mk) :: hp→a.1=p→ai c ops Q l E (Lr ++ a3 a.2)):ai c ops Q l E L:=fun a W s=>by
 have e:L=(Lin ++ Lr) ++ a3 hp:=by rw [← aa,← ae,List.take_append_drop,← ao,List.take_append_drop]
 have dB:L.Perm (Lr ++ a3 ((p,mk) :: hp)):=by
  rw [e,a3,ax,← List.append_assoc]
  exact List.perm_append_comm.append_right _
 refine k (p,(p,mk) :: hp) ⟨fun V9=> ?_,rfl⟩ rfl _ _ (s.perm dB)
 have ij:=s.nodup
 rw [e,eH,eH] at ij
 exact(List.nodup_append.1 ij).2.2 p (List.mem_append.2 (.inl hm)) p (Kq V9) rfl
end
end Gv
namespace Gv
open Go
set_option linter.unusedVariables false
section
variable {c:cY} {E:List (Nat × I)} {L:List aL} {ops:Array Oper} {Q:Exit→Act→World→Prop}
theorem cR.q {hs:List dN} {i np:Nat} {o:Oper} {h:dN} (ch:cR c ops Q hs E L i o h):EN c ops Q hs E L np i o h:=fun hd E' L' aa ae _=>ch hd E' L' aa ae
structure x6 (P:Program) (f:FuncId) (τs:List I) {bU:Type} [e9 bU] (hp:a1 bU) {α:Type} (τ:α→I) (run:∀ {σ ε:Type},(α→σ→Option (σ ⊕ ε))→σ→Option (σ ⊕ ε)):Prop where
 go:∀ {σ ε γ:Type} (Ls:σ→γ→List aL) (Lx:ε→γ→List aL) (iY:σ→γ→List aL),(∀ s g,Ls s g=iY s g ++ a3 hp)→Gp P f τs [] τ (run (σ:=σ) (ε:=ε)) Ls Lx
theorem x6.of {P:Program} {f:FuncId} {fn:Func} {code:Code} {n:Nat} {τs:List I} {bU:Type} [e9 bU] {hp:a1 bU} {α:Type} {τ:α→I} {run:∀ {σ ε:Type},(α→σ→Option (σ ⊕ ε))→σ→Option (σ ⊕ ε)}
 (ba:P.funcs[f]? =some fn) (hb:fn.body=some code) (aP:fn.ntmps=n) (hlen:Nat.ble (τs.length + 1) n=true)
 (h:∀ {σ ε γ:Type} (Ls:σ→γ→List aL) (Lx:ε→γ→List aL) (iY:σ→γ→List aL),(∀ s g,Ls s g=iY s g ++ a3 hp)→ ∀ (step:α→σ→Option (σ ⊕ ε)) (b1:σ) (g0:γ) (r:σ ⊕ ε),run step b1=some r→
  ∀ W A u,tK P u τ Ls Lx step (fun cQ W'=>Ext (aN (Ls b1 g0) ++ A) W cQ W')→
    ag ⟨P,n,W,aN (Ls b1 g0),A,none,[]⟩ (bodyPost P fn (jh (aN (Ls b1 g0)) A W (fun _:γ=> .cG []) (fun g=> [] ++ Lr Ls Lx r g))) code (params 0 (.eq u :: τs)) (Ls b1 g0)):x6 P f τs hp τ run:=by
 refine⟨?_⟩
 intro σ ε γ Ls Lx iY l8 step b1 g0 r aU A W u vs an a2 a9
 refine calls_of_wp ba hb (wpIn_wide.1 (h Ls Lx iY l8 step b1 g0 r aU W A u a9 _ _ ?_))
 have lG:fV (aN (Ls b1 g0) ++ A) W (.eq u :: τs) (u :: vs):= .cons rfl a2
 have kM:=lG.length
 have hle:τs.length + 1≤n:=Nat.le_of_ble_eq_true hlen
 exact
 {defers:=rfl
  size:=by simp at kM; simp [aP,kM]; omega
  env:=fun t τ eC=>by
   obtain⟨_,v,ae,aD⟩:=sm lG 0 t τ eC
   refine⟨v,?_,aD⟩
   have cl:t < (u :: vs).length:=(List.getElem?_eq_some_iff.1 ae).1
   rw [Array.getElem?_append_left (by simpa using cl)]
   simpa using ae
  dm:= .refl _ _
  own:=an.ok
  nodup:=an.nodup
  lt:=an.lt
  fI:=fun k ax _=>ax
  eB:=an.eB }
theorem SF {bU:Type} [e9 bU] {σ γ:Type} {Ls iY:σ→γ→List aL} {hp:a1 bU} {s:σ} {g:γ} {p:Nat} {k:bU} {e:aL} (n:Nat) (ao:L.drop n=Ls s g) (l8:∀ s g,Ls s g=iY s g ++ a3 hp) (h:pat hp p=some k) (ax:e9.hT p k= [e]):e∈L:=
 KU (hq:=fun _=>hp) n ao l8 h ax
theorem IJ {gt p:Nat} {assign body:Code} {f:FuncId} {lA:List I} {bU:Type} [e9 bU] {hp:a1 bU} {α σ ε γ:Type} {τ:α→I} {run:∀ {σ ε:Type},(α→σ→Option (σ ⊕ ε))→σ→Option (σ ⊕ ε)}
 {Ls:σ→γ→List aL} {Lx:ε→γ→List aL} {step:α→σ→Option (σ ⊕ ε)} {b1:σ} {g0:γ} {r:σ ⊕ ε} (iY:σ→γ→List aL) (eD:ε→Code)
 (ar:c.rd=none) (dS:bM c.P f) (bx:look E gt=some (.gE f lA)) (j9:x6 c.P f lA hp τ run) (aU:run step b1=some r) (l8:∀ s g,Ls s g=iY s g ++ a3 hp) (ao:L=Ls b1 g0) (hp':Nat.blt p c.n=true)
 (nI:∀ x s r,step x s=some r→ ∀ g (kp:World) (kz kq:List Nat) (l D:Nat) (rec:Loop),rec.state= .ready→
  ag ⟨c.P,c.n,kp,kz,kq,some l,[]⟩ (Exit.then (Ag ⟨c.P,c.n,kp,kz,kq,some l,[]⟩ l body (Af ⟨c.P,c.n,kp,kz,kq,some l,[]⟩ eD l D { rec with state:= .busy } Ls Lx r)) (fun _ _ _=>False)) assign ((p,τ x) :: E) (⟨some l,.is (.loop rec)⟩ :: ⟨some D,.db⟩ :: Ls s g))
 (pe:∀ bZ,r= .inl bZ→ ∀ g D,ab { c with ds:=D :: c.ds } Q .normal E (⟨some D,.db⟩ :: Ls bZ g))
 (sV:∀ q,r= .inr q→ ∀ g D,ag { c with ds:=D :: c.ds } Q (eD q) E (⟨some D,.db⟩ :: Lx q g)):
 ag c Q (.rangeFunc (.tmp gt) #[p] assign body) E L:=
 IW (Lin:= []) (run:=run) eD ar dS bx (fun av aX lH=>j9.go (fun s g=>av :: aX :: Ls s g) lH (fun s g=>av :: aX :: iY s g) (fun s g=>by rw [l8]; rfl)) aU ao hp' nI pe sV
end
end Gv
namespace Gv
open Go
set_option linter.unusedVariables false
structure Raw where
 f:FuncId
 us:Option (List Value)
instance:Inhabited Raw:=⟨⟨0,none⟩⟩
def Raw.val:Raw→Value
 | ⟨f,some us⟩=> .func (.func f) #[] us.toArray
 | ⟨_,none⟩=> .nilFunc
instance:ah Raw where
 size:=1
 agg:=false
 rep _ _ cs x:=cs= [x.val]
 len h:=by rw [h]; rfl
 one h:=by
  intro v a2
  rw [h,List.mem_singleton] at a2
  subst a2
  rename_i x
  obtain⟨f,us⟩:=x
  cases us <;> rfl
 flat _:=rfl
 mono _ h:=h
instance:a8 Raw:=⟨[.nilFunc],fun _ _=>rfl⟩
theorem Kt {A W v} {x:Raw} :(I.of x).holds A W v↔v=x.val:=by
 constructor
 ·intro h
  exact m6 (by have:=h.1; exact this) h.2
 ·intro h
  subst h
  obtain⟨f,us⟩:=x
  cases us <;> exact⟨rfl,rfl⟩
section
variable {c:cY} {E:List (Nat × I)} {L:List aL} {ops:Array Oper} {Q:Exit→Act→World→Prop}
variable {d:Option Tmp} {ty:TypeId} {pos:String} {af:Array Edge} {g:Option (Nat × Bool)} {x y:Operand} {t t2:TypeId}
theorem fV.eqs {A:List Nat} {W:World} :∀ {us vs:List Value},fV A W (us.map I.eq) vs→vs=us
 | [],_,.nil=>rfl
 | _ :: _,_,.cons h r=>by rw [r.eqs]; congr 1
theorem fV.Lp {A:List Nat} {W:World} :∀ {us:List Value},fV A W (us.map I.eq) us
 | []=> .nil
 | _ :: _=> .cons rfl .Lp
theorem SJ {f:FuncId} {xs:List Operand} {us:List Value} (aq:g1 c E L xs (us.map I.eq)):bY c E L ⟨d,.makeFunc (.func f) #[] xs.toArray,ty,pos,af,g⟩ (.of (⟨f,some us⟩:Raw)):= .pure fun a W s=>
 ⟨.func (.func f) #[] us.toArray,by
   have h:=(aq.holds a W s).eqs
   simp [execOp,Instr.makeFunc,h],Kt.2 rfl⟩
theorem I7 {f:FuncId} {us:List Value} (aq:a7 c E L x (.of (⟨f,some us⟩:Raw))):a7 c E L x (.gE f (us.map I.eq)):=fun a W s=>
 ⟨us,Kt.1 (aq a W s),.Lp⟩
theorem ai.CT {o:Oper} {rest:List Oper} {a4 j gs:Nat} {b want:Bool} {β γ zY:Type} {m:aC β} {z:β} {k:β→aC zY} {R:zY→Prop} (h:aC.bind (bif decide (b=want) then m else aC.ret z) k R) (σ:β→I) (L2:β→γ→List aL) (g0:γ) (ao:L=L2 z g0)
 (bx:o.guard=some (j,want)) (aG:(ops[j]?).bind (·.dst)=some gs) (an:look E gs=some (.of b)) (hd:o.dst=some a4) (aP:Nat.blt a4 c.n=true)
 (cr:b=want→m (fun r=>k r R)→eR c E L o (fun q: {r // k r R} × γ=>σ q.1.1) (fun q=>L2 q.1.1 q.2))
 (nZ:∀ y g,k y R→ai c ops Q rest ((a4,.cond (b=want) (σ y)) :: E) (L2 y g)):ai c ops Q (o :: rest) E L:=by
 by_cases hb:b=want
 ·have hm:m (fun r=>k r R):=by
   have cX:(bif decide (b=want) then m else aC.ret z) (fun r=>k r R):=h
   rw [decide_eq_true hb] at cX; exact cX
  exact ai.Nc (β:=β × γ) (K:=fun y=>k y.1 R) (σ:=fun y=>σ y.1) (L2:=fun y=>L2 y.1 y.2) (val:=fun q=>(q.1.1,q.2)) bx aG an hd aP (fun _=>cr hb hm) (fun _ q=>⟨q.1.2,rfl,rfl⟩) (fun h=>absurd hb h) fun y a9=>nZ y.1 y.2 a9
 ·have hm:k z R:=by
   have cX:(bif decide (b=want) then m else aC.ret z) (fun r=>k r R):=h
   rw [decide_eq_false hb] at cX; exact cX
  exact ai.Nc (δ:=Unit) (β:=β × γ) (K:=fun y=>k y.1 R) (σ:=fun y=>σ y.1) (L2:=fun y=>L2 y.1 y.2) (val:=fun _=>(z,g0)) (ρ:=fun _=>σ z) (L':=fun _=>L2 z g0) bx aG an hd aP (fun h=>absurd h hb) (fun h=>absurd h hb) (fun _=>⟨(z,g0),hm,ao⟩) fun y a9=>nZ y.1 y.2 a9
end
end Gv
namespace Gv
open Go
set_option linter.unusedVariables false
section
variable {c:cY} {E:List (Nat × I)} {L:List aL} {ops:Array Oper} {Q:Exit→Act→World→Prop}
theorem ai.S6 {l:List Oper} {p q:Nat} (eT:Nat) (an:look E eT=some (.eq (.pointer (some ⟨p,0,none⟩)))) (he:q=p) (k:ai c ops Q l ((eT,.of (some q:Ref)) :: E) L):ai c ops Q l E L:=fun a W s=>by
 subst he
 refine k a W (s.less fun t τ h=> ?_)
 simp only [look] at h
 by_cases e:Nat.beq eT t=true
 ·rw [e] at h
  simp only [cond_true,Option.some.injEq] at h
  have:=eO.1 e
  subst this
  subst h
  exact⟨_,an,fun A W v a2=>vg.2 a2⟩
 ·simp only [Bool.not_eq_true] at e
  rw [e] at h
  exact⟨τ,h,fun _ _ _ h=>h⟩
end
end Gv
namespace Gv
open Go
set_option linter.unusedVariables false
set_option linter.unusedSimpArgs false
section
variable {c:cY} {E:List (Nat × I)} {L:List aL} {ops:Array Oper} {Q:Exit→Act→World→Prop}
theorem bp.tail {l:List Oper} {f:Nat} {bO:Array Bool} (n:Nat) (ba:(l.drop n).length=f) (hs:Region.seqB .any l.toArray f n bO=true) (h:ai c l.toArray Q (l.drop n) E L):bp c l.toArray Q f bO E L:=fun a W s=>by
 subst ba
 exact Dp (l.drop n) n bO a W (fun j=>by simp) hs (h a W s)
theorem aC.ex {α β:Type} {m:aC α} {k:α→aC β} {R:β→Prop} (h:aC.bind m k R):∃ K:α→Prop,m K∧ ∀ r,K r→k r R:=⟨_,h,fun _ h=>h⟩
end
end Gv
namespace Gv
open Go
set_option linter.unusedVariables false
theorem cf.law {P:Program} {f:FuncId} {τs:List I} {bU:Type} [e9 bU] {R:Bool × a1 bU→Prop} {Lo: {r:Bool × a1 bU // R r} × Unit→List aL} (h:cf P f τs ([] ++ a3 ([]:a1 bU)) (fun d: {r:Bool × a1 bU // R r} × Unit=>I.of d.1.1.1) Lo) (iv:∀ r,R r→r.1=true):bE P f τs (I.of true):=by
 intro A W vs fU a2
 refine(h A W vs (fun k ax=>⟨fU k ax,by simp [a3,aN]⟩) (by simp [a3,aN]) (fun k ax=>by simp [a3,aN] at ax) (fun e he=>by simp [a3] at he) (by simpa [a3,aN] using a2)).mono ?_
 intro e W' ⟨v,d,aa,ae,_,_,_,aD⟩
 refine⟨v,aa,by simpa [a3,aN] using ae,?_⟩
 have aZ:=iv d.1.1 d.1.2
 rw [of_bool] at aD ⊢
 rw [aD,aZ]
end Gv
