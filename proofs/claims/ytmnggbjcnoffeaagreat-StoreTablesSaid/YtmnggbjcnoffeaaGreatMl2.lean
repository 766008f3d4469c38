/-
  The library of the decompiler, as far as it is needed here. Conditions: none.
-/
import Derived.Maps.RangeRun
import Derived.Test.YtmnggbjcnoffeaaGreatMl1
set_option linter.unusedVariables false
set_option linter.unusedSimpArgs false
namespace Gv
open Go
def EF (P:Program) (u:Value) {α σ ε γ:Type} (τ:α→I) (Ls:σ→γ→List aJ) (Lx:ε→γ→List aJ) (step:α→σ→aq (σ ⊕ ε)) (aaI:List Nat→World→Prop):Prop:=
 ∃ l,u= .func (.yield l) #[] #[]∧ ∀ x s R,step x s R→ ∀ g A W v,aaI (aL (Ls s g) ++ A) W→xB A W (Ls s g)→ (τ x).holds (aL (Ls s g) ++ A) W v→
   YieldAt Fence.wide 8 P l #[v] W (fun e W'=>(∃ b9,R (.inl b9)∧j1 (aL (Ls s g)) A W (fun _:γ=>I.of true) (fun g=>Ls b9 g) e W')∨ ∃ q,R (.inr q)∧j1 (aL (Ls s g)) A W (fun _:γ=>I.of false) (fun g=>Lx q g) e W')
structure zP (P:Program) (f:FuncId) (τs:List I) {bT:Type} [eG bT] {α:Type} (τ:α→I) (run:∀ {σ ε:Type},(σ→aN bT)→ (α→σ→aq (σ ⊕ ε))→σ→aq (σ ⊕ ε)):Prop where
 go:∀ {σ ε γ:Type} (Ls:σ→γ→List aJ) (Lx:ε→γ→List aJ) (hq:σ→aN bT) (jx:σ→γ→List aJ),(∀ s g,Ls s g=jx s g ++ aV (hq s))→ ∀ (step:α→σ→aq (σ ⊕ ε)) (cd:σ) (g0:γ) (R:σ ⊕ ε→Prop),run hq step cd R→
  ∀ (A:List Nat) (W:World) (u:Value) (vs:List Value),xB A W (Ls cd g0)→gb (aL (Ls cd g0) ++ A) W τs vs→
    EF P u τ Ls Lx step (fun c0 W'=>Ext (aL (Ls cd g0) ++ A) W c0 W')→
    Calls P f (u :: vs).toArray W (j1 (aL (Ls cd g0)) A W (δ:= {r // R r} × γ) (fun _=> .eD []) (fun d=>Lr Ls Lx d.1.1 d.2))
theorem zP.of {P:Program} {f:FuncId} {fn:Func} {code:Code} {n:Nat} {τs:List I} {bT:Type} [eG bT] {α:Type} {τ:α→I} {run:∀ {σ ε:Type},(σ→aN bT)→ (α→σ→aq (σ ⊕ ε))→σ→aq (σ ⊕ ε)}
 (a8:P.funcs[f]? =some fn) (hb:fn.body=some code) (aP:fn.ntmps=n) (hlen:Nat.ble (τs.length + 1) n=true)
 (h:∀ {σ ε γ:Type} (Ls:σ→γ→List aJ) (Lx:ε→γ→List aJ) (hq:σ→aN bT) (jx:σ→γ→List aJ),(∀ s g,Ls s g=jx s g ++ aV (hq s))→ ∀ (step:α→σ→aq (σ ⊕ ε)) (cd:σ) (g0:γ) (R:σ ⊕ ε→Prop),run hq step cd R→
  ∀ W A u,EF P u τ Ls Lx step (fun c0 W'=>Ext (aL (Ls cd g0) ++ A) W c0 W')→
    ai ⟨P,n,W,aL (Ls cd g0),A,none,[]⟩ (bodyPost P fn (j1 (aL (Ls cd g0)) A W (δ:= {r // R r} × γ) (fun _=> .eD []) (fun d=>Lr Ls Lx d.1.1 d.2))) code (params 0 (.eq u :: τs)) (Ls cd g0)):zP P f τs τ run:=by
 refine⟨?_⟩
 intro σ ε γ Ls Lx hq jx mK step cd g0 R aS A W u vs ao a6 a5
 refine calls_of_wp a8 hb (wpIn_wide.1 (h Ls Lx hq jx mK step cd g0 R aS W A u a5 _ _ ?_))
 have oM:gb (aL (Ls cd g0) ++ A) W (.eq u :: τs) (u :: vs):= .cons rfl a6
 have kx:=oM.length
 have hle:τs.length + 1≤n:=Nat.le_of_ble_eq_true hlen
 exact
 {defers:=rfl
  size:=by simp at kx; simp [aP,kx]; omega
  env:=fun t τ eJ=>by
   obtain⟨_,v,ad,ay⟩:=tV oM 0 t τ eJ
   refine⟨v,?_,ay⟩
   have cb:t < (u :: vs).length:=(List.getElem?_eq_some_iff.1 ad).1
   rw [Array.getElem?_append_left (by simpa using cb)]
   simpa using ad
  dw:= .refl _ _
  own:=ao.ok
  nodup:=ao.nodup
  lt:=ao.lt
  fD:=fun k au _=>au
  eF:=ao.eF }
section
variable {c:c5} {E:List (Nat × I)} {L:List aJ} {ops:Array Oper} {Q:Exit→Act→World→Prop}
variable {d:Option Tmp} {ty:TypeId} {pos:String} {af:Array Edge} {g:Option (Nat × Bool)} {x y:Operand} {t t2:TypeId}
theorem Nv {bT:Type} [eG bT] {σ γ:Type} {Ls jx:σ→γ→List aJ} {hq:σ→aN bT} {s:σ} {g:γ} {p:Nat} {k:bT} {e:aJ} (n:Nat) (an:L.drop n=Ls s g) (mK:∀ s g,Ls s g=jx s g ++ aV (hq s)) (h:pat (hq s) p=some k) (au:eG.g3 p k= [e]):e∈L:=by
 obtain⟨R,J,_⟩:=tZ h
 rw [au] at J
 have:e∈L.drop n:=by rw [an,mK]; exact List.mem_append.2 (.inr (J.mem_iff.2 (by simp)))
 exact List.mem_of_mem_drop this
theorem ah.U1 {rest:List Oper} {bb se:Nat} {ats:Array TypeId} {u:Value} {α σ ε γ:Type} {τ:α→I} {Ls:σ→γ→List aJ} {Lx:ε→γ→List aJ} {step:α→σ→aq (σ ⊕ ε)} {Lin:List aJ} {x:Operand} {v:α} {s:σ} {gg:γ} {R:σ ⊕ ε→Prop}
 (ak:c.rd=none) (a5:EF c.P u τ Ls Lx step (fun c0 W'=>Ext (c.X ++ c.bX) c.iP c0 W')) (a8:look E se=some (.eq u)) (al:a7 c E (Lin ++ Ls s gg) x (τ v)) (aS:step v s R) (aP:Nat.blt bb c.n=true)
 (bj:∀ b9,R (.inl b9)→ ∀ eU,ah c ops Q rest ((bb,.of true) :: E) (Lin ++ Ls b9 eU)) (bI:∀ q,R (.inr q)→ ∀ eU,ah c ops Q rest ((bb,.of false) :: E) (Lin ++ Lx q eU)):
 ah c ops Q (⟨some bb,.call ⟨.value (.tmp se),#[x],ats⟩,ty,pos,af,none⟩ :: rest) E (Lin ++ Ls s gg):=fun a W st=>by
 obtain⟨l,rfl,a5⟩:=a5
 obtain⟨JT,J,ad⟩:=st.env se _ a8
 have hu:JT= .func (.yield l) #[] #[]:=ad
 subst hu
 have mO:bw c E (Ls s gg ++ Lin) a W:=st.perm List.perm_append_comm
 have a6:=al a W st
 have oM:(τ v).holds (aL (Ls s gg) ++ (aL Lin ++ c.bX)) W (a.eval x):=(τ v).mono (.drop fun k hm=>by
  rw [eB]
  simp only [List.mem_append] at hm ⊢
  rcases hm with hm | hm | hm
  ·exact .inl (.inr hm)
  ·exact .inl (.inl hm)
  ·exact .inr hm) a6
 obtain⟨fn,tmps,assign,body,hB,iS⟩:=a5 v s R aS gg (aL Lin ++ c.bX) W (a.eval x) (mO.NR.trans zK) mO.EE oM
 have H3:(execOp a.eval ⟨some bb,.call ⟨.value (.tmp se),#[x],ats⟩,ty,pos,af,none⟩).run c.P W= .ok (.round l fn tmps assign body) W:=by
  rw [← hB]
  simp [execOp,resolve,Deferred.ofValue,Act.eval,J,invoke,Sem.run_bind,Sem.run_pure,Result.andThen]
 refine wpListIn_plain rfl fun K vX=> ?_
 refine⟨fun _ _=>trivial,?_⟩
 rw [Oper.semAt_eq _ _ _ (fun _ h=>by cases h),H3,Oper.uponIn_round]
 refine⟨fun h=>by simp at h,?_⟩
 have I6:RoundIn c.F (9 - 1) c.P l fn tmps assign body W _:=iS
 refine I6.mono fun e W' he=> ?_
 rcases he with⟨b9,hs,w,eU,rfl,pJ,ay,aU,a0,bl⟩ | ⟨q,hs,w,eU,rfl,pJ,ay,aU,a0,bl⟩
 ·obtain rfl:=of_bool.1 bl
  refine vX _ _ (bj b9 hs eU _ _ ?_)
  exact(((mO.after pJ ay aU a0).perm List.perm_append_comm).put (by simpa using aP) (of_bool.2 rfl))
 ·obtain rfl:=of_bool.1 bl
  refine vX _ _ (bI q hs eU _ _ ?_)
  exact(((mO.after pJ ay aU a0).perm List.perm_append_comm).put (by simpa using aP) (of_bool.2 rfl))
def Pn {σ ε γ:Type} (c:c5) (e6:ε→Code) (l D:Nat) (rec:Loop) (Ls:σ→γ→List aJ) (Lx:ε→γ→List aJ) (R:σ ⊕ ε→Prop):Exit→Act→World→Prop:=fun x a W=>
 (∃ b9,R (.inl b9)∧x= .normal∧ ∃ g,bw c [] (⟨some l,.is (.loop rec)⟩ :: ⟨some D,.dC⟩ :: Ls b9 g) a W)∨
 ∃ q,R (.inr q)∧uC (e6 q)=true∧x=z7 (e6 q)∧ ∃ g,bw c [] (⟨some l,.is (.loop rec)⟩ :: ⟨some D,.dC⟩ :: Lx q g) a W
theorem ae.Yt {σ ε γ:Type} {e6:ε→Code} {l D:Nat} {rec:Loop} {Ls:σ→γ→List aJ} {Lx:ε→γ→List aJ} {R:σ ⊕ ε→Prop} {b9:σ} (iS:R (.inl b9)) (g:γ) (n:Nat) (an:L.drop n=⟨some l,.is (.loop rec)⟩ :: ⟨some D,.dC⟩ :: Ls b9 g):
 ae c (Pn c e6 l D rec Ls Lx R) .normal E L:=fun a W s=> .inl ⟨b9,iS,rfl,g,by rw [← an]; exact(s.oC n).less (fun t τ h=>by simp [look] at h)⟩
theorem SQ {gt p:Nat} {assign body:Code} {f:FuncId} {nW:List I} {bT:Type} [eG bT] {α σ ε γ ρ:Type} {τ:α→I} {run:∀ {σ ε:Type},(σ→aN bT)→ (α→σ→aq (σ ⊕ ε))→σ→aq (σ ⊕ ε)}
 {Ls:σ→γ→List aJ} {Lx:ε→γ→List aJ} {hq:σ→aN bT} {step:α→σ→aq (σ ⊕ ε)} {cd:σ} {g0:γ} {k:σ ⊕ ε→aq ρ} {mS:ρ→Prop} (jx:σ→γ→List aJ) (e6:ε→Code)
 (ak:c.rd=none) (eg:bM c.P f) (bE:look E gt=some (.gy f nW)) (ln:zP c.P f nW τ run) (aS:aq.bind (run hq step cd) k mS) (mK:∀ s g,Ls s g=jx s g ++ aV (hq s)) (an:L=Ls cd g0) (hp:Nat.blt p c.n=true)
 (qb:∀ x s R,step x s R→ ∀ g (nm:World) (nv nn:List Nat) (l D:Nat) (rec:Loop),rec.state= .ready→
  ai ⟨c.P,c.n,nm,nv,nn,some l,[]⟩ (Exit.then (Fo ⟨c.P,c.n,nm,nv,nn,some l,[]⟩ l body (Pn ⟨c.P,c.n,nm,nv,nn,some l,[]⟩ e6 l D { rec with state:= .busy } Ls Lx R)) (fun _ _ _=>False)) assign ((p,τ x) :: E) (⟨some l,.is (.loop rec)⟩ :: ⟨some D,.dC⟩ :: Ls s g))
 (nb:∀ b9,k (.inl b9) mS→ ∀ g D,ae { c with ds:=D :: c.ds } Q .normal E (⟨some D,.dC⟩ :: Ls b9 g))
 (AB:∀ q,k (.inr q) mS→ ∀ g D,ai { c with ds:=D :: c.ds } Q (e6 q) E (⟨some D,.dC⟩ :: Lx q g)):
 ai c Q (.rangeFunc (.tmp gt) #[p] assign body) E L:=fun a W st=>by
 subst an
 refine wpIn_rangeFunc fun fn ZH=> ?_
 show ∃ l mark YU d Xe x9 args YV,(Instr.enterLoop fn a.tmps #[p] assign body c.rd).run c.P W=_∧_
 rw [ak]
 obtain⟨rec,j4⟩:∃ rec:Loop,rec= { state:= .ready,pending:=none,fn,tmps:=a.tmps,params:= #[p],assign,body,defers:=W.heap.size } :=⟨_,rfl⟩
 obtain⟨v,BK,hx,vJ,ZI⟩:=st.env gt _ bE
 obtain⟨gP,BL⟩:∃ gP,(W.alloc (.deferred (some []))).alloc (.loop rec)=gP:=⟨_,rfl⟩
 have s1:=(st.alloc (o:= .deferred (some [])) (cp:= .dC) rfl).alloc (o:= .loop rec) (cp:= .is (.loop rec)) rfl
 rw [BL,World.size_alloc] at s1
 obtain⟨D,kA⟩:∃ D,D=W.heap.size:=⟨_,rfl⟩
 obtain⟨l,ao⟩:∃ l,l=W.heap.size + 1:=⟨_,rfl⟩
 have BM:=run_enterLoop_outer (P:=c.P) (w:=W) fn a.tmps #[p] assign body
 rw [← j4,BL,← ao,← kA] at BM
 rw [← ao,← kA] at s1
 obtain⟨kY,pK⟩:∃ kY:σ→γ→List aJ,kY=fun s g=>⟨some l,.is (.loop rec)⟩ :: ⟨some D,.dC⟩ :: Ls s g:=⟨_,rfl⟩
 obtain⟨nu,BN⟩:∃ nu:ε→γ→List aJ,nu=fun q g=>⟨some l,.is (.loop { rec with state:= .done,pending:=some (e6 q) })⟩ :: ⟨some D,.dC⟩ :: Lx q g:=⟨_,rfl⟩
 have s2:bw c E (kY cd g0) a gP:=by rw [pK]; exact s1
 have I8:gb (aL (kY cd g0) ++ c.bX) gP nW hx:=by
  have J:(I.gy f nW).holds (aL (kY cd g0) ++ c.bX) gP v:=by
   obtain⟨Fk,J,ad⟩:=s2.env gt _ bE
   rw [BK] at J
   cases J
   exact ad
  obtain⟨I9,aF,aR⟩:=J
  rw [vJ] at aF
  have:I9=hx:=by injection aF with _ _ aF; injection aF with aF; exact aF.symm
  rw [← this]; exact aR
 have BO:bw c E ((kY cd g0) ++ []) a gP:=by rw [List.append_nil]; exact s2
 have AD:=BO.EE
 simp only [aL,List.nil_append] at AD
 have Iy:EF c.P (.func (.yield l) #[] #[]) τ kY nu step (fun c0 W'=>Ext (aL (kY cd g0) ++ c.bX) gP c0 W'):=by
  refine⟨l,rfl,fun x s Fp hs g A nz v2 gK hle a6=> ?_⟩
  have A8:=hle
  rw [pK] at A8
  obtain⟨o,c8,eY⟩:=A8.ok ⟨some l,.is (.loop rec)⟩ (by simp)
  have pv:o= .loop rec:=eY
  subst pv
  have a5:=run_yield (P:=c.P) (args:= #[v2]) c8 (by rw [j4]; rfl)
  refine⟨_,_,_,_,a5,roundIn_of_wpIn trivial ?_⟩
  have aF:rec.assign=assign:=by rw [j4]
  have aR:rec.body=body:=by rw [j4]
  have dh:rec.params= #[p]:=by rw [j4]
  have iQ:rec.tmps=a.tmps:=by rw [j4]
  rw [aF,aR,dh,iQ]
  refine Dd (n:=9) rfl ?_
  have H4:((#[p]:Array Tmp).zip #[v2]).foldl (fun tmps (t,a)=>tmps.setIfInBounds t a) a.tmps=a.tmps.setIfInBounds p v2:=by simp
  rw [H4]
  subst pK BN
  refine wpIn_mono ((qb x s Fp hs g nz (aL (⟨some l,.is (.loop rec)⟩ :: ⟨some D,.dC⟩ :: Ls s g)) A l D rec (by rw [j4])) { tmps:=a.tmps.setIfInBounds p v2,defers:= [] } nz ?_) ?_
  ·have iz:p < c.n:=by simpa using hp
   exact
   {defers:=rfl
    size:=by simp [s2.size]
    env:=fun t rR eJ=>by
     simp only [look] at eJ
     by_cases e:Nat.beq p t=true
     ·rw [e] at eJ
      simp only [cond_true,Option.some.injEq] at eJ
      subst eJ
      have:=ej.1 e
      subst this
      exact⟨v2,by simp [s2.size,iz],a6⟩
     ·simp only [Bool.not_eq_true] at e
      rw [e] at eJ
      simp only [cond_false] at eJ
      obtain⟨u,J,ad⟩:=s2.env t rR eJ
      have cH:p≠t:=fun h=>by rw [ej.2 h] at e; cases e
      exact⟨u,by rw [Array.getElem?_setIfInBounds_ne cH]; exact J,rR.mono gK ad⟩
    dw:= .refl _ _
    own:=hle.ok
    nodup:=hle.nodup
    lt:=hle.lt
    fD:=fun k au _=>au
    eF:=hle.eF }
  ·intro e fL aaD hq
   cases e with
   | normal=>
     obtain⟨JU,Ja,hb⟩:=hq
     refine⟨JU,Ja,Dd (n:=9) rfl (wpIn_mono hb ?_)⟩
     intro e oW B9 E0
     have fin:∀ (jump:Option Code) {Lr:List aJ},bw ⟨c.P,c.n,nz,aL (⟨some l,.is (.loop rec)⟩ :: ⟨some D,.dC⟩ :: Ls s g),A,some l,[]⟩ [] (⟨some l,.is (.loop { rec with state:= .busy })⟩ :: ⟨some D,.dC⟩ :: Lr) oW B9→
      ∃ oc,(Instr.endRound l jump).run c.P B9= .ok (.bool jump.isNone) oc∧bw ⟨c.P,c.n,nz,aL (⟨some l,.is (.loop rec)⟩ :: ⟨some D,.dC⟩ :: Ls s g),A,some l,[]⟩ [] (⟨some l,.is (.loop { rec with state:=if jump.isNone then .ready else .done,pending:=jump })⟩ :: ⟨some D,.dC⟩ :: Lr) oW oc:=fun jump Lr od=>by
      obtain⟨o,J,ad⟩:=od.own ⟨some l,.is (.loop { rec with state:= .busy })⟩ (by simp)
      have ld:o= .loop { rec with state:= .busy } :=ad
      subst ld
      exact⟨_,run_endRound jump J,od.pt (i:=0) rfl rfl⟩
     rcases E0 with⟨b9,eI,rfl,eU,od⟩ | ⟨q,eI,aG,rfl,eU,od⟩
     ·obtain⟨oc,bl,sf⟩:=fin none od
      refine⟨_,oc,bl,.inl ⟨b9,eI,?_⟩⟩
      have Jb:({ rec with state:=if (none:Option Code).isNone then .ready else .done,pending:=none } :Loop)=rec:=by rw [j4]; rfl
      rw [Jb] at sf
      exact sf.ends (ρ:=fun _:γ=>I.of true) (Lo:=fun g=>⟨some l,.is (.loop rec)⟩ :: ⟨some D,.dC⟩ :: Ls b9 g) eU (List.Sublist.refl _) (of_bool.2 rfl)
     ·obtain⟨oc,bl,sf⟩:=fin (some (e6 q)) od
      have key:j1 (aL (⟨some l,.is (.loop rec)⟩ :: ⟨some D,.dC⟩ :: Ls s g)) A nz (fun _:γ=>I.of false) (fun g=>⟨some l,.is (.loop { rec with state:= .done,pending:=some (e6 q) })⟩ :: ⟨some D,.dC⟩ :: Lx q g) (.returned (.bool false)) oc:=
       sf.ends (ρ:=fun _:γ=>I.of false) (Lo:=fun g=>⟨some l,.is (.loop { rec with state:= .done,pending:=some (e6 q) })⟩ :: ⟨some D,.dC⟩ :: Lx q g) eU (List.Sublist.refl _) (of_bool.2 rfl)
      exact Ku aG bl (.inr ⟨q,eI,key⟩)
   | exit id=>exact hq.elim
   | goto t=>exact hq.elim
   | ret=>exact hq.elim
   | panic JK=>exact hq.elim
   | outgrown=>exact hq.elim
 have AE:=ln.go kY nu hq (fun s g=>⟨some l,.is (.loop rec)⟩ :: ⟨some D,.dC⟩ :: jx s g) (fun s g=>by rw [pK]; simp only [mK,List.cons_append]) step cd g0 (fun r=>k r mS) aS c.bX gP (.func (.yield l) #[] #[]) hx AD I8 Iy
 have kW:a.eval (.tmp gt)= .func (.func f) #[] hx.toArray:=by simp [Act.eval,BK,vJ]
 refine⟨l,[Ex D],gP,{ target:= .fn (.func f) hx.toArray,args:= #[.func (.yield l) #[] #[]] },gP,f,#[.func (.yield l) #[] #[]] ++ hx.toArray,gP,BM,?_,fun _ _=>trivial,?_,fun h=>by simp at h,?_⟩
 ·simp only [resolve,kW]
  simp [go_sem]
 ·simp [invoke,go_sem,eg.run]
 ·refine CallsIn.G8 ?_
  have H5:(#[.func (.yield l) #[] #[]] ++ hx.toArray:Array Value)=(.func (.yield l) #[] #[] :: hx).toArray:=by simp
  rw [H5]
  refine AE.mono fun e JV ⟨aaE,⟨⟨r,Po⟩,eU⟩,he,a8,ay,aU,a0,bl⟩=> ?_
  subst he
  have oe:=BO.after a8 ay (by simpa [aL] using aU) (by simpa [aL] using a0)
  rw [List.append_nil] at oe
  cases r with
  | inl b9=>
    simp only [Lr] at oe
    subst pK
    obtain⟨o,c8,eY⟩:=oe.own ⟨some l,.is (.loop rec)⟩ (by simp)
    have pv:o= .loop rec:=eY
    subst pv
    have ni:=run_endLoop (P:=c.P) c8 (by rw [j4]; simp)
    have iz:rec.pending=none:=by rw [j4]
    rw [iz] at ni
    refine⟨none,_,ni,?_⟩
    have sg:=(oe.pt (i:=0) (cp':= .is (.loop { rec with state:= .exhausted })) (o':= .loop { rec with state:= .exhausted }) rfl rfl).oC 1
    rw [iz] at sg
    exact nb b9 Po eU D _ _ (sg.mark D)
  | inr q=>
    simp only [Lr] at oe
    subst BN
    obtain⟨o,c8,eY⟩:=oe.own ⟨some l,.is (.loop { rec with state:= .done,pending:=some (e6 q) })⟩ (by simp)
    have pv:o= .loop { rec with state:= .done,pending:=some (e6 q) } :=eY
    subst pv
    have ni:=run_endLoop (P:=c.P) c8 (by simp)
    refine⟨some (e6 q),_,ni,?_⟩
    have sg:=(oe.pt (i:=0) (cp':= .is (.loop { rec with state:= .exhausted,pending:=some (e6 q) })) (o':= .loop { rec with state:= .exhausted,pending:=some (e6 q) }) rfl rfl).oC 1
    exact AB q Po eU D _ _ (sg.mark D)
end
def aq.any (α:Type):aq α:=fun Q=> ∀ x,Q x
theorem aq.any_bind {α β:Type} {k:α→aq β} {R:β→Prop} (h:aq.bind (aq.any α) k R) (x:α):k x R:=h x
theorem gb.append {A:List Nat} {W:World} :∀ {τs σs:List I} {vs us:List Value},gb A W τs vs→gb A W σs us→gb A W (τs ++ σs) (vs ++ us)
 | _,_,_,_,.nil,h=>h
 | _,_,_,_,.cons h r,ad=> .cons h (r.append ad)
section
variable {c:c5} {E:List (Nat × I)} {L:List aJ} {ops:Array Oper} {Q:Exit→Act→World→Prop}
variable {d:Option Tmp} {ty:TypeId} {pos:String} {af:Array Edge} {g:Option (Nat × Bool)} {x y:Operand} {t t2:TypeId}
def eN (c:c5) (E:List (Nat × I)) (L:List aJ) (o:Oper) {δ:Type} (ρ:δ→I) (L':δ→List aJ):Prop:=
 ∀ a W,bw c E L a W→gj c.P o a W fun v W'=> ∃ q,bw c E (L' q) a W'∧ (ρ q).holds (aL (L' q) ++ c.bX) W' v
theorem ah.vU {o:Oper} {rest:List Oper} {bb:Nat} {δ:Type} {ρ:δ→I} {L':δ→List aJ} (h:eN c E L o ρ L') (bE:o.guard=none) (hd:o.dst=some bb) (aP:Nat.blt bb c.n=true)
 (k:∀ q,ah c ops Q rest ((bb,ρ q) :: E) (L' q)):ah c ops Q (o :: rest) E L:=fun a W s=>
 g9 bE (h a W s) fun v W' ⟨q,f,a6⟩=>by
  rw [hd]
  exact k q _ _ (f.put (by simpa using aP) a6)
theorem ah.PS {o:Oper} {rest:List Oper} {bb j gs:Nat} {b want:Bool} {δ β:Type} {σ:β→I} {L2:β→List aJ} {K:β→Prop} {val:δ→β} {ρ:δ→I} {L':δ→List aJ} (bE:o.guard=some (j,want)) (aG:(ops[j]?).bind (·.dst)=some gs)
 (ao:look E gs=some (.of b)) (hd:o.dst=some bb) (aP:Nat.blt bb c.n=true) (h:b=want→eN c E L o ρ L')
 (J:b=want→ ∀ q,K (val q)∧ρ q=σ (val q)∧L' q=L2 (val q)) (ad: ¬ b=want→ ∃ y,K y∧L=L2 y)
 (k:∀ y,K y→ah c ops Q rest ((bb,.cond (b=want) (σ y)) :: E) (L2 y)):ah c ops Q (o :: rest) E L:=fun a W s=>by
 have a5:=C8 aG ao s
 unfold c5.qq wpListIn
 by_cases hb:b=want
 ·rw [if_pos (by simp [Region.wanted,bE,a5,hb])]
  refine((h hb a W s).wpIn fun v W' ⟨q,f,a6⟩=> ?_)
  obtain⟨aF,aR,dh⟩:=J hb q
  rw [aR] at a6
  rw [dh] at f a6
  rw [hd]
  exact k _ aF _ _ (f.put (by simpa using aP) ⟨fun _=>a6,fun h=>absurd hb h⟩)
 ·rw [if_neg (by simp [Region.wanted,bE,a5,hb])]
  rw [hd]
  obtain⟨y,aF,aR⟩:=ad hb
  rw [aR] at s
  exact⟨fun _ _=>trivial,k y aF _ _ (s.put (by simpa using aP) ⟨fun h=>absurd h hb,fun _=>rfl⟩)⟩
theorem eN.perm {gG:List aJ} {o:Oper} {δ:Type} {ρ:δ→I} {L' L2:δ→List aJ} (p:L.Perm gG) (PT:∀ q,(L' q).Perm (L2 q)) (h:eN c E gG o ρ L'):eN c E L o ρ L2:=fun a W s=>by
 have:=h a W (s.perm p)
 unfold gj at this ⊢
 exact Oper.wp_mono (fun fY W' ⟨v,J,q,ad,ay⟩=>⟨v,J,q,ad.perm (PT q),(ρ q).mono (mq (PT q)) ay⟩) this
theorem eN.to {o:Oper} {δ:Type} {ρ:δ→I} {L' L2:δ→List aJ} (e:∀ q,L' q=L2 q) (h:eN c E L o ρ L'):eN c E L o ρ L2:=by
 have:L'=L2:=funext e
 subst this; exact h
theorem eN.YX {o:Oper} {δ:Type} {τ:I} (h:eN c E L o (fun _:δ=>τ) (fun _=>L)):fS c E L o τ:=fun a W s=>by
 have:=h a W s
 unfold gj at this ⊢
 exact Oper.wp_mono (fun fY W' ⟨v,J,q,ad,ay⟩=>⟨v,J,ad,ay⟩) this
theorem eN.call {o:Oper} {f:FuncId} {as:Act→List Value} {τs:List I} {Lin Lr:List aJ} {δ:Type} {ρ:δ→I} {Lo:δ→List aJ} (h:bO c.P f τs Lin ρ Lo)
 (ak:∀ a W,bw c E (Lin ++ Lr) a W→ (execOp a.eval o).run c.P W= .ok (.enter f (as a).toArray) W∧gb (aL (Lin ++ Lr) ++ c.bX) W τs (as a)):eN c E (Lin ++ Lr) o ρ (fun q=>Lo q ++ Lr):=fun a W s=>by
 obtain⟨hB,al⟩:=ak a W s
 have lH:=s.nodup
 rw [eB] at lH
 obtain⟨lS,mN,pF⟩:=List.nodup_append.1 lH
 have kq:Ext (aL (Lin ++ Lr) ++ c.bX) W (aL Lin ++ (aL Lr ++ c.bX)) W:=zK
 have gv:∀ k∈aL Lr ++ c.bX,k < W.heap.size∧k ∉ aL Lin:=fun k hm=>by
  rcases List.mem_append.1 hm with hm | hm
  ·exact⟨s.lt k (by rw [eB]; exact List.mem_append.2 (.inr hm)),fun h=>pF k h k hm rfl⟩
  ·obtain⟨J,ad⟩:=s.eF k hm
   exact⟨J,fun h=>ad (by rw [eB]; exact List.mem_append.2 (.inl h))⟩
 have cb:∀ k∈aL Lin,k < W.heap.size:=fun k hm=>s.lt k (by rw [eB]; exact List.mem_append.2 (.inl hm))
 refine .uf (f:=f) (args:=(as a).toArray) (W':=W) hB ?_
 refine(h (aL Lr ++ c.bX) W (as a) gv lS cb (fun e he=>aJ.sB (s.own e (List.mem_append.2 (.inl he))) kq fun _ _=>rfl) (al.mono kq)).mono fun e W' ⟨v,bb,he,a8,J,ad,ay,aU⟩=> ?_
 exact⟨v,he,bb,s.after a8 J ad ay,(ρ bb).mono GO aU⟩
theorem eN.NU {o:Oper} {bT:Type} [eG bT] {hp:aN bT} {Lin Lr:List aJ} {δ:Type} {ρ:δ→I} {Lo:δ→List aJ} {hq:δ→aN bT} (n m:Nat) (an:L.drop n=aV hp) (J:(L.take n).take m=Lin) (ad:(L.take n).drop m=Lr)
 (h:eN c E ((Lin ++ aV hp) ++ Lr) o ρ (fun q=>(Lo q ++ aV (hq q)) ++ Lr)):eN c E L o ρ (fun q=>(Lo q ++ Lr) ++ aV (hq q)):=by
 have e:L=(Lin ++ Lr) ++ aV hp:=by rw [← J,← ad,List.take_append_drop,← an,List.take_append_drop]
 clear an J ad
 subst e
 exact h.perm m0 fun q=>m0
theorem eN.h1 {f:FuncId} {xs:List Operand} {ats:Array TypeId} {bT:Type} [eG bT] {hp:aN bT} {τs:List I} {Lin Lr:List aJ} {δ:Type} {ρ:δ→I} {Lo:δ→List aJ} {hq:δ→aN bT} (n m:Nat) (an:L.drop n=aV hp) (eg:bM c.P f) (h:bO c.P f τs (Lin ++ aV hp) ρ (fun d=>Lo d ++ aV (hq d)))
 (J:(L.take n).take m=Lin) (ad:(L.take n).drop m=Lr) (al:ha c E L xs τs):eN c E L ⟨d,.call ⟨.value (.func f),xs.toArray,ats⟩,ty,pos,af,g⟩ ρ (fun q=>(Lo q ++ Lr) ++ aV (hq q)):=by
 have e:L=(Lin ++ Lr) ++ aV hp:=by rw [← J,← ad,List.take_append_drop,← an,List.take_append_drop]
 refine eN.NU n m an J ad (eN.call (as:=fun a=>xs.map a.eval) h fun a W s=>⟨by simp [execOp,resolve,Deferred.ofValue,Act.eval,invoke,eg.run],?_⟩)
 subst e
 exact(al.holds a W (s.perm m0.symm)).mono (mq m0)
theorem eN.l2 {f:FuncId} {xs:List Operand} {ats:Array TypeId} {τs:List I} {Lin Lr:List aJ} {δ:Type} {ρ:δ→I} {Lo:δ→List aJ} (m:Nat) (eg:bM c.P f) (h:bO c.P f τs Lin ρ Lo)
 (J:L.take m=Lin) (ad:L.drop m=Lr) (al:ha c E L xs τs):eN c E L ⟨d,.call ⟨.value (.func f),xs.toArray,ats⟩,ty,pos,af,g⟩ ρ (fun q=>Lo q ++ Lr):=by
 have e:L=Lin ++ Lr:=by rw [← J,← ad,List.take_append_drop]
 clear J ad
 subst e
 exact eN.call (as:=fun a=>xs.map a.eval) h fun a W s=>⟨by simp [execOp,resolve,Deferred.ofValue,Act.eval,invoke,eg.run],al.holds a W s⟩
theorem a7.Uw {ny:Operand} {f:FuncId} {tb τs:List I} {xs:List Operand} {ats:Array TypeId} (eg:bM c.P f) (a8:a7 c E L ny (.gy f tb)) (al:ha c E L xs τs) {a:Act} {W:World} (s:bw c E L a W):
 ∃ hx:List Value,(execOp a.eval ⟨d,.call ⟨.value ny,xs.toArray,ats⟩,ty,pos,af,g⟩).run c.P W= .ok (.enter f (xs.map a.eval ++ hx).toArray) W∧gb (aL L ++ c.bX) W (τs ++ tb) (xs.map a.eval ++ hx):=by
 obtain⟨hx,J,ad⟩:=a8 a W s
 exact⟨hx,by simp [execOp,resolve,Deferred.ofValue,J,invoke,eg.run],(al.holds a W s).append ad⟩
theorem eN.gy {ny:Operand} {f:FuncId} {tb τs:List I} {xs:List Operand} {ats:Array TypeId} {Lin Lr:List aJ} {δ:Type} {ρ:δ→I} {Lo:δ→List aJ} (m:Nat) (eg:bM c.P f) (a8:a7 c E L ny (.gy f tb)) (h:bO c.P f (τs ++ tb) Lin ρ Lo)
 (J:L.take m=Lin) (ad:L.drop m=Lr) (al:ha c E L xs τs):eN c E L ⟨d,.call ⟨.value ny,xs.toArray,ats⟩,ty,pos,af,g⟩ ρ (fun q=>Lo q ++ Lr):=by
 have e:L=Lin ++ Lr:=by rw [← J,← ad,List.take_append_drop]
 clear J ad
 subst e
 intro a W s
 obtain⟨hx,ay,aU⟩:=a7.Uw (d:=d) (ty:=ty) (pos:=pos) (af:=af) (g:=g) (ats:=ats) eg a8 al s
 have lH:=s.nodup
 rw [eB] at lH
 obtain⟨lS,mN,pF⟩:=List.nodup_append.1 lH
 have kq:Ext (aL (Lin ++ Lr) ++ c.bX) W (aL Lin ++ (aL Lr ++ c.bX)) W:=zK
 have gv:∀ k∈aL Lr ++ c.bX,k < W.heap.size∧k ∉ aL Lin:=fun k hm=>by
  rcases List.mem_append.1 hm with hm | hm
  ·exact⟨s.lt k (by rw [eB]; exact List.mem_append.2 (.inr hm)),fun h=>pF k h k hm rfl⟩
  ·obtain⟨J,ad⟩:=s.eF k hm
   exact⟨J,fun h=>ad (by rw [eB]; exact List.mem_append.2 (.inl h))⟩
 have cb:∀ k∈aL Lin,k < W.heap.size:=fun k hm=>s.lt k (by rw [eB]; exact List.mem_append.2 (.inl hm))
 refine .uf (f:=f) (W':=W) ay ?_
 refine(h (aL Lr ++ c.bX) W _ gv lS cb (fun e he=>aJ.sB (s.own e (List.mem_append.2 (.inl he))) kq fun _ _=>rfl) (aU.mono kq)).mono fun e W' ⟨v,bb,he,a8,J,ad,ay,aU⟩=> ?_
 exact⟨v,he,bb,s.after a8 J ad ay,(ρ bb).mono GO aU⟩
theorem ha.perm {gG:List aJ} (p:L.Perm gG):∀ {xs:List Operand} {τs:List I},ha c E L xs τs→ha c E gG xs τs
 | [],[],h=>h
 | _ :: _,_ :: _,h=>⟨h.1.perm p,ha.perm p h.2⟩
 | [],_ :: _,h=>h.elim
 | _ :: _,[],h=>h.elim
theorem eN.Yj {ny:Operand} {f:FuncId} {tb τs:List I} {xs:List Operand} {ats:Array TypeId} {bT:Type} [eG bT] {hp:aN bT} {Lin Lr:List aJ} {δ:Type} {ρ:δ→I} {Lo:δ→List aJ} {hq:δ→aN bT} (n m:Nat) (an:L.drop n=aV hp) (eg:bM c.P f) (a8:a7 c E L ny (.gy f tb)) (h:bO c.P f (τs ++ tb) (Lin ++ aV hp) ρ (fun d=>Lo d ++ aV (hq d)))
 (J:(L.take n).take m=Lin) (ad:(L.take n).drop m=Lr) (al:ha c E L xs τs):eN c E L ⟨d,.call ⟨.value ny,xs.toArray,ats⟩,ty,pos,af,g⟩ ρ (fun q=>(Lo q ++ Lr) ++ aV (hq q)):=by
 have e:L=(Lin ++ Lr) ++ aV hp:=by rw [← J,← ad,List.take_append_drop,← an,List.take_append_drop]
 refine eN.NU n m an J ad ?_
 subst e
 refine eN.to (fun q=>rfl) (eN.gy (Lin ++ aV hp).length eg (a8.perm m0) h List.take_left List.drop_left (al.perm m0))
theorem eN.obj {f:FuncId} {xs:List Operand} {ats:Array TypeId} {bT:Type} [eG bT] {hp:aN bT} {p:Nat} {k:bT} {τs:List I} {Lin:List aJ} {δ:Type} {ρ:δ→I} {Lo:δ→List aJ} (n:Nat) (k':δ→bT) (an:L.drop n=aV hp) (hp':pat hp p=some k) (eg:bM c.P f) (h:bO c.P f τs Lin ρ Lo)
 (au:eG.g3 p k=Lin) (iX:∀ q,eG.g3 p (k' q)=Lo q) (al:ha c E L xs τs):eN c E L ⟨d,.call ⟨.value (.func f),xs.toArray,ats⟩,ty,pos,af,g⟩ ρ (fun q=>L.take n ++ aV (cT hp p (k' q))):=by
 obtain⟨R,aW,a2⟩:=tZ hp'
 have e:L=L.take n ++ aV hp:=by rw [← an,List.take_append_drop]
 have dK:∀ {M X:List aJ},M.Perm (X ++ R)→ (L.take n ++ M).Perm (X ++ (R ++ L.take n)):=fun h=>List.perm_append_comm.trans ((h.append_right _).trans (by rw [List.append_assoc]))
 have Jf:L.Perm (Lin ++ (R ++ L.take n)):=by
  conv=>lhs; rw [e]
  exact dK (by rw [← au]; exact aW)
 refine eN.perm Jf (fun q=>(dK (a2 (k' q))).symm) ?_
 refine eN.to (fun q=>by rw [iX]) (eN.call (Lr:=R ++ L.take n) (as:=fun a=>xs.map a.eval) h fun a W s=>⟨by simp [execOp,resolve,Deferred.ofValue,Act.eval,invoke,eg.run],?_⟩)
 exact(al.holds a W (s.perm Jf.symm)).mono (mq Jf)
theorem fS.obj {f:FuncId} {xs:List Operand} {ats:Array TypeId} {bT:Type} [eG bT] {hp:aN bT} {p:Nat} {k:bT} {τs:List I} {Lin:List aJ} {δ:Type} {τ:I} (n:Nat) (an:L.drop n=aV hp) (hp':pat hp p=some k) (eg:bM c.P f) (h:bO c.P f τs Lin (fun _:δ=>τ) (fun _=>Lin))
 (au:eG.g3 p k=Lin) (al:ha c E L xs τs):fS c E L ⟨d,.call ⟨.value (.func f),xs.toArray,ats⟩,ty,pos,af,g⟩ τ:=by
 have e:L=L.take n ++ aV hp:=by rw [← an,List.take_append_drop]
 have tr:cT hp p k=hp:=by
  clear e an h au
  induction hp with
  | nil=>rfl
  | cons z r bH=>
    obtain⟨q,abC⟩:=z
    simp only [pat] at hp'
    simp only [cT]
    split at hp'
    ·rename_i e; simp only [Option.some.injEq] at hp'; rw [if_pos e,hp']
    ·rename_i e; rw [if_neg e,bH hp']
 refine eN.YX (eN.to (fun q=> ?_) (eN.obj (d:=d) (ty:=ty) (pos:=pos) (af:=af) (g:=g) (ats:=ats) n (fun _=>k) an hp' eg h au (fun _=>au) al))
 rw [tr,← e]
theorem ah.VW {l:List Oper} {bT:Type} [eG bT] {hp:aN bT} {p:Nat} {Lin Lr:List aJ} (n m:Nat) (mk:bT) (an:L.drop n=aV hp) (J:(L.take n).take m=Lin) (ad:(L.take n).drop m=Lr) (au:eG.g3 p mk=Lin) (hm:p∈aL Lin)
 (k:∀ a:Nat × aN bT,a.1 ∉ hp.map (·.1)∧a.2=(a.1,mk) :: hp→a.1=p→ah c ops Q l E (Lr ++ aV a.2)):ah c ops Q l E L:=fun a W s=>by
 have e:L=(Lin ++ Lr) ++ aV hp:=by rw [← J,← ad,List.take_append_drop,← an,List.take_append_drop]
 have dK:L.Perm (Lr ++ aV ((p,mk) :: hp)):=by
  rw [e,aV,au,← List.append_assoc]
  exact List.perm_append_comm.append_right _
 refine k (p,(p,mk) :: hp) ⟨fun BU=> ?_,rfl⟩ rfl _ _ (s.perm dK)
 have fV:=s.nodup
 rw [e,eB,eB] at fV
 exact(List.nodup_append.1 fV).2.2 p (List.mem_append.2 (.inl hm)) p (MS BU) rfl
end
section
variable {c:c5} {E:List (Nat × I)} {L:List aJ} {ops:Array Oper} {Q:Exit→Act→World→Prop}
theorem c3.q {hs:List dj} {i np:Nat} {o:Oper} {h:dj} (ck:c3 c ops Q hs E L i o h):Hv c ops Q hs E L np i o h:=fun hd E' L' J ad _=>ck hd E' L' J ad
structure zO (P:Program) (f:FuncId) (τs:List I) {bT:Type} [eG bT] (hp:aN bT) {α:Type} (τ:α→I) (run:∀ {σ ε:Type},(α→σ→Option (σ ⊕ ε))→σ→Option (σ ⊕ ε)):Prop where
 go:∀ {σ ε γ:Type} (Ls:σ→γ→List aJ) (Lx:ε→γ→List aJ) (jx:σ→γ→List aJ),(∀ s g,Ls s g=jx s g ++ aV hp)→I7 P f τs [] τ (run (σ:=σ) (ε:=ε)) Ls Lx
theorem zO.of {P:Program} {f:FuncId} {fn:Func} {code:Code} {n:Nat} {τs:List I} {bT:Type} [eG bT] {hp:aN bT} {α:Type} {τ:α→I} {run:∀ {σ ε:Type},(α→σ→Option (σ ⊕ ε))→σ→Option (σ ⊕ ε)}
 (a8:P.funcs[f]? =some fn) (hb:fn.body=some code) (aP:fn.ntmps=n) (hlen:Nat.ble (τs.length + 1) n=true)
 (h:∀ {σ ε γ:Type} (Ls:σ→γ→List aJ) (Lx:ε→γ→List aJ) (jx:σ→γ→List aJ),(∀ s g,Ls s g=jx s g ++ aV hp)→ ∀ (step:α→σ→Option (σ ⊕ ε)) (cd:σ) (g0:γ) (r:σ ⊕ ε),run step cd=some r→
  ∀ W A u,xU P u τ Ls Lx step (fun c0 W'=>Ext (aL (Ls cd g0) ++ A) W c0 W')→
    ai ⟨P,n,W,aL (Ls cd g0),A,none,[]⟩ (bodyPost P fn (j1 (aL (Ls cd g0)) A W (fun _:γ=> .eD []) (fun g=> [] ++ Lr Ls Lx r g))) code (params 0 (.eq u :: τs)) (Ls cd g0)):zO P f τs hp τ run:=by
 refine⟨?_⟩
 intro σ ε γ Ls Lx jx mK step cd g0 r aS A W u vs ao a6 a5
 refine calls_of_wp a8 hb (wpIn_wide.1 (h Ls Lx jx mK step cd g0 r aS W A u a5 _ _ ?_))
 have oM:gb (aL (Ls cd g0) ++ A) W (.eq u :: τs) (u :: vs):= .cons rfl a6
 have kx:=oM.length
 have hle:τs.length + 1≤n:=Nat.le_of_ble_eq_true hlen
 exact
 {defers:=rfl
  size:=by simp at kx; simp [aP,kx]; omega
  env:=fun t τ eJ=>by
   obtain⟨_,v,ad,ay⟩:=tV oM 0 t τ eJ
   refine⟨v,?_,ay⟩
   have cb:t < (u :: vs).length:=(List.getElem?_eq_some_iff.1 ad).1
   rw [Array.getElem?_append_left (by simpa using cb)]
   simpa using ad
  dw:= .refl _ _
  own:=ao.ok
  nodup:=ao.nodup
  lt:=ao.lt
  fD:=fun k au _=>au
  eF:=ao.eF }
theorem Wm {bT:Type} [eG bT] {σ γ:Type} {Ls jx:σ→γ→List aJ} {hp:aN bT} {s:σ} {g:γ} {p:Nat} {k:bT} {e:aJ} (n:Nat) (an:L.drop n=Ls s g) (mK:∀ s g,Ls s g=jx s g ++ aV hp) (h:pat hp p=some k) (au:eG.g3 p k= [e]):e∈L:=
 Nv (hq:=fun _=>hp) n an mK h au
theorem K4 {gt p:Nat} {assign body:Code} {f:FuncId} {nW:List I} {bT:Type} [eG bT] {hp:aN bT} {α σ ε γ:Type} {τ:α→I} {run:∀ {σ ε:Type},(α→σ→Option (σ ⊕ ε))→σ→Option (σ ⊕ ε)}
 {Ls:σ→γ→List aJ} {Lx:ε→γ→List aJ} {step:α→σ→Option (σ ⊕ ε)} {cd:σ} {g0:γ} {r:σ ⊕ ε} (jx:σ→γ→List aJ) (e6:ε→Code)
 (ak:c.rd=none) (eg:bM c.P f) (bE:look E gt=some (.gy f nW)) (ln:zO c.P f nW hp τ run) (aS:run step cd=some r) (mK:∀ s g,Ls s g=jx s g ++ aV hp) (an:L=Ls cd g0) (hp':Nat.blt p c.n=true)
 (qb:∀ x s r,step x s=some r→ ∀ g (nm:World) (nv nn:List Nat) (l D:Nat) (rec:Loop),rec.state= .ready→
  ai ⟨c.P,c.n,nm,nv,nn,some l,[]⟩ (Exit.then (Fo ⟨c.P,c.n,nm,nv,nn,some l,[]⟩ l body (Fm ⟨c.P,c.n,nm,nv,nn,some l,[]⟩ e6 l D { rec with state:= .busy } Ls Lx r)) (fun _ _ _=>False)) assign ((p,τ x) :: E) (⟨some l,.is (.loop rec)⟩ :: ⟨some D,.dC⟩ :: Ls s g))
 (nb:∀ b9,r= .inl b9→ ∀ g D,ae { c with ds:=D :: c.ds } Q .normal E (⟨some D,.dC⟩ :: Ls b9 g))
 (AB:∀ q,r= .inr q→ ∀ g D,ai { c with ds:=D :: c.ds } Q (e6 q) E (⟨some D,.dC⟩ :: Lx q g)):
 ai c Q (.rangeFunc (.tmp gt) #[p] assign body) E L:=
 S3 (Lin:= []) (run:=run) e6 ak eg bE (fun aF aR nu=>ln.go (fun s g=>aF :: aR :: Ls s g) nu (fun s g=>aF :: aR :: jx s g) (fun s g=>by rw [mK]; rfl)) aS an hp' qb nb AB
end
structure Raw where
 f:FuncId
 us:Option (List Value)
instance:Inhabited Raw:=⟨⟨0,none⟩⟩
def Raw.val:Raw→Value
 | ⟨f,some us⟩=> .func (.func f) #[] us.toArray
 | ⟨_,none⟩=> .nilFunc
instance:ag Raw where
 size:=1
 agg:=false
 rep _ _ cs x:=cs= [x.val]
 len h:=by rw [h]; rfl
 one h:=by
  intro v a6
  rw [h,List.mem_singleton] at a6
  subst a6
  rename_i x
  obtain⟨f,us⟩:=x
  cases us <;> rfl
 flat _:=rfl
 mono _ h:=h
instance:bc Raw:=⟨[.nilFunc],fun _ _=>rfl⟩
theorem MV {A W v} {x:Raw} :(I.of x).holds A W v↔v=x.val:=by
 constructor
 ·intro h
  exact nG (by have:=h.1; exact this) h.2
 ·intro h
  subst h
  obtain⟨f,us⟩:=x
  cases us <;> exact⟨rfl,rfl⟩
section
variable {c:c5} {E:List (Nat × I)} {L:List aJ} {ops:Array Oper} {Q:Exit→Act→World→Prop}
variable {d:Option Tmp} {ty:TypeId} {pos:String} {af:Array Edge} {g:Option (Nat × Bool)} {x y:Operand} {t t2:TypeId}
theorem gb.eqs {A:List Nat} {W:World} :∀ {us vs:List Value},gb A W (us.map I.eq) vs→vs=us
 | [],_,.nil=>rfl
 | _ :: _,_,.cons h r=>by rw [r.eqs]; congr 1
theorem gb.NV {A:List Nat} {W:World} :∀ {us:List Value},gb A W (us.map I.eq) us
 | []=> .nil
 | _ :: _=> .cons rfl .NV
theorem WB {f:FuncId} {xs:List Operand} {us:List Value} (al:ha c E L xs (us.map I.eq)):b4 c E L ⟨d,.makeFunc (.func f) #[] xs.toArray,ty,pos,af,g⟩ (.of (⟨f,some us⟩:Raw)):= .pure fun a W s=>
 ⟨.func (.func f) #[] us.toArray,by
   have h:=(al.holds a W s).eqs
   simp [execOp,Instr.makeFunc,h],MV.2 rfl⟩
theorem Tw {f:FuncId} {us:List Value} (al:a7 c E L x (.of (⟨f,some us⟩:Raw))):a7 c E L x (.gy f (us.map I.eq)):=fun a W s=>
 ⟨us,MV.1 (al a W s),.NV⟩
theorem ah.Fj {o:Oper} {rest:List Oper} {bb j gs:Nat} {b want:Bool} {β γ BT:Type} {m:aq β} {z:β} {k:β→aq BT} {R:BT→Prop} (h:aq.bind (bif decide (b=want) then m else aq.ret z) k R) (σ:β→I) (L2:β→γ→List aJ) (g0:γ) (an:L=L2 z g0)
 (bE:o.guard=some (j,want)) (aG:(ops[j]?).bind (·.dst)=some gs) (ao:look E gs=some (.of b)) (hd:o.dst=some bb) (aP:Nat.blt bb c.n=true)
 (bJ:b=want→m (fun r=>k r R)→eN c E L o (fun q: {r // k r R} × γ=>σ q.1.1) (fun q=>L2 q.1.1 q.2))
 (ml:∀ y g,k y R→ah c ops Q rest ((bb,.cond (b=want) (σ y)) :: E) (L2 y g)):ah c ops Q (o :: rest) E L:=by
 by_cases hb:b=want
 ·have hm:m (fun r=>k r R):=by
   have cX:(bif decide (b=want) then m else aq.ret z) (fun r=>k r R):=h
   rw [decide_eq_true hb] at cX; exact cX
  exact ah.PS (β:=β × γ) (K:=fun y=>k y.1 R) (σ:=fun y=>σ y.1) (L2:=fun y=>L2 y.1 y.2) (val:=fun q=>(q.1.1,q.2)) bE aG ao hd aP (fun _=>bJ hb hm) (fun _ q=>⟨q.1.2,rfl,rfl⟩) (fun h=>absurd hb h) fun y a5=>ml y.1 y.2 a5
 ·have hm:k z R:=by
   have cX:(bif decide (b=want) then m else aq.ret z) (fun r=>k r R):=h
   rw [decide_eq_false hb] at cX; exact cX
  exact ah.PS (δ:=Unit) (β:=β × γ) (K:=fun y=>k y.1 R) (σ:=fun y=>σ y.1) (L2:=fun y=>L2 y.1 y.2) (val:=fun _=>(z,g0)) (ρ:=fun _=>σ z) (L':=fun _=>L2 z g0) bE aG ao hd aP (fun h=>absurd h hb) (fun h=>absurd h hb) (fun _=>⟨(z,g0),hm,an⟩) fun y a5=>ml y.1 y.2 a5
end
section
variable {c:c5} {E:List (Nat × I)} {L:List aJ} {ops:Array Oper} {Q:Exit→Act→World→Prop}
theorem ah.VX {l:List Oper} {p q:Nat} (e5:Nat) (ao:look E e5=some (.eq (.pointer (some ⟨p,0,none⟩)))) (he:q=p) (k:ah c ops Q l ((e5,.of (some q:Ref)) :: E) L):ah c ops Q l E L:=fun a W s=>by
 subst he
 refine k a W (s.less fun t τ h=> ?_)
 simp only [look] at h
 by_cases e:Nat.beq e5 t=true
 ·rw [e] at h
  simp only [cond_true,Option.some.injEq] at h
  have:=ej.1 e
  subst this
  subst h
  exact⟨_,ao,fun A W v a6=>sN.2 a6⟩
 ·simp only [Bool.not_eq_true] at e
  rw [e] at h
  exact⟨τ,h,fun _ _ _ h=>h⟩
end
section
variable {c:c5} {E:List (Nat × I)} {L:List aJ} {ops:Array Oper} {Q:Exit→Act→World→Prop}
def xl (ops:Array Oper) (n:Nat) (hs:List (Option Nat × List Nat × List Nat × List Nat)) (E:List Nat):Bool:=
 decide (hs.length=n) && decide (n≤ops.size) && decide (hs.filterMap (·.1)).Nodup && ((List.range n).all fun m=>match hs[m]? with | some (some s,up,_)=> !E.contains s || (List.range n).all fun k=>decide (k=m) || up.contains k | _=>true) &&
 ((List.range n).all fun i=>match hs[i]? with
   | none=>false
   | some (_,up,rd,wr)=>
     (((ops[i]?).map fun o=>(o.dst ==(hs[i]?).bind (·.1)) && o.after.all fun e=> !Region.binds .any e || decide (e.on < i)).getD false) &&
     (up.all fun k=>Region.waitsFor .any ops i k || (List.range i).any fun m=>Region.waitsFor .any ops i m && ((hs[m]?).map fun h=>h.2.1.contains k).getD false) &&
     ((List.range n).all fun k=>match hs[k]? with
       | none=>true
       | some (_,I1,_,BF)=>
         (!(decide (k < i) && BF.any rd.contains) || up.contains k) && (!(decide (i < k) && BF.any fun j=>rd.contains j || wr.contains j) || I1.contains i))) &&
 (decide (n=ops.size) || (Region.sinkB .any ops n && Region.chainB .any ops n)) &&
 Region.seqB .any ops (ops.size - n) n ((List.range n).foldl (fun l i=>l.setIfInBounds i true) (Array.replicate ops.size false))
theorem Sy {n:Nat} {hs:List dj} {np:Nat} (hw:∀ h∈hs,∀ j∈h.wr,j < np∨L.length≤j) (gX:xl ops n (iK hs) (E.map (·.1))=true) (ck:ow c ops Q hs E L np 0 (ops.toList.take n) hs)
 (bJ:∀ hd,ah c ops Q (ops.toList.drop n) (hk (fun _=>true) hd E 0 hs) (gz (fun _=>true) hd 0 hs L)):
 ∀ m (a3:Array Bool) (hd:Nat→Hid) (a:Act) (W:World),((List.range n).filter fun i=> !a3.getD i true).length≤m→HeadInv .any ops n a3→
   bw c (hk (fun i=>a3.getD i false) hd E 0 hs) (gz (fun i=>a3.getD i false) hd 0 hs L) a W→wpAnyIn c.F 9 c.P .any ops Q (m + (ops.size - n)) a3 a W:=by
 simp only [xl,Bool.and_eq_true,decide_eq_true_eq,Bool.or_eq_true] at gX
 obtain⟨⟨⟨⟨⟨⟨H0,aP⟩,fV⟩,A6⟩,j3⟩,uW⟩,po⟩:=gX
 have hlen:hs.length=n:=by simpa [iK] using H0
 have k8:∀ i,i < n→ ∃ h o,hs[i]? =some h∧ops[i]? =some o:=fun i ar=>⟨hs[i]'(by omega),ops[i],by simp,by simp⟩
 have pe:∀ (i:Nat) (h:dj) (o:Oper),hs[i]? =some h→ops[i]? =some o→
  o.dst=h.slot∧ (∀ e∈o.after,Region.binds .any e=true→e.on < i)∧
  (∀ k∈h.up,Region.waitsFor .any ops i k=true∨ ∃ m,m < i∧Region.waitsFor .any ops i m=true∧ ∃ x,hs[m]? =some x∧k∈x.up)∧
  (∀ (k:Nat) (x:dj),hs[k]? =some x→ (k < i→ (∃ j∈x.wr,h.rd.contains j=true)→k∈h.up)∧ (i < k→ (∃ j∈x.wr,h.rd.contains j=true∨h.wr.contains j=true)→i∈x.up)):=by
  intro i h o ar a9
  have cb:i < n:=by have:=(List.getElem?_eq_some_iff.1 ar).1; omega
  have J:=List.all_eq_true.1 j3 i (List.mem_range.2 cb)
  rw [wZ ar] at J
  simp only [Bool.and_eq_true] at J
  obtain⟨⟨ad,ay⟩,aU⟩:=J
  simp only [a9,Option.map_some,Option.getD_some,Bool.and_eq_true,Option.bind_some,beq_iff_eq] at ad
  refine⟨ad.1,fun e he hb=> ?_,fun k au=> ?_,fun k x al=> ?_⟩
  ·have:=Array.all_eq_true_iff_forall_mem.1 ad.2 e he
   simp [hb] at this
   exact this
  ·have:=List.all_eq_true.1 ay k au
   simp only [Bool.or_eq_true,List.any_eq_true,Bool.and_eq_true,List.mem_range] at this
   rcases this with a0 | ⟨m,a0,bl,cP⟩
   ·exact .inl a0
   ·have hm:m < hs.length:=by omega
    rw [wZ (List.getElem?_eq_getElem hm)] at cP
    exact .inr ⟨m,a0,bl,hs[m],List.getElem?_eq_getElem hm,by simpa using cP⟩
  ·have Bt:k < n:=by have:=(List.getElem?_eq_some_iff.1 al).1; omega
   have:=List.all_eq_true.1 aU k (List.mem_range.2 Bt)
   rw [wZ al] at this
   simp only [Bool.and_eq_true,Bool.or_eq_true,Bool.not_eq_true',Bool.and_eq_false_iff,decide_eq_false_iff_not,List.contains_iff_mem] at this
   refine⟨fun oL ⟨j,aG,aS⟩=> ?_,fun kU ⟨j,aG,aS⟩=> ?_⟩
   ·rcases this.1 with(a0 | a0) | a0
    ·exact absurd oL a0
    ·have:=List.any_eq_false.1 a0 j aG
     exact absurd aS this
    ·exact a0
   ·rcases this.2 with(a0 | a0) | a0
    ·exact absurd kU a0
    ·have:=List.any_eq_false.1 a0 j aG
     simp only [Bool.or_eq_true] at this
     exact absurd aS this
    ·exact a0
 have uZ:∀ (i j s:Nat) (x y:dj),hs[i]? =some x→hs[j]? =some y→x.slot=some s→y.slot=some s→i=j:=by
  have key:∀ (l:List dj),((iK l).filterMap (·.1)).Nodup→ ∀ (i j s:Nat) (x y:dj),l[i]? =some x→l[j]? =some y→x.slot=some s→y.slot=some s→i=j:=by
   intro l
   induction l with
   | nil=>intro _ i j s x y h; simp at h
   | cons z r bH=>
     intro fV i j s x y ar aG al a5
     have aS:((iK r).filterMap (·.1)).Nodup:=by
      cases df:z.slot with
      | none=>simpa [iK,df] using fV
      | some w=>
        simp only [iK,List.map_cons,List.filterMap_cons,df] at fV
        exact(List.nodup_cons.1 fV).2
     have pn:z.slot=some s→ ∀ (q:Nat) (v:dj),r[q]? =some v→v.slot≠some s:=fun df q v hq a6=>by
      simp only [iK,List.map_cons,List.filterMap_cons,df] at fV
      exact(List.nodup_cons.1 fV).1 (List.mem_filterMap.2 ⟨_,List.mem_map.2 ⟨v,List.mem_of_getElem? hq,rfl⟩,a6⟩)
     cases i with
     | zero=>
       simp only [List.getElem?_cons_zero,Option.some.injEq] at ar
       subst ar
       cases j with
       | zero=>rfl
       | succ j=>simp only [List.getElem?_cons_succ] at aG; exact absurd a5 (pn al j y aG)
     | succ i=>
       simp only [List.getElem?_cons_succ] at ar
       cases j with
       | zero=>
         simp only [List.getElem?_cons_zero,Option.some.injEq] at aG
         subst aG
         exact absurd al (pn a5 i x ar)
       | succ j=>simp only [List.getElem?_cons_succ] at aG; rw [bH aS i j s x y ar aG al a5]
  exact key hs fV
 have H2:∀ (t:Nat) (τ:I),look E t=some τ→ ∀ (m:Nat) (h:dj),hs[m]? =some h→h.slot=some t→ ∀ k,k < n→k≠m→k∈h.up:=by
  intro t τ ao m h hm eI k au vF
  have mc:m < n:=by have:=(List.getElem?_eq_some_iff.1 hm).1; omega
  have J:=List.all_eq_true.1 A6 m (List.mem_range.2 mc)
  rw [show(iK hs)[m]? =some (h.slot,h.up,h.rd,h.wr) by simp [iK,hm],eI] at J
  have ta:t∈E.map (·.1):=by
   clear A6 J ck bJ hm eI
   induction E with
   | nil=>simp [look] at ao
   | cons x r bH=>
     obtain⟨s,σ⟩:=x
     simp only [look] at ao
     by_cases e:Nat.beq s t=true
     ·have:=ej.1 e; subst this; simp
     ·simp only [Bool.not_eq_true] at e
      rw [e] at ao
      simp only [List.map_cons,List.mem_cons]
      exact .inr (bH ao)
  replace J:(!(E.map (·.1)).contains t || (List.range n).all fun k=>decide (k=m) || h.up.contains k)=true:=J
  rw [show(E.map (·.1)).contains t=true by simpa using ta] at J
  have ad:∀ x,x < n→x=m∨x∈h.up:=by simpa using J
  exact(ad k au).resolve_left vF
 have n6:∀ (a3:Array Bool),HeadInv .any ops n a3→ ∀ (d i:Nat),i≤d→ ∀ (h:dj) (o:Oper),hs[i]? =some h→ops[i]? =some o→ (∀ e∈o.after,Region.binds .any e=true→a3.getD e.on false=true)→ ∀ k∈h.up,a3.getD k false=true:=by
  intro a3 inv d
  induction d with
  | zero=>
    intro i ar h o dm nt hw k au
    rcases (pe i h o dm nt).2.2.1 k au with J | ⟨m,hm,_⟩
    ·obtain⟨kf,ho,e,he,hb,kV⟩:=Region.waitsFor_spec J
     rw [nt] at ho; cases ho
     rw [← kV]; exact hw e he hb
    ·omega
  | succ d bH=>
    intro i ar h o dm nt hw k au
    rcases (pe i h o dm nt).2.2.1 k au with J | ⟨m,hm,J,x,al,I2⟩
    ·obtain⟨kf,ho,e,he,hb,kV⟩:=Region.waitsFor_spec J
     rw [nt] at ho; cases ho
     rw [← kV]; exact hw e he hb
    ·obtain⟨kf,ho,e,he,hb,kV⟩:=Region.waitsFor_spec J
     rw [nt] at ho; cases ho
     have mc:=hw e he hb
     rw [kV] at mc
     obtain⟨aT,pU,mf,pG⟩:=k8 m (by have:=(List.getElem?_eq_some_iff.1 dm).1; omega)
     exact bH m (by omega) x pU al pG (fun e he hb=>inv.closed m pU pG mc e he hb) k I2
 have nb:∀ (a3:Array Bool) (hd:Nat→Hid) (a:Act) (W:World),(∀ i,i < n→a3.getD i true=true)→HeadInv .any ops n a3→
  bw c (hk (fun i=>a3.getD i false) hd E 0 hs) (gz (fun i=>a3.getD i false) hd 0 hs L) a W→wpAnyIn c.F 9 c.P .any ops Q (ops.size - n) a3 a W:=by
  intro a3 hd a W pf inv st
  have ao:=Gk inv aP pf
  rw [← ao] at po
  have uX:(ops.toList.drop n).length=ops.size - n:=by simp
  rw [← uX]
  rw [← uX] at po
  refine za (ops.toList.drop n) n a3 a W (fun j=>by simp) po (bJ hd a W ?_)
  have E3:∀ m,m < hs.length→a3.getD (0 + m) false=true:=fun m hm=>by
   have J:=pf m (by omega)
   have ad:m < a3.size:=by rw [inv.size]; omega
   simpa [ad] using J
  rw [Gm (ls':=fun _=>true) E3,GM (ls':=fun _=>true) E3] at st
  exact st
 have more:∀ f (a3:Array Bool) a W,wpAnyIn c.F 9 c.P .any ops Q f a3 a W→wpAnyIn c.F 9 c.P .any ops Q (f + 1) a3 a W:=by
  intro f
  induction f with
  | zero=>intro a3 a W h; exact⟨fun _=>h.2,fun i ar=>by rw [h.1] at ar; cases ar⟩
  | succ f Bo=>intro a3 a W h; exact⟨h.1,fun i ar=>wpOpIn_mono (fun fY pR cX=>Bo _ fY pR cX) (h.2 i ar)⟩
 intro m
 induction m with
 | zero=>
   intro a3 hd a W hm inv st
   rw [Nat.zero_add]
   refine nb a3 hd a W (fun i ar=> ?_) inv st
   cases h:a3.getD i true with
   | true=>rfl
   | false=>
     have:i∈ (List.range n).filter fun i=> !a3.getD i true:=List.mem_filter.2 ⟨List.mem_range.2 ar,by rw [h]; rfl⟩
     rw [List.length_eq_zero_iff.1 (Nat.le_zero.1 hm)] at this
     cases this
 | succ m bH=>
   intro a3 hd a W hm inv st
   rw [show m + 1 + (ops.size - n)=(m + (ops.size - n)) + 1 by omega]
   by_cases AG:∀ i,i < n→a3.getD i true=true
   ·have J:=nb a3 hd a W AG inv st
    have key:∀ k,wpAnyIn c.F 9 c.P .any ops Q (k + (ops.size - n)) a3 a W:=by
     intro k
     induction k with
     | zero=>rw [Nat.zero_add]; exact J
     | succ k Bp=>rw [show k + 1 + (ops.size - n)=(k + (ops.size - n)) + 1 by omega]; exact more _ _ _ _ Bp
    exact more _ _ _ _ (key m)
   have hex:∃ i,i < n∧a3.getD i true=false:=by
    false_or_by_contra
    rename_i ad
    exact AG fun i ar=>by
     cases h:a3.getD i true with
     | true=>rfl
     | false=>exact absurd ⟨i,ar,h⟩ ad
   have z2:∀ t∈Region.ready .any ops a3,t < n:=by
    intro t pC
    rcases Nat.lt_or_ge t n with h | h
    ·exact h
    ·obtain⟨i,ar,hT⟩:=hex
     have Oy:n < ops.size∨n=ops.size:=by omega
     have YY:t < ops.size:=by
      obtain⟨_,o,a9,_⟩:=mem_ready.1 pC
      exact(Array.getElem?_eq_some_iff.1 a9).1
     rcases uW with J | J
     ·omega
     ·exact absurd pC (tail_waits J.1 J.2 (by omega) inv _ i rfl ar hT t h)
   refine⟨fun bG=> ?_,fun i ar=> ?_⟩
   ·exfalso
    have key:∀ d i,i≤d→i < n→a3.getD i true=true:=by
     intro d
     induction d with
     | zero=>
       intro i vw ar
       cases ao:a3.getD i true with
       | true=>rfl
       | false=>
         obtain⟨h,o,dm,a9⟩:=k8 i ar
         have:i∈Region.ready .any ops a3:=mem_ready.2 ⟨ao,o,a9,fun e he hb=>by have:=(pe i h o dm a9).2.1 e he hb; omega⟩
         rw [bG] at this; cases this
     | succ d BG=>
       intro i vw ar
       cases ao:a3.getD i true with
       | true=>rfl
       | false=>
         obtain⟨h,o,dm,a9⟩:=k8 i ar
         have:i∈Region.ready .any ops a3:=mem_ready.2 ⟨ao,o,a9,fun e he hb=>by
          have J:=(pe i h o dm a9).2.1 e he hb
          have ad:=BG e.on (by omega) (by omega)
          have ay:e.on < a3.size:=by rw [inv.size]; omega
          simpa [ay] using ad⟩
         rw [bG] at this; cases this
    obtain⟨i,ar,hT⟩:=hex
    have:=key i i (Nat.le_refl _) ar
    rw [hT] at this; cases this
   ·have ef:i < n:=z2 i ar
    obtain⟨hT,o,a9,m4⟩:=mem_ready.1 ar
    obtain⟨h,_,dm,_⟩:=k8 i ef
    have js:a3.getD i false=false:=getD_both hT
    have pr:i < a3.size:=by rw [inv.size]; omega
    have pq:((List.range n).filter fun j=> !(a3.setIfInBounds i true).getD j true).length≤m:=by
     have:((List.range n).filter fun j=> !(a3.setIfInBounds i true).getD j true).length < ((List.range n).filter fun j=> !a3.getD j true).length:=by
      refine DK (fun j=> !a3.getD j true) (fun j=> !(a3.setIfInBounds i true).getD j true) i (by simp only [hT]; rfl) ?_ (fun j aG=> ?_) n ef
      ·simp [pr]
      ·by_cases e:i=j
       ·subst e; simp only [hT]; rfl
       ·rw [getD_set_ne true e] at aG; exact aG
     omega
    have rE:=inv.set ar ef
    obtain⟨A2,z3,Xc,s9⟩:=pe i h o dm a9
    have vi:=n6 a3 inv i i (Nat.le_refl _) h o dm a9 m4
    have z5:∀ (k:Nat) (x:dj),hs[k]? =some x→i < k→ (∃ j∈x.wr,h.rd.contains j=true∨h.wr.contains j=true)→a3.getD k false=false:=fun k x al kU aG=>by
     have J:=(s9 k x al).2 kU aG
     cases au:a3.getD k false with
     | false=>rfl
     | true=>
       obtain⟨_,ok,_,hV⟩:=k8 k (by have:=(List.getElem?_eq_some_iff.1 al).1; omega)
       have:=n6 a3 inv k k (Nat.le_refl _) x ok al hV (fun e he hb=>inv.closed k ok hV au e he hb) i J
       rw [js] at this; cases this
    have z6:hs=hs.take i ++ h :: hs.drop (i + 1):=by
     have vG:i < hs.length:=by omega
     rw [List.getElem?_eq_getElem vG] at dm
     cases dm
     rw [List.getElem_cons_drop]
     exact(List.take_append_drop i hs).symm
    have BH:(hs.take i).length=i:=by rw [List.length_take]; omega
    have lR:∀ (t:Nat) (τ:I),look E t=some τ→ ∀ (m:Nat) (x:dj),hs[m]? =some x→a3.getD (0 + m) false=true→x.slot≠some t:=fun t τ ao m x al rZ eI=>by
     rw [Nat.zero_add] at rZ
     have I3:i≠m:=fun e=>by subst e; rw [js] at rZ; cases rZ
     obtain⟨_,pU,_,pG⟩:=k8 m (by have:=(List.getElem?_eq_some_iff.1 al).1; omega)
     have:=n6 a3 inv m m (Nat.le_refl _) x pU al pG (fun e he hb=>inv.closed m pU pG rZ e he hb) i (H2 t τ ao m x al eI i ef I3)
     rw [js] at this; cases this
    have AA:=(ow.get ck i h o dm (by rw [List.getElem?_take,if_pos ef,Array.getElem?_toList]; exact a9))
    rw [Nat.zero_add] at AA
    have BI:=AA hd (hk (fun i=>a3.getD i false) hd E 0 hs) (gz (fun i=>a3.getD i false) hd 0 hs L) (fun t τ ao=> ?_) (fun j e aG aS=> ?_) (Dw hw)
    ·have hw:=zg (K:=fun a W=> ∃ x,bw c (nh h.slot (h.τ (fX h.up i (iy hd i x))) (hk (fun i=>a3.getD i false) hd E 0 hs)) (lI (gz (fun i=>a3.getD i false) hd 0 hs L) (h.fw (fX h.up i (iy hd i x))) h.wr) a W) a9 (BI a W st)
     refine wpOpIn_mono (fun fY W' ⟨x,mO⟩=> ?_) hw
     have BJ:∀ j,j≠i→iy hd i x j=hd j:=fun j aG=>by
      have:Nat.beq j i=false:=by
       cases hb:Nat.beq j i
       ·rfl
       ·exact absurd (ej.1 hb) aG
      simp only [iy,this,cond_false]
     have vH:∀ (j:Nat) (y:dj),hs[j]? =some y→a3.getD j false=true→fX y.up j (iy hd i x)=fX y.up j hd:=fun j y a5 aG=>by
      obtain⟨_,kf,_,ho⟩:=k8 j (by have:=(List.getElem?_eq_some_iff.1 a5).1; omega)
      refine Le (BJ j fun e=>by subst e; rw [js] at aG; cases aG) fun k au=>BJ k fun e=> ?_
      have:=n6 a3 inv j j (Nat.le_refl _) y kf a5 ho (fun e he hb=>inv.closed j kf ho aG e he hb) k au
      subst e
      rw [js] at this; cases this
     have vI:(a3.setIfInBounds i true).getD i false=true:=by simp [pr]
     have fR:∀ j,j≠i→ (a3.setIfInBounds i true).getD j false=a3.getD j false:=fun j aG=>getD_set_ne false (fun e=>aG e.symm)
     refine bH _ (iy hd i x) fY W' pq rE ?_
     have Iw:gz (fun j=>(a3.setIfInBounds i true).getD j false) (iy hd i x) 0 hs L=lI (gz (fun i=>a3.getD i false) hd 0 hs L) (h.fw (fX h.up i (iy hd i x))) h.wr:=by
      apply List.ext_getElem?
      intro j
      rw [uB,Dl,uB]
      by_cases aG:h.wr.contains j=true
      ·rw [if_pos aG]
       have aF:∀ (ls:Nat→Bool) (g:Nat→Hid) (v:Option aJ),(∀ k x,hs[k]? =some x→i < k→x.wr.contains j=true→ls k=false)→jL ls g j 0 hs v=(bif ls i then(jL ls g j 0 (hs.take i) v).map (fun _=>h.fw (fX h.up i g) j) else jL ls g j 0 (hs.take i) v):=fun ls g v BE=>by
        conv=>lhs; rw [z6]
        rw [zj,BH,Nat.zero_add,jL,aG,Bool.and_true,zq]
        intro k x al hw
        rw [List.getElem?_drop] at al
        exact BE (i + 1 + k) x al (by omega) hw
       have eO:∀ k x,hs[k]? =some x→i < k→x.wr.contains j=true→a3.getD k false=false:=fun k x al kU hw=>z5 k x al kU ⟨j,by simpa using hw,.inr aG⟩
       rw [aF (fun j=>(a3.setIfInBounds i true).getD j false) (iy hd i x) _ (fun k x al kU hw=>by rw [fR k (by omega)]; exact eO k x al kU hw),aF (fun j=>a3.getD j false) hd _ eO]
       simp only [vI,js,cond_true,cond_false]
       rw [tY (ls':=fun j=>a3.getD j false) (hd':=hd) fun q x al _=>by
        have hq:q < i:=by have:=(List.getElem?_eq_some_iff.1 al).1; omega
        rw [List.getElem?_take,if_pos hq] at al
        rw [Nat.zero_add]
        exact⟨fR q (by omega),fun ao=>vH q x al (by rw [fR q (by omega)] at ao; exact ao)⟩]
      ·rw [if_neg aG]
       refine tY fun q x al hw=> ?_
       rw [Nat.zero_add]
       have hq:q≠i:=fun e=>by subst e; rw [dm] at al; cases al; exact aG hw
       exact⟨fR q hq,fun ao=>vH q x al (by rw [fR q hq] at ao; exact ao)⟩
     rw [Iw]
     refine mO.less fun t τ ao=> ?_
     rcases GL ao with⟨j,y,J,ad,ay,aU⟩ | ⟨J,eO⟩
     ·rw [Nat.zero_add] at ad aU
      by_cases hI:j=i
      ·subst hI
       rw [dm] at J
       cases J
       exact⟨τ,by rw [ay,aU]; simp [nh,look,Nat.beq_refl],fun _ _ _ h=>h⟩
      ·rw [fR j hI] at ad
       rw [vH j y J ad] at aU
       have a0:=zC (ls:=fun i=>a3.getD i false) (hd:=hd) (E:=E) (k:=0) J (by rw [Nat.zero_add]; exact ad) ay fun q z hq df=>uZ q j t z y hq J df ay
       rw [Nat.zero_add,← aU] at a0
       refine⟨τ,?_,fun _ _ _ h=>h⟩
       cases n3:h.slot with
       | none=>exact a0
       | some s=>
         have cH:Nat.beq s t=false:=by
          cases hb:Nat.beq s t
          ·rfl
          ·have:=ej.1 hb; subst this
           exact absurd (uZ j i s y h J dm ay n3) hI
         simp only [nh,look,cH,cond_false]
         exact a0
     ·have hb:=lR t τ J
      have a0:=zr (ls:=fun i=>a3.getD i false) (hd:=hd) (E:=E) (k:=0) hb
      refine⟨τ,?_,fun _ _ _ h=>h⟩
      cases n3:h.slot with
      | none=>simp only [nh]; rw [a0]; exact J
      | some s=>
        have cH:Nat.beq s t=false:=by
         cases kT:Nat.beq s t
         ·rfl
         ·have:=ej.1 kT; subst this
          exact absurd n3 (eO i h dm (by rw [Nat.zero_add]; exact vI))
        simp only [nh,look,cH,cond_false]
        rw [a0]; exact J
    ·rcases Hc ao with⟨j,aG,y,J,ad,ay⟩ | J
     ·have a0:=zC (ls:=fun i=>a3.getD i false) (hd:=hd) (E:=E) (k:=0) J (by rw [Nat.zero_add]; exact vi j aG) ad fun q z hq df=>uZ q j t z y hq J df ad
      rw [Nat.zero_add,← ay] at a0
      exact a0
     ·rw [zr (lR t τ J)]; exact J
    ·rw [uB] at aG ⊢
     rw [← aG]
     conv=>lhs; rw [z6]
     rw [zj,zq]
     ·refine tY fun q x al hw=> ?_
      rw [Nat.zero_add]
      have hq:q < i:=by have:=(List.getElem?_eq_some_iff.1 al).1; omega
      rw [List.getElem?_take,if_pos hq] at al
      exact⟨vi q ((s9 q x al).1 hq ⟨j,by simpa using hw,aS⟩),fun _=>rfl⟩
     ·intro q x al hw
      rw [BH,Nat.zero_add]
      cases q with
      | zero=>exact js
      | succ q=>
        simp only [List.getElem?_cons_succ] at al
        rw [List.getElem?_drop] at al
        exact z5 (i + (q + 1)) x (by rw [← al]; congr 1; omega) (by omega) ⟨j,by simpa using hw,.inl aS⟩
theorem ai.xl {n5:Nat} {l:List Oper} (n np:Nat) (hm:c.P.follows .mixedOrders=true) (hs:List dj) (ds:List (Option Nat × List Nat × List Nat × List Nat)) (es:List Nat) (hH:iK hs=ds) (pH:E.map (·.1)=es) (gX:Gv.xl l.toArray n ds es=true) (hw:(ds.all fun d=>d.2.2.2.all fun j=>Nat.blt j np)=true)
 (ck:ow c l.toArray Q hs E L np 0 (l.take n) hs) (bJ:∀ hd,ah c l.toArray Q (l.drop n) (hk (fun _=>true) hd E 0 hs) (gz (fun _=>true) hd 0 hs L)):ai c Q (.region n5 l.toArray true) E L:=fun a W s=>by
 subst hH pH
 have ti:=NQ (L:=L) (hs:=hs) rfl hw
 refine wpIn_region_any hm ?_
 have aP:n≤l.toArray.size:=by
  simp only [Gv.xl,Bool.and_eq_true,decide_eq_true_eq] at gX
  exact gX.1.1.1.1.1.2
 have A3:HeadInv .any l.toArray n (Array.replicate l.toArray.size false):=
  {size:=by simp
   closed:=fun j kf _ ao=>by rw [getD_replicate_false] at ao; cases ao
   tail:=fun t _ bJ=>by simp at bJ; simp [bJ] }
 have h:=Sy ti (ops:=l.toArray) (Q:=Q) gX (by simpa using ck) (by simpa using bJ) n (Array.replicate l.toArray.size false) (fun _ _=>none) a W.drew (Nat.le_trans (List.length_filter_le _ _) (by simp)) A3 ?_
 ·rw [show n + (l.toArray.size - n)=l.toArray.size by omega] at h
  exact h
 have J:∀ (hs:List dj) (k:Nat),hk (fun i=>(Array.replicate l.toArray.size false).getD i false) (fun _ _=>none) E k hs=E:=by
  intro hs
  induction hs with
  | nil=>intro k; rfl
  | cons h r bH=>
    intro k
    have ad:=bH (k + 1)
    simp only [getD_replicate_false] at ad
    unfold hk
    simp only [getD_replicate_false]
    exact ad
 have ad:∀ (hs:List dj) (k:Nat) (L:List aJ),gz (fun i=>(Array.replicate l.toArray.size false).getD i false) (fun _ _=>none) k hs L=L:=by
  intro hs
  induction hs with
  | nil=>intro k L; rfl
  | cons h r bH=>intro k L; rw [gz,bH]; simp only [getD_replicate_false,cond_false]
 rw [J,ad]
 exact s.world (Fr.drew W)
theorem bx.tail {l:List Oper} {f:Nat} {a3:Array Bool} (n:Nat) (a8:(l.drop n).length=f) (hs:Region.seqB .any l.toArray f n a3=true) (h:ah c l.toArray Q (l.drop n) E L):bx c l.toArray Q f a3 E L:=fun a W s=>by
 subst a8
 exact za (l.drop n) n a3 a W (fun j=>by simp) hs (h a W s)
theorem aq.ex {α β:Type} {m:aq α} {k:α→aq β} {R:β→Prop} (h:aq.bind m k R):∃ K:α→Prop,m K∧ ∀ r,K r→k r R:=⟨_,h,fun _ h=>h⟩
end
theorem bO.law {P:Program} {f:FuncId} {τs:List I} {bT:Type} [eG bT] {R:Bool × aN bT→Prop} {Lo: {r:Bool × aN bT // R r} × Unit→List aJ} (h:bO P f τs ([] ++ aV ([]:aN bT)) (fun d: {r:Bool × aN bT // R r} × Unit=>I.of d.1.1.1) Lo) (iS:∀ r,R r→r.1=true):bW P f τs (I.of true):=by
 intro A W vs gv a6
 refine(h A W vs (fun k au=>⟨gv k au,by simp [aV,aL]⟩) (by simp [aV,aL]) (fun k au=>by simp [aV,aL] at au) (fun e he=>by simp [aV] at he) (by simpa [aV,aL] using a6)).mono ?_
 intro e W' ⟨v,d,J,ad,_,_,_,ay⟩
 refine⟨v,J,by simpa [aV,aL] using ad,?_⟩
 have aU:=iS d.1.1 d.1.2
 rw [of_bool] at ay ⊢
 rw [ay,aU]
def Bl (p:Prop) [Decidable p]:Option Unit:=if p then some () else none
theorem aq.Zg {β:Type} {p:Prop} [Decidable p] {k:Unit→aq β} {R:β→Prop} (h:aq.bind (aq.of (Bl p)) k R):p:=by
 obtain⟨r,J,_⟩:=h
 unfold Bl at J
 split at J
 ·assumption
 ·cases J
theorem aq.X5 {β:Type} {p:Prop} [Decidable p] {k:Unit→aq β} {R:β→Prop} (h:aq.bind (aq.of (Bl p)) k R):k () R:=by
 obtain⟨r,_,ad⟩:=h
 exact ad
section
variable {c:c5} {E:List (Nat × I)} {L:List aJ} {ops:Array Oper} {Q:Exit→Act→World→Prop}
theorem TM {n:Nat} (aP:n≤ops.size) (Pp:∀ i o,i < n→ops[i]? =some o→ ∀ e∈o.after,Region.binds .any e=true→e.on < i)
 (uW:n=ops.size∨ (Region.sinkB .any ops n=true∧Region.chainB .any ops n=true))
 (po:Region.seqB .any ops (ops.size - n) n ((List.range n).foldl (fun l i=>l.setIfInBounds i true) (Array.replicate ops.size false))=true)
 (S:Array Bool→Act→World→Prop)
 (rr:∀ (a3:Array Bool) (i:Nat) (o:Oper) (a:Act) (W:World),HeadInv .any ops n a3→i < n→ops[i]? =some o→a3.getD i false=false→ (∀ e∈o.after,Region.binds .any e=true→a3.getD e.on false=true)→S a3 a W→
  wpOpIn c.F 9 c.P ops Q i (fun fY W'=>S (a3.setIfInBounds i true) fY W') a W)
 (ni:∀ (a3:Array Bool) (a:Act) (W:World),(∀ i,i < n→a3.getD i false=true)→S a3 a W→c.qq ops Q (ops.toList.drop n) a W):
 ∀ m (a3:Array Bool) (a:Act) (W:World),((List.range n).filter fun i=> !a3.getD i true).length≤m→HeadInv .any ops n a3→S a3 a W→wpAnyIn c.F 9 c.P .any ops Q (m + (ops.size - n)) a3 a W:=by
 have k8:∀ i,i < n→ ∃ o,ops[i]? =some o:=fun i ar=>⟨ops[i],by simp⟩
 have nb:∀ (a3:Array Bool) (a:Act) (W:World),(∀ i,i < n→a3.getD i true=true)→HeadInv .any ops n a3→S a3 a W→wpAnyIn c.F 9 c.P .any ops Q (ops.size - n) a3 a W:=by
  intro a3 a W pf inv st
  have ao:=Gk inv aP pf
  have n3:=po
  rw [← ao] at n3
  have uX:(ops.toList.drop n).length=ops.size - n:=by simp
  rw [← uX] at n3 ⊢
  exact za (ops.toList.drop n) n a3 a W (fun j=>by simp) n3 (ni a3 a W (fun i ar=>by
   have J:=pf i ar
   have ad:i < a3.size:=by rw [inv.size]; omega
   simpa [ad] using J) st)
 have more:∀ f (a3:Array Bool) a W,wpAnyIn c.F 9 c.P .any ops Q f a3 a W→wpAnyIn c.F 9 c.P .any ops Q (f + 1) a3 a W:=by
  intro f
  induction f with
  | zero=>intro a3 a W h; exact⟨fun _=>h.2,fun i ar=>by rw [h.1] at ar; cases ar⟩
  | succ f Bo=>intro a3 a W h; exact⟨h.1,fun i ar=>wpOpIn_mono (fun fY pR cX=>Bo _ fY pR cX) (h.2 i ar)⟩
 intro m
 induction m with
 | zero=>
   intro a3 a W hm inv st
   rw [Nat.zero_add]
   refine nb a3 a W (fun i ar=> ?_) inv st
   cases h:a3.getD i true with
   | true=>rfl
   | false=>
     have:i∈ (List.range n).filter fun i=> !a3.getD i true:=List.mem_filter.2 ⟨List.mem_range.2 ar,by rw [h]; rfl⟩
     rw [List.length_eq_zero_iff.1 (Nat.le_zero.1 hm)] at this
     cases this
 | succ m bH=>
   intro a3 a W hm inv st
   rw [show m + 1 + (ops.size - n)=(m + (ops.size - n)) + 1 by omega]
   by_cases AG:∀ i,i < n→a3.getD i true=true
   ·have J:=nb a3 a W AG inv st
    have key:∀ k,wpAnyIn c.F 9 c.P .any ops Q (k + (ops.size - n)) a3 a W:=by
     intro k
     induction k with
     | zero=>rw [Nat.zero_add]; exact J
     | succ k Bp=>rw [show k + 1 + (ops.size - n)=(k + (ops.size - n)) + 1 by omega]; exact more _ _ _ _ Bp
    exact more _ _ _ _ (key m)
   have hex:∃ i,i < n∧a3.getD i true=false:=by
    false_or_by_contra
    rename_i ad
    exact AG fun i ar=>by
     cases h:a3.getD i true with
     | true=>rfl
     | false=>exact absurd ⟨i,ar,h⟩ ad
   have z2:∀ t∈Region.ready .any ops a3,t < n:=by
    intro t pC
    rcases Nat.lt_or_ge t n with h | h
    ·exact h
    ·obtain⟨i,ar,hT⟩:=hex
     have YY:t < ops.size:=by
      obtain⟨_,o,a9,_⟩:=mem_ready.1 pC
      exact(Array.getElem?_eq_some_iff.1 a9).1
     rcases uW with J | J
     ·omega
     ·exact absurd pC (tail_waits J.1 J.2 (by omega) inv _ i rfl ar hT t h)
   refine⟨fun bG=> ?_,fun i ar=> ?_⟩
   ·exfalso
    have key:∀ d i,i≤d→i < n→a3.getD i true=true:=by
     intro d
     induction d with
     | zero=>
       intro i vw ar
       cases ao:a3.getD i true with
       | true=>rfl
       | false=>
         obtain⟨o,a9⟩:=k8 i ar
         have:i∈Region.ready .any ops a3:=mem_ready.2 ⟨ao,o,a9,fun e he hb=>by have:=Pp i o ar a9 e he hb; omega⟩
         rw [bG] at this; cases this
     | succ d BG=>
       intro i vw ar
       cases ao:a3.getD i true with
       | true=>rfl
       | false=>
         obtain⟨o,a9⟩:=k8 i ar
         have:i∈Region.ready .any ops a3:=mem_ready.2 ⟨ao,o,a9,fun e he hb=>by
          have J:=Pp i o ar a9 e he hb
          have ad:=BG e.on (by omega) (by omega)
          have ay:e.on < a3.size:=by rw [inv.size]; omega
          simpa [ay] using ad⟩
         rw [bG] at this; cases this
    obtain⟨i,ar,hT⟩:=hex
    have:=key i i (Nat.le_refl _) ar
    rw [hT] at this; cases this
   ·have ef:i < n:=z2 i ar
    obtain⟨hT,o,a9,m4⟩:=mem_ready.1 ar
    have pr:i < a3.size:=by rw [inv.size]; omega
    have pq:((List.range n).filter fun j=> !(a3.setIfInBounds i true).getD j true).length≤m:=by
     have:((List.range n).filter fun j=> !(a3.setIfInBounds i true).getD j true).length < ((List.range n).filter fun j=> !a3.getD j true).length:=by
      refine DK (fun j=> !a3.getD j true) (fun j=> !(a3.setIfInBounds i true).getD j true) i (by simp only [hT]; rfl) ?_ (fun j aG=> ?_) n ef
      ·simp [pr]
      ·by_cases e:i=j
       ·subst e; simp only [hT]; rfl
       ·rw [getD_set_ne true e] at aG; exact aG
     omega
    exact wpOpIn_mono (fun fY W' mO=>bH _ fY W' pq (inv.set ar ef) mO) (rr a3 i o a W inv ef a9 (getD_both hT) m4 st)
def hy (ls:Nat→Bool) (E:List (Nat × I)):Nat→List (Option (Nat × I))→List (Nat × I)
 | _,[]=>E
 | k,none :: r=>hy ls E (k + 1) r
 | k,some x :: r=>bif ls k then x :: hy ls E (k + 1) r else hy ls E (k + 1) r
def og (fs:List (Option (Nat × I))) (E:List (Nat × I)):List Nat→List (Nat × I)
 | []=>E
 | i :: r=>match fs[i]? with
   | some (some x)=>x :: og fs E r
   | _=>og fs E r
def iF (fs:List (Option (Nat × I))):List Nat:=fs.filterMap fun x=>x.map (·.1)
theorem Hw {ls:Nat→Bool} {E:List (Nat × I)} {t:Nat} {τ:I} :∀ {fs:List (Option (Nat × I))} {k:Nat},look (hy ls E k fs) t=some τ→ (∃ j,ls (k + j)=true∧fs[j]? =some (some (t,τ)))∨look E t=some τ
 | [],k,h=> .inr h
 | none :: r,k,h=>by
   rcases Hw (fs:=r) (k:=k + 1) h with⟨j,J,ad⟩ | J
   ·exact .inl ⟨j + 1,by rw [← J]; congr 1; omega,by simpa using ad⟩
   ·exact .inr J
 | some x :: r,k,h=>by
   have aS:look (hy ls E (k + 1) r) t=some τ→ (∃ j,ls (k + j)=true∧ (some x :: r)[j]? =some (some (t,τ)))∨look E t=some τ:=fun h=>by
    rcases Hw (fs:=r) (k:=k + 1) h with⟨j,J,ad⟩ | J
    ·exact .inl ⟨j + 1,by rw [← J]; congr 1; omega,by simpa using ad⟩
    ·exact .inr J
   unfold hy at h
   cases au:ls k with
   | false=>rw [au] at h; exact aS h
   | true=>
     rw [au] at h
     simp only [cond_true,look] at h
     cases hb:Nat.beq x.1 t with
     | true=>
       rw [hb] at h
       have J:x.2=τ:=by simpa using h
       have ad:=ej.1 hb
       exact .inl ⟨0,au,by rw [← J,← ad]; rfl⟩
     | false=>rw [hb] at h; exact aS h
theorem w0 {ls:Nat→Bool} {E:List (Nat × I)} {t:Nat} :∀ {fs:List (Option (Nat × I))} {k:Nat},t ∉ iF fs→look (hy ls E k fs) t=look E t
 | [],k,h=>rfl
 | none :: r,k,h=>w0 (fs:=r) (k:=k + 1) h
 | some x :: r,k,h=>by
   have J:t≠x.1∧t ∉ iF r:=by simpa [iF] using h
   unfold hy
   cases au:ls k with
   | false=>exact w0 J.2
   | true=>
     have hb:Nat.beq x.1 t=false:=by
      cases hb:Nat.beq x.1 t with
      | false=>rfl
      | true=>exact absurd (ej.1 hb).symm J.1
     simp only [cond_true,look,hb,cond_false]
     exact w0 J.2
theorem De {fs:List (Option (Nat × I))} {j:Nat} {x:Nat × I} (h:fs[j]? =some (some x)):x.1∈iF fs:=
 List.mem_filterMap.2 ⟨_,List.mem_of_getElem? h,rfl⟩
theorem DL {ls:Nat→Bool} {E:List (Nat × I)} :∀ {fs:List (Option (Nat × I))} {k j:Nat} {x:Nat × I},(iF fs).Nodup→fs[j]? =some (some x)→ls (k + j)=true→look (hy ls E k fs) x.1=some x.2
 | [],k,j,x,_,h,_=>by simp at h
 | none :: r,k,j,x,aP,h,ao=>by
   cases j with
   | zero=>simp at h
   | succ j=>exact DL (fs:=r) (k:=k + 1) (j:=j) aP (by simpa using h) (by rw [← ao]; congr 1; omega)
 | some y :: r,k,j,x,aP,h,ao=>by
   have mN:y.1 ∉ iF r∧ (iF r).Nodup:=by simpa [iF] using aP
   cases j with
   | zero=>
     have:y=x:=by simpa using h
     subst this
     have ao:ls k=true:=ao
     unfold hy
     simp only [ao,cond_true,look,Nat.beq_refl]
   | succ j=>
     have cX:r[j]? =some (some x):=by simpa using h
     have ar:=DL (fs:=r) (k:=k + 1) (E:=E) (ls:=ls) mN.2 cX (by rw [← ao]; congr 1; omega)
     unfold hy
     cases au:ls k with
     | false=>exact ar
     | true=>
       have hb:Nat.beq y.1 x.1=false:=by
        cases hb:Nat.beq y.1 x.1 with
        | false=>rfl
        | true=>exact absurd (by rw [ej.1 hb]; exact De cX) mN.1
       simp only [cond_true,look,hb,cond_false]
       exact ar
theorem MW {fs:List (Option (Nat × I))} {E:List (Nat × I)} {t:Nat} {τ:I} :∀ {us:List Nat},look (og fs E us) t=some τ→ (∃ j∈us,fs[j]? =some (some (t,τ)))∨look E t=some τ
 | [],h=> .inr h
 | i :: r,h=>by
   have aS:look (og fs E r) t=some τ→ (∃ j∈i :: r,fs[j]? =some (some (t,τ)))∨look E t=some τ:=fun h=>by
    rcases MW h with⟨j,J,ad⟩ | J
    ·exact .inl ⟨j,List.mem_cons_of_mem _ J,ad⟩
    ·exact .inr J
   unfold og at h
   split at h
   ·rename_i x al
    simp only [look] at h
    cases hb:Nat.beq x.1 t with
    | true=>
      rw [hb] at h
      have J:x.2=τ:=by simpa using h
      have ad:=ej.1 hb
      exact .inl ⟨i,by simp,by rw [al,← J,← ad]⟩
    | false=>rw [hb] at h; exact aS h
   ·exact aS h
theorem Xh {fs:List (Option (Nat × I))} {E:List (Nat × I)} {ls:Nat→Bool} {us:List Nat} (aP:(iF fs).Nodup) (aD:∀ t∈iF fs,look E t=none) (hu:∀ j∈us,ls j=true) {t:Nat} {τ:I} (h:look (og fs E us) t=some τ):look (hy ls E 0 fs) t=some τ:=by
 rcases MW h with⟨j,J,ad⟩ | J
 ·exact DL aP ad (by rw [Nat.zero_add]; exact hu j J)
 ·rw [w0 fun ad=>by rw [aD t ad] at J; cases J]; exact J
theorem LD:∀ {E:List (Nat × I)} {t:Nat},(E.map (·.1)).contains t=false→look E t=none
 | [],t,_=>rfl
 | (s,σ) :: r,t,h=>by
   have J: ¬ t=s∧ (r.map (·.1)).contains t=false:=by simpa using h
   have hb:Nat.beq s t=false:=by
    cases hb:Nat.beq s t with
    | false=>rfl
    | true=>exact absurd (ej.1 hb).symm J.1
   simp only [look,hb,cond_false]
   exact LD J.2
def MX (ops:Array Oper) (n w mm x5:Nat) (gk:List (Option Nat)) (oO:List (List Nat)) (E:List Nat):Bool:=
 decide (gk.length=n) && decide (n≤ops.size) && decide (w < n) && decide (mm :: gk.filterMap id).Nodup && ((mm :: gk.filterMap id).all fun s=> !E.contains s && Nat.blt s x5) &&
 ((List.range n).all fun i=>((ops[i]?).map fun o=>(o.dst ==if i=w then some mm else(gk[i]?).getD none) && o.guard.isNone && (decide (i=w) || ((gk[i]?).getD none).isSome) && o.after.all fun e=> !Region.binds .any e || decide (e.on < i)).getD false &&
   ((oO[i]?).getD []).all fun k=>decide (k≠w) && Region.waitsFor .any ops i k) &&
 decide ((gk[w]?).getD none=none) &&
 (decide (n=ops.size) || (Region.sinkB .any ops n && Region.chainB .any ops n)) &&
 Region.seqB .any ops (ops.size - n) n ((List.range n).foldl (fun l i=>l.setIfInBounds i true) (Array.replicate ops.size false))
def re (c:c5) (E:List (Nat × I)) (L:List aJ) {γ:Type} (K:γ→Prop) (gG:γ→List aJ) (fs:List (Option (Nat × I))):List Oper→List (Option (Nat × I))→List (List Nat)→Prop
 | o :: os,some x :: r,u :: us=>(b4 c (og fs E u) L o x.2∧ ∀ y,K y→b4 c (og fs E u) (gG y) o x.2)∧re c E L K gG fs os r us
 | _ :: os,none :: r,_ :: us=>re c E L K gG fs os r us
 | _,_,_=>True
theorem re.get {γ:Type} {K:γ→Prop} {gG:γ→List aJ} {fs:List (Option (Nat × I))} :∀ {os:List Oper} {rs:List (Option (Nat × I))} {us:List (List Nat)},re c E L K gG fs os rs us→ ∀ {i:Nat} {o:Oper} {x:Nat × I} {u:List Nat},os[i]? =some o→rs[i]? =some (some x)→us[i]? =some u→
 b4 c (og fs E u) L o x.2∧ ∀ y,K y→b4 c (og fs E u) (gG y) o x.2
 | o :: os,some x :: r,u :: us,h,0,o',Fq,Fs,J,ad,ay=>by
   have aF:o=o':=by simpa using J
   have aR:x=Fq:=by simpa using ad
   have dh:u=Fs:=by simpa using ay
   subst aF aR dh
   exact h.1
 | o :: os,some x :: r,u :: us,h,i + 1,o',Fq,Fs,J,ad,ay=>re.get h.2 (i:=i) (by simpa using J) (by simpa using ad) (by simpa using ay)
 | o :: os,none :: r,u :: us,h,0,o',Fq,Fs,J,ad,ay=>by simp at ad
 | o :: os,none :: r,u :: us,h,i + 1,o',Fq,Fs,J,ad,ay=>by
   have h:re c E L K gG fs os r us:=h
   exact re.get h (i:=i) (by simpa using J) (by simpa using ad) (by simpa using ay)
 | [],_,_,_,i,_,_,_,J,_,_=>by simp at J
 | _ :: _,[],_,_,i,_,_,_,_,ad,_=>by simp at ad
 | _ :: _,_ :: _,[],_,i,_,_,_,_,_,ay=>by simp at ay
theorem MD {n5:Nat} {l:List Oper} (hm:c.P.follows .mixedOrders=true) (n w mm x5:Nat) {γ:Type} {K:γ→Prop} (fs:List (Option (Nat × I))) (gk:List (Option Nat)) (oO:List (List Nat)) (es:List Nat) (E4:γ→I) (gG:γ→List aJ)
 {tz:Oper} {JX:List Nat} (ZW:l[w]? =some tz) (ZX:oO[w]? =some JX) (Jg:c.n=x5) (ZY:(fs.map fun x=>x.map (·.1))=gk) (abh:oO.length=n) (pH:E.map (·.1)=es) (gX:MX l.toArray n w mm x5 gk oO es=true)
 (ck:re c E L K gG fs (l.take n) fs oO)
 (hw:∀ (r9:Exit→Act→World→Prop) (E':List (Nat × I)),(∀ {t τ},look (og fs E JX) t=some τ→look E' t=some τ)→ (∀ y,K y→ae c r9 .normal ((mm,E4 y) :: E') (gG y))→ah c l.toArray r9 [tz] E' L)
 (bJ:∀ y,K y→ah c l.toArray Q (l.drop n) ((mm,E4 y) :: hy (fun _=>true) E 0 fs) (gG y)):ai c Q (.region n5 l.toArray true) E L:=fun a W s=>by
 subst Jg ZY pH
 refine wpIn_region_any hm ?_
 simp only [MX,Bool.and_eq_true,decide_eq_true_eq,Bool.or_eq_true] at gX
 obtain⟨⟨⟨⟨⟨⟨⟨⟨hlen,aP⟩,ZZ⟩,fV⟩,Pq⟩,j3⟩,Jh⟩,uW⟩,po⟩:=gX
 have hlen:fs.length=n:=by simpa using hlen
 have Z0:(fs.map fun x=>x.map (·.1)).filterMap id=iF fs:=by
  unfold iF; rw [List.filterMap_map]; rfl
 rw [Z0] at fV Pq
 obtain⟨Pr,fV⟩:=List.nodup_cons.1 fV
 have Z1:∀ t,(E.map (·.1)).contains t=false→look E t=none:=fun t h=>LD h
 have aD:∀ t∈mm :: iF fs,look E t=none∧Nat.blt t c.n=true:=fun t bJ=>by
  have:=List.all_eq_true.1 Pq t bJ
  simp only [Bool.and_eq_true,Bool.not_eq_true'] at this
  exact⟨Z1 t this.1,this.2⟩
 have Ji:∀ t∈iF fs,look E t=none:=fun t bJ=>(aD t (List.mem_cons_of_mem _ bJ)).1
 have rS:∀ i o,i < n→l.toArray[i]? =some o→ (o.dst=if i=w then some mm else((fs[i]?).getD none).map (·.1))∧o.guard=none∧ (i=w∨ ∃ x,fs[i]? =some (some x))∧ (∀ e∈o.after,Region.binds .any e=true→e.on < i)∧ ∀ k∈ (oO[i]?).getD [],k≠w∧Region.waitsFor .any l.toArray i k=true:=fun i o ar a9=>by
  have J:=List.all_eq_true.1 j3 i (List.mem_range.2 ar)
  simp only [Bool.and_eq_true] at J
  obtain⟨ad,ay⟩:=J
  simp only [a9,Option.map_some,Option.getD_some,Bool.and_eq_true,beq_iff_eq] at ad
  obtain⟨⟨⟨aU,a0⟩,bl⟩,cP⟩:=ad
  have Z2:((fs.map fun x=>x.map (·.1))[i]?).getD none=((fs[i]?).getD none).map (·.1):=by
   rw [List.getElem?_map]
   cases fs[i]? with
   | none=>rfl
   | some x=>rfl
  rw [Z2] at aU bl
  refine⟨aU,by simpa using a0,?_,fun e he hb=> ?_,fun k au=> ?_⟩
  ·simp only [Bool.or_eq_true,decide_eq_true_eq] at bl
   rcases bl with bl | bl
   ·exact .inl bl
   ·right
    cases al:fs[i]? with
    | none=>rw [al] at bl; cases bl
    | some x=>
      cases x with
      | none=>rw [al] at bl; cases bl
      | some x=>exact⟨x,rfl⟩
  ·have:=Array.all_eq_true_iff_forall_mem.1 cP e he
   simp [hb] at this
   exact this
  ·have:=List.all_eq_true.1 ay k au
   simpa using this
 have YZ:fs[w]? =some none:=by
  have J:((fs.map fun x=>x.map (·.1))[w]?).getD none=none:=Jh
  rw [List.getElem?_map] at J
  cases al:fs[w]? with
  | none=>have:=List.getElem?_eq_none_iff.1 al; omega
  | some x=>
    cases x with
    | none=>rfl
    | some x=>rw [al] at J; cases J
 let S:Array Bool→Act→World→Prop:=fun a3 a W=>(a3.getD w false=false→bw c (hy (fun i=>a3.getD i false) E 0 fs) L a W)∧ (a3.getD w false=true→ ∃ y,K y∧bw c ((mm,E4 y) :: hy (fun i=>a3.getD i false) E 0 fs) (gG y) a W)
 have h:=TM (c:=c) (ops:=l.toArray) (Q:=Q) aP (fun i o ar a9=>(rS i o ar a9).2.2.2.1) uW po S ?_ ?_ n (Array.replicate l.toArray.size false) a W.drew (Nat.le_trans (List.length_filter_le _ _) (by simp)) ?_ ?_
 ·rw [show n + (l.toArray.size - n)=l.toArray.size by omega] at h
  exact h
 ·
  intro a3 i o a W inv ar a9 hT m4 vY
  obtain⟨b6,bZ,mi,Fi,pQ⟩:=rS i o ar a9
  have pr:i < a3.size:=by rw [inv.size]; omega
  have vI:(a3.setIfInBounds i true).getD i false=true:=by simp [pr]
  have fR:∀ j,j≠i→ (a3.setIfInBounds i true).getD j false=a3.getD j false:=fun j aG=>getD_set_ne false (fun e=>aG e.symm)
  have Jj:i < oO.length:=by omega
  have vi:∀ k∈oO[i],a3.getD k false=true:=fun k au=>by
   have:=pQ k (by rw [List.getElem?_eq_getElem Jj]; exact au)
   obtain⟨kf,ho,e,he,hb,kV⟩:=Region.waitsFor_spec this.2
   rw [a9] at ho; cases ho
   rw [← kV]; exact m4 e he hb
  have Ps:l[i]? =some o:=by simpa using a9
  have Iz:∀ {t τ},look (og fs E oO[i]) t=some τ→look (hy (fun i=>a3.getD i false) E 0 fs) t=some τ:=fun {t τ} h=>Xh fV Ji vi h
  by_cases E5:i=w
  ·subst E5
   rw [if_pos rfl] at b6
   have aF:tz=o:=Option.some.inj (ZW.symm.trans Ps)
   have aR:JX=oO[i]:=Option.some.inj (ZX.symm.trans (List.getElem?_eq_getElem Jj))
   subst aF aR
   have BI:=hw (pT (fun fY W'=>S (a3.setIfInBounds i true) fY W') Q) (hy (fun i=>a3.getD i false) E 0 fs) Iz fun y a5 fY W' st=> ?_
   ·exact zg a9 (BI a W (vY.1 hT))
   ·refine⟨fun h=>(by rw [vI] at h; cases h),fun _=>⟨y,a5,?_⟩⟩
    have:hy (fun j=>(a3.setIfInBounds i true).getD j false) E 0 fs=hy (fun j=>a3.getD j false) E 0 fs:=by
     have key:∀ (gs:List (Option (Nat × I))) (k:Nat),(∀ j,gs[j]? ≠none→gs[j]? =fs[k + j]?)→hy (fun j=>(a3.setIfInBounds i true).getD j false) E k gs=hy (fun j=>a3.getD j false) E k gs:=by
      intro gs
      induction gs with
      | nil=>intro k _; rfl
      | cons x r bH=>
        intro k au
        have aS:=bH (k + 1) fun j aG=>by
         have:=au (j + 1) (by simpa using aG)
         rw [List.getElem?_cons_succ] at this
         rw [this]; congr 1; omega
        cases x with
        | none=>exact aS
        | some x=>
          have bG:=au 0 (by simp)
          have oL:k≠i:=fun e=>by
           rw [e,Nat.add_zero,YZ] at bG
           simp at bG
          unfold hy
          simp only [fR k oL,aS]
     exact key fs 0 fun j _=>by rw [Nat.zero_add]
    rw [this]; exact st
  ·obtain⟨x,al⟩:=mi.resolve_left E5
   rw [if_neg E5,al] at b6
   have EV:(a3.setIfInBounds i true).getD w false=a3.getD w false:=fR w fun e=>E5 e.symm
   have bE:=re.get ck (i:=i) (by rw [List.getElem?_take,if_pos ar]; exact Ps) al (List.getElem?_eq_getElem Jj)
   have Jk:=De al
   have aa3:∀ (iR:List (Nat × I)),(∀ t τ,look ((x.1,x.2) :: iR) t=some τ→True):=fun _ _ _ _=>trivial
   have NW:∀ t τ,look (hy (fun j=>(a3.setIfInBounds i true).getD j false) E 0 fs) t=some τ→look ((x.1,x.2) :: hy (fun j=>a3.getD j false) E 0 fs) t=some τ:=fun t τ ao=>by
    rcases Hw ao with⟨j,pP,Ft⟩ | J
    ·rw [Nat.zero_add] at pP
     by_cases hI:j=i
     ·subst hI
      rw [al] at Ft; cases Ft
      simp only [look,Nat.beq_refl,cond_true]
     ·rw [fR j hI] at pP
      have ad:=DL (E:=E) (ls:=fun j=>a3.getD j false) (k:=0) fV Ft (by rw [Nat.zero_add]; exact pP)
      cases hb:Nat.beq x.1 t with
      | false=>simp only [look,hb,cond_false]; exact ad
      | true=>
        exfalso
        have aF:=ej.1 hb
        have uniq:∀ (gs:List (Option (Nat × I))) (p q:Nat) (u v:Nat × I),(iF gs).Nodup→gs[p]? =some (some u)→gs[q]? =some (some v)→u.1=v.1→p=q:=by
         intro gs
         induction gs with
         | nil=>intro p q u v _ hp; simp at hp
         | cons z r bH=>
           intro p q u v aP hp hq e
           have aS:(iF r).Nodup:=by
            cases z with
            | none=>exact aP
            | some z=>exact(show z.1 ∉ iF r∧ (iF r).Nodup by simpa [iF] using aP).2
           cases p with
           | zero=>
             have df:z=some u:=by simpa using hp
             subst df
             cases q with
             | zero=>rfl
             | succ q=>exact absurd (by rw [e]; exact De (by simpa using hq)) (show u.1 ∉ iF r∧ (iF r).Nodup by simpa [iF] using aP).1
           | succ p=>
             cases q with
             | zero=>
               have df:z=some v:=by simpa using hq
               subst df
               exact absurd (by rw [← e]; exact De (by simpa using hp)) (show v.1 ∉ iF r∧ (iF r).Nodup by simpa [iF] using aP).1
             | succ q=>rw [bH p q u v aS (by simpa using hp) (by simpa using hq) e]
        exact hI (uniq fs j i _ _ fV Ft al aF.symm)
    ·have hb:Nat.beq x.1 t=false:=by
      cases hb:Nat.beq x.1 t with
      | false=>rfl
      | true=>
        have aF:=ej.1 hb
        rw [← aF,Ji x.1 Jk] at J; cases J
     simp only [look,hb,cond_false]
     rw [w0 fun ad=>by rw [Ji t ad] at J; cases J]; exact J
   have lR:=(aD x.1 (List.mem_cons_of_mem _ Jk)).2
   refine zg a9 ?_
   cases E6:a3.getD w false with
   | false=>
     refine ah.v (τ:=x.2) (d:=x.1) (fun a W st=>bE.1 a W (st.less fun t τ h=>⟨τ,Iz h,fun _ _ _ h=>h⟩)) bZ b6 lR (ah.nil fun fY W' st=>⟨fun _=>st.less fun t τ h=>⟨τ,NW t τ h,fun _ _ _ h=>h⟩,fun h=> ?_⟩) a W (vY.1 E6)
     rw [EV,E6] at h; cases h
   | true=>
     obtain⟨y,a5,Z3⟩:=vY.2 E6
     have Z4:∀ {t τ},look (og fs E oO[i]) t=some τ→look ((mm,E4 y) :: hy (fun i=>a3.getD i false) E 0 fs) t=some τ:=fun {t τ} h=>by
      have J:=Iz h
      cases hb:Nat.beq mm t with
      | false=>simp only [look,hb,cond_false]; exact J
      | true=>
        exfalso
        have aF:=ej.1 hb
        subst aF
        rw [w0 Pr,(aD mm (by simp)).1] at J; cases J
     refine ah.v (τ:=x.2) (d:=x.1) (fun a W st=>bE.2 y a5 a W (st.less fun t τ h=>⟨τ,Z4 h,fun _ _ _ h=>h⟩)) bZ b6 lR (ah.nil fun fY W' st=>⟨fun h=> ?_,fun _=>⟨y,a5,st.less fun t τ h=>⟨τ,?_,fun _ _ _ h=>h⟩⟩⟩) a W Z3
     ·rw [EV,E6] at h; cases h
     ·cases hb:Nat.beq mm t with
      | true=>
        have aF:=ej.1 hb
        subst aF
        have kT:Nat.beq x.1 mm=false:=by
         cases kT:Nat.beq x.1 mm with
         | false=>rfl
         | true=>exact absurd (by rw [← ej.1 kT]; exact Jk) Pr
        simp only [look,hb,cond_true] at h ⊢
        simp only [kT,cond_false]; exact h
      | false=>
        simp only [look,hb,cond_false] at h ⊢
        have:=NW t τ h
        simp only [look] at this
        exact this
 ·intro a3 a W pf vY
  obtain⟨y,a5,st⟩:=vY.2 (pf w ZZ)
  refine bJ y a5 a W (st.less fun t τ h=>⟨τ,?_,fun _ _ _ h=>h⟩)
  have key:∀ (gs:List (Option (Nat × I))) (k:Nat),k + gs.length≤n→hy (fun j=>a3.getD j false) E k gs=hy (fun _=>true) E k gs:=by
   intro gs
   induction gs with
   | nil=>intro k _; rfl
   | cons x r bH=>
     intro k au
     have aS:=bH (k + 1) (by simp only [List.length_cons] at au; omega)
     cases x with
     | none=>exact aS
     | some x=>
       unfold hy
       simp only [pf k (by simp only [List.length_cons] at au; omega),aS]
  rw [key fs 0 (by omega)]; exact h
 ·exact
  {size:=by simp
   closed:=fun j kf _ ao=>by rw [getD_replicate_false] at ao; cases ao
   tail:=fun t _ bJ=>by simp at bJ; simp [bJ] }
 ·refine⟨fun _=> ?_,fun h=>by rw [getD_replicate_false] at h; cases h⟩
  have key:∀ (gs:List (Option (Nat × I))) (k:Nat),hy (fun j=>(Array.replicate l.toArray.size false).getD j false) E k gs=E:=by
   intro gs
   induction gs with
   | nil=>intro k; rfl
   | cons x r bH=>
     intro k
     have aS:=bH (k + 1)
     cases x with
     | none=>exact aS
     | some x=>
       unfold hy
       simp only [getD_replicate_false,cond_false] at aS ⊢
       exact aS
  show bw c (hy (fun j=>(Array.replicate l.toArray.size false).getD j false) E 0 fs) L a W.drew
  rw [key]
  exact s.world (Fr.drew W)
end
def ql {α:Type} (n:Nat) (m:Option (List α)):Option (List α):=m.bind fun y=>if y.length=n then some y else none
theorem G2 {α:Type} {n:Nat} {m:Option (List α)} {y:List α} (h:ql n m=some y):m=some y:=by
 unfold ql at h
 cases m with
 | none=>cases h
 | some z=>
   rw [Option.bind_some] at h
   split at h
   ·exact h
   ·cases h
theorem uc {α:Type} {n:Nat} {m:Option (List α)} {y:List α} (h:ql n m=some y):y.length=n:=by
 unfold ql at h
 cases m with
 | none=>cases h
 | some z=>
   rw [Option.bind_some] at h
   split at h
   ·rename_i e; cases h; exact e
   ·cases h
def v5 (n:Nat) (vis:List Nat):Option Nat→Prop
 | none=> ∀ j,j < n→j∈vis
 | some j=>j < n∧j ∉ vis
def aq.next (n:Nat) (vis:List Nat):aq (Option Nat):=fun R=> ∀ j,v5 n vis j→R j
theorem aq.SL {β:Type} {n:Nat} {vis:List Nat} {k:Option Nat→aq β} {R:β→Prop} (h:aq.bind (aq.next n vis) k R) (j:Option Nat) (aG:v5 n vis j):k j R:=h j aG
def k5 (es:Array MapEntry) (vis:List Nat):Array Nat:=(vis.filterMap fun j=>(es[j]?).map (·.born)).toArray
def la (aaJ:Nat) (es:Array MapEntry) (clock:Nat) (vis:List Nat):Obj:= .mapIter (some aaJ) clock (k5 es vis) clock
structure Fu (es:Array MapEntry) (clock n:Nat):Prop where
 size:es.size=n
 born:∀ x∈es.toList,x.born < clock
 nodup:(es.toList.map MapEntry.born).Nodup
def dr.and (cp:dr) (o:Obj):dr where
 holds A W x:=cp.holds A W x∧x=o
 l4:=cp.l4
 mono e h:=⟨cp.mono e h.1,h.2⟩
def rF (b:Nat) (o:Obj) (e:aJ):aJ:=if e.key=some b then⟨e.key,e.cp.and o⟩ else e
def kS (b:Nat) (o:Obj) (L:List aJ):List aJ:=L.map (rF b o)
theorem TN (b:Nat) (o:Obj) (e:aJ):(rF b o e).key=e.key:=by unfold rF; split <;> rfl
theorem Hx {b:Nat} {o:Obj} :∀ {L:List aJ},aL (kS b o L)=aL L
 | []=>rfl
 | e :: L=>by
   have bH:=Hx (b:=b) (o:=o) (L:=L)
   show aL (rF b o e :: kS b o L)=_
   unfold aL
   rw [TN,bH]
def I.Pt (b:Bool):I where
 holds _ _ v:= ∃ xs:Array Value,v= .tuple xs∧xs[0]? =some (.bool b)
 mono _ h:=h
section
variable {c:c5} {E:List (Nat × I)} {L:List aJ} {ops:Array Oper} {Q:Exit→Act→World→Prop}
variable {d:Option Tmp} {ty:TypeId} {pos:String} {af:Array Edge} {g:Option (Nat × Bool)} {x y z:Operand} {t t2:TypeId}
variable {bT:Type} [eG bT] {hp:aN bT} {loc:List aJ}
theorem Du {P:Prop} (h:P):P:=h
theorem Tt {key:Option Nat} {n m cap:Nat} (aP:n=m) (h:a7 c E L x (.eq (ba key n cap))):a7 c E L x (.eq (ba key m cap)):=aP ▸ h
theorem MG {b:Nat} {o:Obj} {α β:Type} [ag α] [ag β] {kv:List (α × β)} {sh:bT} (n:Nat) (an:L.drop n=Gv.kS b o (aV hp)) (hp':pat hp b=some sh) (au:eG.g3 b sh= [⟨some b,.map kv⟩]):(⟨some b,dr.and (.map kv) o⟩:aJ)∈L:=by
 have J:(⟨some b,.map kv⟩:aJ)∈aV hp:=ep (n:=0) (hp:=hp) rfl hp' au
 have ad:rF b o ⟨some b,.map kv⟩∈Gv.kS b o (aV hp):=List.mem_map.2 ⟨_,J,rfl⟩
 rw [← an] at ad
 have ay:=List.mem_of_mem_drop ad
 unfold rF at ay
 rw [if_pos rfl] at ay
 exact ay
theorem bw.swap {L':List aJ} {a:Act} {W:World} (h:bw c E L a W) (au:aL L'=aL L) (a9:∀ e∈L',e.ok (aL L ++ c.bX) W):bw c E L' a W:=
 {defers:=h.defers
  size:=h.size
  env:=by rw [au]; exact h.env
  dw:=h.dw
  own:=by rw [au]; exact a9
  nodup:=by rw [au]; exact h.nodup
  lt:=by rw [au]; exact h.lt
  fD:=by rw [au]; exact h.fD
  eF:=by rw [au]; exact h.eF }
theorem bw.kS {a:Act} {W:World} {M:List aJ} (h:bw c E (loc ++ M) a W) {b:Nat} {o:Obj} (hb:W.heap[b]? =some o):bw c E (loc ++ Gv.kS b o M) a W:=by
 refine h.swap (by rw [eB,eB,Hx]) fun e he=> ?_
 rcases List.mem_append.1 he with he | he
 ·exact h.own e (List.mem_append_left _ he)
 ·obtain⟨jU,bG,rfl⟩:=List.mem_map.1 he
  have J:=h.own jU (List.mem_append_right _ bG)
  unfold rF
  split
  ·rename_i au
   unfold aJ.ok at J ⊢
   simp only [au] at J ⊢
   obtain⟨o',av,bm⟩:=J
   have:o'=o:=by rw [hb] at av; exact(Option.some.inj av).symm
   exact⟨o',av,bm,this⟩
  ·exact J
theorem bw.uS {a:Act} {W:World} {M:List aJ} {b:Nat} {o:Obj} (h:bw c E (loc ++ Gv.kS b o M) a W):bw c E (loc ++ M) a W:=by
 have au:aL (loc ++ M)=aL (loc ++ Gv.kS b o M):=by rw [eB,eB,Hx]
 refine h.swap au fun e he=> ?_
 rcases List.mem_append.1 he with he | he
 ·exact h.own e (List.mem_append_left _ he)
 ·have J:=h.own (rF b o e) (List.mem_append_right _ (List.mem_map.2 ⟨e,he,rfl⟩))
  unfold rF at J
  split at J
  ·rename_i cS
   unfold aJ.ok at J ⊢
   simp only [cS] at J ⊢
   obtain⟨o',av,bm,_⟩:=J
   exact⟨o',av,bm⟩
  ·exact J
theorem ah.uS {l:List Oper} {b:Nat} {o:Obj} (n:Nat) (an:L.drop n=Gv.kS b o (aV hp)) (k:ah c ops Q l E (L.take n ++ aV hp)):ah c ops Q l E L:=fun a W s=>by
 have e:L=L.take n ++ Gv.kS b o (aV hp):=by rw [← an,List.take_append_drop]
 rw [e] at s
 exact k a W s.uS
theorem ai.uS {z:Code} {b:Nat} {o:Obj} (n:Nat) (an:L.drop n=Gv.kS b o (aV hp)) (k:ai c Q z E (L.take n ++ aV hp)):ai c Q z E L:=fun a W s=>by
 have e:L=L.take n ++ Gv.kS b o (aV hp):=by rw [← an,List.take_append_drop]
 rw [e] at s
 exact k a W s.uS
theorem ae.uS {z:Exit} {b:Nat} {o:Obj} (n:Nat) (an:L.drop n=Gv.kS b o (aV hp)) (k:ae c Q z E (L.take n ++ aV hp)):ae c Q z E L:=fun a W s=>by
 have e:L=L.take n ++ Gv.kS b o (aV hp):=by rw [← an,List.take_append_drop]
 rw [e] at s
 exact k a W s.uS
theorem jP.get {α β:Type} [ag α] [ag β] {A W} :∀ {es:List MapEntry} {kv:List (α × β)},jP A W es kv→ ∀ {j:Nat} {x:α × β},kv[j]? =some x→ ∃ e,es[j]? =some e∧ (I.of x.1).holds A W e.key∧ (I.of x.2).holds A W e.val
 | _,_,.nil,j,x,h=>by simp at h
 | _,_,.cons J ad r,0,x,h=>by
   have h:some _=some x:=h
   cases h
   exact⟨_,rfl,J,ad⟩
 | _,_,.cons J ad r,j + 1,x,h=>by
   obtain⟨e,av,bm⟩:=r.get (j:=j) (by simpa using h)
   exact⟨e,by simpa using av,bm⟩
theorem ah.U5 {rest:List Oper} {bb p key elem:Nat} {α β:Type} [ag α] [ag β] {kv:List (α × β)} {sh:bT} (n:Nat) (an:L.drop n=aV hp) (hu:c.P.underlying t=some (.map key elem)) (al:a7 c E L x (.of (⟨some p⟩:e2))) (hp':pat hp p=some sh) (au:eG.g3 p sh= [⟨some p,.map kv⟩]) (aP:Nat.blt bb c.n=true)
 (k:∀ r es clock,Fu es clock kv.length→ah c ops Q rest ((bb,.eq (.pointer (some ⟨r,0,none⟩))) :: E) (⟨some r,.is (la p es clock [])⟩ :: (L.take n ++ Gv.kS p (.map es clock) (aV hp)))):
 ah c ops Q (⟨some bb,.range t x,ty,pos,af,none⟩ :: rest) E L:=fun a W s=>by
 have e:L=L.take n ++ aV hp:=by rw [← an,List.take_append_drop]
 have hm:(⟨some p,.map kv⟩:aJ)∈L:=by
  rw [e]
  exact ep (n:=(L.take n).length) (hp:=hp) (by simp) hp' au
 obtain⟨es,clock,a9,ad,ay,aU⟩:=s.AF hm
 have kz:=sD.1 (al a W s)
 have pH:Fu es clock kv.length:=⟨by have:=ad.length; simpa using this,ay,aU⟩
 refine g9 rfl (R:=fun v W'=>v= .pointer (some ⟨W.heap.size,0,none⟩)∧W'=W.alloc (la p es clock [])) (.kj ?_ ⟨rfl,rfl⟩) fun v W' ⟨a6,hw⟩=> ?_
 ·have bE:(getObj p).run c.P W= .ok (.map es clock) W:=by simp [getObj,Sem.run,a9]
  simp [execOp,Instr.range,Sem.run_bind,run_underlying hu,kz,bE,newObj,Sem.run]
  rfl
 ·subst a6
  subst hw
  have s1:=s.alloc (cp:= .is (la p es clock [])) (o:=la p es clock []) rfl
  refine k W.heap.size es clock pH _ _ (bw.put ?_ (by simpa using aP) rfl)
  rw [e] at s1
  have hb:(W.alloc (la p es clock [])).heap[p]? =some (.map es clock):=by
   have cb:p < W.heap.size:=(Array.getElem?_eq_some_iff.1 a9).1
   show(W.heap.push _)[p]? =_
   rw [Array.getElem?_push_lt cb,← Array.getElem?_eq_getElem cb]
   exact a9
  exact bw.kS (loc:=⟨some W.heap.size,.is (la p es clock [])⟩ :: L.take n) s1 hb
theorem ah.WN {rest:List Oper} {bb r p:Nat} {α β:Type} [ag α] [ag β] {kv:List (α × β)} {es:Array MapEntry} {clock:Nat} {vis:List Nat} (i:Nat) (al:a7 c E L x (.eq (.pointer (some ⟨r,0,none⟩)))) (ar:L[i]? =some ⟨some r,.is (la p es clock vis)⟩)
 (hm:(⟨some p,dr.and (.map kv) (.map es clock)⟩:aJ)∈L) (he:Fu es clock kv.length) (aP:Nat.blt bb c.n=true)
 (k:∀ j,v5 kv.length vis j→ah c ops Q rest ((bb,.Pt j.isSome) :: E) (L.set i ⟨some r,.is (la p es clock (vis ++ j.toList))⟩)):
 ah c ops Q (⟨some bb,.next x false,ty,pos,af,none⟩ :: rest) E L:=fun a W s=>by
 have kz:a.eval x=_:=al a W s
 obtain⟨b6,lN,⟨_,kT⟩⟩:=s.own _ hm
 subst kT
 obtain⟨bZ,Jl,vM⟩:=s.own _ (List.mem_of_getElem? ar)
 have vM:bZ=la p es clock vis:=vM
 subst vM
 have Xi:∀ {j:Nat} {e:MapEntry},es[j]? =some e→ (k5 es vis).contains e.born=true→j∈vis:=fun {j e} aG ak=>by
  unfold k5 at ak
  simp only [List.contains_toArray,List.contains_iff_mem,List.mem_filterMap] at ak
  obtain⟨v,a6,J⟩:=ak
  cases E7:es[v]? with
  | none=>rw [E7] at J; cases J
  | some e'=>
    rw [E7] at J
    have J:e'.born=e.born:=by simpa using J
    have Br:j < es.toList.length:=by simpa using (Array.getElem?_eq_some_iff.1 aG).1
    have tq:v < es.toList.length:=by simpa using (Array.getElem?_eq_some_iff.1 E7).1
    have aF:(es.toList.map MapEntry.born)[j]? =some e.born:=by simp [aG]
    have aR:(es.toList.map MapEntry.born)[v]? =some e.born:=by simp [E7,J]
    have:=(List.getElem?_inj (by simpa using Br) he.nodup).1 (aF.trans aR.symm)
    rw [this]; exact a6
 rcases run_next_at (P:=c.P) W ty r p clock clock (k5 es vis) es clock Jl lN he.born (Nat.le_refl _) with⟨bG,hB⟩ | ⟨e,BB,PU,xO,hB⟩
 ·
  have ky:v5 kv.length vis none:=fun j aG=>by
   have vN:j < es.size:=by rw [he.size]; exact aG
   false_or_by_contra
   rename_i eO
   have:es[j]∈ (leftOf es (k5 es vis)).toList:=by
    unfold leftOf
    simp only [Array.toList_filter,List.mem_filter]
    refine⟨by simp,?_⟩
    cases ak:(k5 es vis).contains es[j].born with
    | false=>rfl
    | true=>exact absurd (Xi (by simp [vN]) ak) eO
   have df:(leftOf es (k5 es vis)).toList= []:=by
    apply List.eq_nil_of_length_eq_zero; simpa using bG
   rw [df] at this; cases this
  refine g9 rfl (R:=fun v W'=>v= .tuple #[.bool false]∧W'=W) (.kj (v:= .tuple #[.bool false]) ?_ ⟨rfl,rfl⟩) fun v W' ⟨a6,hw⟩=> ?_
  ·simp only [execOp,kz,Sem.run_bind,hB,Result.andThen_ok]; rfl
  ·subst a6 hw
   have au:=k none ky
   have kq:L.set i ⟨some r,.is (la p es clock (vis ++ Option.toList none))⟩=L:=by
    apply List.ext_getElem?
    intro q
    rw [List.getElem?_set]
    split
    ·rename_i hq
     subst hq
     rw [if_pos (List.getElem?_eq_some_iff.1 ar).1,ar]
     simp
    ·rfl
   rw [kq] at au
   exact au _ _ (bw.put s (by simpa using aP) ⟨_,rfl,rfl⟩)
 ·have OF:e∈es.toList∧ (k5 es vis).contains e.born=false:=by
   unfold leftOf at BB
   simp only [Array.toList_filter,List.mem_filter,Bool.not_eq_true'] at BB
   exact BB
  obtain⟨j,aG⟩:=List.mem_iff_getElem?.1 OF.1
  have vN:es[j]? =some e:=by simpa using aG
  have Br:j < kv.length:=by rw [← he.size]; exact(Array.getElem?_eq_some_iff.1 vN).1
  have ky:v5 kv.length vis (some j):=⟨Br,fun a6=>by
   have:(k5 es vis).contains e.born=true:=by
    unfold k5
    simp only [List.contains_toArray,List.contains_iff_mem,List.mem_filterMap]
    exact⟨j,a6,by rw [vN]; rfl⟩
   rw [OF.2] at this; cases this⟩
  have H6:(k5 es vis).push e.born=k5 es (vis ++ [j]):=by
   unfold k5
   rw [List.filterMap_append]
   simp [vN]
  rw [H6] at hB
  refine g9 rfl (R:=fun v W'=>v= .tuple #[.bool true,e.key,e.val]∧W'=PU.putObj r (la p es clock (vis ++ [j]))) (.kj (v:= .tuple #[.bool true,e.key,e.val]) ?_ ⟨rfl,rfl⟩) fun v W' ⟨a6,hw⟩=> ?_
  ·simp only [execOp,kz,Sem.run_bind,hB,Result.andThen_ok]; rfl
  ·subst a6 hw
   have s1:bw c E L a PU:=by
    rcases xO with rfl | rfl
    ·exact s
    ·exact s.world (Fr.drew W)
   exact k (some j) ky _ _ (bw.put (s1.pt ar (cp':= .is (la p es clock (vis ++ [j]))) (o':=la p es clock (vis ++ [j])) rfl) (by simpa using aP) ⟨_,rfl,rfl⟩)
theorem U6 {b:Bool} (al:a7 c E L x (.Pt b)):b4 c E L ⟨d,.extract x 0,ty,pos,af,g⟩ (.of b):= .pure fun a W s=>by
 obtain⟨xs,J,ad⟩:=al a W s
 refine⟨.bool b,?_,of_bool.2 rfl⟩
 simp [execOp,Instr.extract,J,ad]
theorem Ty {r p:Nat} {α β:Type} [ag α] [ag β] [Inhabited α] [Inhabited β] {kv:List (α × β)} {es:Array MapEntry} {clock:Nat} {vis:List Nat} {j:Option Nat} {q:Nat} (i:Nat) (al:a7 c E L x (.eq (.pointer (some ⟨r,0,none⟩)))) (ar:L[i]? =some ⟨some r,.is (la p es clock (vis ++ j.toList))⟩)
 (hm:(⟨some p,dr.and (.map kv) (.map es clock)⟩:aJ)∈L) (he:Fu es clock kv.length) (aG:v5 kv.length vis j) (hq:j=some q):
 b4 c E L ⟨d,.entry x,ty,pos,af,g⟩ (.eD [.of (aI kv q).1,.of (aI kv q).2]):= .pure fun a W s=>by
 subst hq
 have kz:a.eval x=_:=al a W s
 obtain⟨b6,lN,⟨lf,uD,pB,ad,ay,aU⟩,kT⟩:=s.own _ hm
 subst kT
 cases pB
 obtain⟨bZ,Jl,vM⟩:=s.own _ (List.mem_of_getElem? ar)
 have vM:bZ=la p es clock (vis ++ [q]):=vM
 subst vM
 have ET:q < kv.length:=aG.1
 obtain⟨e,av,bm,bS⟩:=ad.get (j:=q) (x:=aI kv q) (by rw [eV _ ET]; exact List.getElem?_eq_getElem ET)
 have vN:es[q]? =some e:=by simpa using av
 have H6:k5 es (vis ++ [q])=(k5 es vis).push e.born:=by
  unfold k5
  rw [List.filterMap_append]
  simp [vN]
 have Jm:W.heap[r]? =some (.mapIter (some p) clock ((k5 es vis).push e.born) clock):=by rw [← H6]; exact Jl
 have hB:=run_entry_at (P:=c.P) W r p clock (k5 es vis) es clock e Jm lN (List.mem_of_getElem? av) he.nodup
 refine⟨.tuple #[e.key,e.val],?_,_,rfl,.cons bm (.cons bS .nil)⟩
 simp only [execOp,kz,Sem.run_bind,hB,Result.andThen_ok]
 rfl
end
end Gv
