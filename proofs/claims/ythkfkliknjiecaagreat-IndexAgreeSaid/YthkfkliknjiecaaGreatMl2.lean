/-
  The library of the decompiler, as far as it is needed here. Conditions: none.
-/
import Derived.Maps.RangeRun
import Derived.Test.YthkfkliknjiecaaGreatMl1
set_option linter.unusedVariables false
set_option linter.unusedSimpArgs false
namespace Gv
open Go
def Ea (P:Program) (u:Value) {α σ ε γ:Type} (τ:α→I) (Ls:σ→γ→List aI) (Lx:ε→γ→List aI) (step:α→σ→au (σ ⊕ ε)) (aam:List Nat→World→Prop):Prop:=
 ∃ l,u= .func (.yield l) #[] #[]∧ ∀ x s R,step x s R→ ∀ g A W v,aam (aK (Ls s g) ++ A) W→x0 A W (Ls s g)→ (τ x).holds (aK (Ls s g) ++ A) W v→
   YieldAt Fence.wide 8 P l #[v] W (fun e W'=>(∃ bR,R (.inl bR)∧j6 (aK (Ls s g)) A W (fun _:γ=>I.of true) (fun g=>Ls bR g) e W')∨ ∃ q,R (.inr q)∧j6 (aK (Ls s g)) A W (fun _:γ=>I.of false) (fun g=>Lx q g) e W')
structure zI (P:Program) (f:FuncId) (τs:List I) {bM:Type} [e0 bM] {α:Type} (τ:α→I) (run:∀ {σ ε:Type},(σ→aH bM)→ (α→σ→au (σ ⊕ ε))→σ→au (σ ⊕ ε)):Prop where
 go:∀ {σ ε γ:Type} (Ls:σ→γ→List aI) (Lx:ε→γ→List aI) (hq:σ→aH bM) (jW:σ→γ→List aI),(∀ s g,Ls s g=jW s g ++ aZ (hq s))→ ∀ (step:α→σ→au (σ ⊕ ε)) (bX:σ) (g0:γ) (R:σ ⊕ ε→Prop),run hq step bX R→
  ∀ (A:List Nat) (W:World) (u:Value) (vs:List Value),x0 A W (Ls bX g0)→gu (aK (Ls bX g0) ++ A) W τs vs→
    Ea P u τ Ls Lx step (fun c1 W'=>Ext (aK (Ls bX g0) ++ A) W c1 W')→
    Calls P f (u :: vs).toArray W (j6 (aK (Ls bX g0)) A W (δ:= {r // R r} × γ) (fun _=> .eA []) (fun d=>Lr Ls Lx d.1.1 d.2))
theorem zI.of {P:Program} {f:FuncId} {fn:Func} {code:Code} {n:Nat} {τs:List I} {bM:Type} [e0 bM] {α:Type} {τ:α→I} {run:∀ {σ ε:Type},(σ→aH bM)→ (α→σ→au (σ ⊕ ε))→σ→au (σ ⊕ ε)}
 (aV:P.funcs[f]? =some fn) (hb:fn.body=some code) (aF:fn.ntmps=n) (hlen:Nat.ble (τs.length + 1) n=true)
 (h:∀ {σ ε γ:Type} (Ls:σ→γ→List aI) (Lx:ε→γ→List aI) (hq:σ→aH bM) (jW:σ→γ→List aI),(∀ s g,Ls s g=jW s g ++ aZ (hq s))→ ∀ (step:α→σ→au (σ ⊕ ε)) (bX:σ) (g0:γ) (R:σ ⊕ ε→Prop),run hq step bX R→
  ∀ W A u,Ea P u τ Ls Lx step (fun c1 W'=>Ext (aK (Ls bX g0) ++ A) W c1 W')→
    ak ⟨P,n,W,aK (Ls bX g0),A,none,[]⟩ (bodyPost P fn (j6 (aK (Ls bX g0)) A W (δ:= {r // R r} × γ) (fun _=> .eA []) (fun d=>Lr Ls Lx d.1.1 d.2))) code (params 0 (.eq u :: τs)) (Ls bX g0)):zI P f τs τ run:=by
 refine⟨?_⟩
 intro σ ε γ Ls Lx hq jW nh step bX g0 R aD A W u vs an a3 a4
 refine calls_of_wp aV hb (wpIn_wide.1 (h Ls Lx hq jW nh step bX g0 R aD W A u a4 _ _ ?_))
 have lJ:gu (aK (Ls bX g0) ++ A) W (.eq u :: τs) (u :: vs):= .cons rfl a3
 have kX:=lJ.length
 have hle:τs.length + 1≤n:=Nat.le_of_ble_eq_true hlen
 exact
 {defers:=rfl
  size:=by simp at kX; simp [aF,kX]; omega
  env:=fun t τ eT=>by
   obtain⟨_,v,aa,av⟩:=uW lJ 0 t τ eT
   refine⟨v,?_,av⟩
   have bY:t < (u :: vs).length:=(List.getElem?_eq_some_iff.1 aa).1
   rw [Array.getElem?_append_left (by simpa using bY)]
   simpa using aa
  dw:= .refl _ _
  own:=an.ok
  nodup:=an.nodup
  lt:=an.lt
  fK:=fun k ar _=>ar
  ew:=an.ew }
section
variable {c:cY} {E:List (Nat × I)} {L:List aI} {ops:Array Oper} {Q:Exit→Act→World→Prop}
variable {d:Option Tmp} {ty:TypeId} {pos:String} {af:Array Edge} {g:Option (Nat × Bool)} {x y:Operand} {t t2:TypeId}
theorem Nd {bM:Type} [e0 bM] {σ γ:Type} {Ls jW:σ→γ→List aI} {hq:σ→aH bM} {s:σ} {g:γ} {p:Nat} {k:bM} {e:aI} (n:Nat) (aq:L.drop n=Ls s g) (nh:∀ s g,Ls s g=jW s g ++ aZ (hq s)) (h:pat (hq s) p=some k) (ar:e0.hH p k= [e]):e∈L:=by
 obtain⟨R,J,_⟩:=u0 h
 rw [ar] at J
 have:e∈L.drop n:=by rw [aq,nh]; exact List.mem_append.2 (.inr (J.mem_iff.2 (by simp)))
 exact List.mem_of_mem_drop this
theorem ah.Uk {rest:List Oper} {a7 k3:Nat} {ats:Array TypeId} {u:Value} {α σ ε γ:Type} {τ:α→I} {Ls:σ→γ→List aI} {Lx:ε→γ→List aI} {step:α→σ→au (σ ⊕ ε)} {Lin:List aI} {x:Operand} {v:α} {s:σ} {gg:γ} {R:σ ⊕ ε→Prop}
 (ag:c.rd=none) (a4:Ea c.P u τ Ls Lx step (fun c1 W'=>Ext (c.X ++ c.bL) c.iL c1 W')) (aV:look E k3=some (.eq u)) (ai:a8 c E (Lin ++ Ls s gg) x (τ v)) (aD:step v s R) (aF:Nat.blt a7 c.n=true)
 (bn:∀ bR,R (.inl bR)→ ∀ de,ah c ops Q rest ((a7,.of true) :: E) (Lin ++ Ls bR de)) (c3:∀ q,R (.inr q)→ ∀ de,ah c ops Q rest ((a7,.of false) :: E) (Lin ++ Lx q de)):
 ah c ops Q (⟨some a7,.call ⟨.value (.tmp k3),#[x],ats⟩,ty,pos,af,none⟩ :: rest) E (Lin ++ Ls s gg):=fun a W st=>by
 obtain⟨l,rfl,a4⟩:=a4
 obtain⟨Jz,J,aa⟩:=st.env k3 _ aV
 have hu:Jz= .func (.yield l) #[] #[]:=aa
 subst hu
 have nr:bC c E (Ls s gg ++ Lin) a W:=st.perm List.perm_append_comm
 have a3:=ai a W st
 have lJ:(τ v).holds (aK (Ls s gg) ++ (aK Lin ++ c.bL)) W (a.eval x):=(τ v).mono (.drop fun k hm=>by
  rw [e4]
  simp only [List.mem_append] at hm ⊢
  rcases hm with hm | hm | hm
  ·exact .inl (.inr hm)
  ·exact .inl (.inl hm)
  ·exact .inr hm) a3
 obtain⟨fn,tmps,assign,body,jP,jq⟩:=a4 v s R aD gg (aK Lin ++ c.bL) W (a.eval x) (nr.NQ.trans zz) nr.D9 lJ
 have HC:(execOp a.eval ⟨some a7,.call ⟨.value (.tmp k3),#[x],ats⟩,ty,pos,af,none⟩).run c.P W= .ok (.round l fn tmps assign body) W:=by
  rw [← jP]
  simp [execOp,resolve,Deferred.ofValue,Act.eval,J,invoke,Sem.run_bind,Sem.run_pure,Result.andThen]
 refine wpListIn_plain rfl fun K sN=> ?_
 refine⟨fun _ _=>trivial,?_⟩
 rw [Oper.semAt_eq _ _ _ (fun _ h=>by cases h),HC,Oper.uponIn_round]
 refine⟨fun h=>by simp at h,?_⟩
 have II:RoundIn c.F (9 - 1) c.P l fn tmps assign body W _:=jq
 refine II.mono fun e W' he=> ?_
 rcases he with⟨bR,hs,w,de,rfl,p8,av,aO,aS,aY⟩ | ⟨q,hs,w,de,rfl,p8,av,aO,aS,aY⟩
 ·obtain rfl:=of_bool.1 aY
  refine sN _ _ (bn bR hs de _ _ ?_)
  exact(((nr.after p8 av aO aS).perm List.perm_append_comm).put (by simpa using aF) (of_bool.2 rfl))
 ·obtain rfl:=of_bool.1 aY
  refine sN _ _ (c3 q hs de _ _ ?_)
  exact(((nr.after p8 av aO aS).perm List.perm_append_comm).put (by simpa using aF) (of_bool.2 rfl))
def O7 {σ ε γ:Type} (c:cY) (eV:ε→Code) (l D:Nat) (rec:Loop) (Ls:σ→γ→List aI) (Lx:ε→γ→List aI) (R:σ ⊕ ε→Prop):Exit→Act→World→Prop:=fun x a W=>
 (∃ bR,R (.inl bR)∧x= .normal∧ ∃ g,bC c [] (⟨some l,.is (.loop rec)⟩ :: ⟨some D,.db⟩ :: Ls bR g) a W)∨
 ∃ q,R (.inr q)∧vm (eV q)=true∧x=zQ (eV q)∧ ∃ g,bC c [] (⟨some l,.is (.loop rec)⟩ :: ⟨some D,.db⟩ :: Lx q g) a W
theorem aj.XW {σ ε γ:Type} {eV:ε→Code} {l D:Nat} {rec:Loop} {Ls:σ→γ→List aI} {Lx:ε→γ→List aI} {R:σ ⊕ ε→Prop} {bR:σ} (jq:R (.inl bR)) (g:γ) (n:Nat) (aq:L.drop n=⟨some l,.is (.loop rec)⟩ :: ⟨some D,.db⟩ :: Ls bR g):
 aj c (O7 c eV l D rec Ls Lx R) .normal E L:=fun a W s=> .inl ⟨bR,jq,rfl,g,by rw [← aq]; exact(s.oy n).less (fun t τ h=>by simp [look] at h)⟩
theorem Sd {gt p:Nat} {assign body:Code} {f:FuncId} {mN:List I} {bM:Type} [e0 bM] {α σ ε γ ρ:Type} {τ:α→I} {run:∀ {σ ε:Type},(σ→aH bM)→ (α→σ→au (σ ⊕ ε))→σ→au (σ ⊕ ε)}
 {Ls:σ→γ→List aI} {Lx:ε→γ→List aI} {hq:σ→aH bM} {step:α→σ→au (σ ⊕ ε)} {bX:σ} {g0:γ} {k:σ ⊕ ε→au ρ} {nz:ρ→Prop} (jW:σ→γ→List aI) (eV:ε→Code)
 (ag:c.rd=none) (er:bV c.P f) (bg:look E gt=some (.gy f mN)) (kk:zI c.P f mN τ run) (aD:au.bind (run hq step bX) k nz) (nh:∀ s g,Ls s g=jW s g ++ aZ (hq s)) (aq:L=Ls bX g0) (hp:Nat.blt p c.n=true)
 (pb:∀ x s R,step x s R→ ∀ g (kV:World) (kZ kW:List Nat) (l D:Nat) (rec:Loop),rec.state= .ready→
  ak ⟨c.P,c.n,kV,kZ,kW,some l,[]⟩ (Exit.then (BI ⟨c.P,c.n,kV,kZ,kW,some l,[]⟩ l body (O7 ⟨c.P,c.n,kV,kZ,kW,some l,[]⟩ eV l D { rec with state:= .busy } Ls Lx R)) (fun _ _ _=>False)) assign ((p,τ x) :: E) (⟨some l,.is (.loop rec)⟩ :: ⟨some D,.db⟩ :: Ls s g))
 (mI:∀ bR,k (.inl bR) nz→ ∀ g D,aj { c with ds:=D :: c.ds } Q .normal E (⟨some D,.db⟩ :: Ls bR g))
 (vF:∀ q,k (.inr q) nz→ ∀ g D,ak { c with ds:=D :: c.ds } Q (eV q) E (⟨some D,.db⟩ :: Lx q g)):
 ak c Q (.rangeFunc (.tmp gt) #[p] assign body) E L:=fun a W st=>by
 subst aq
 refine wpIn_rangeFunc fun fn Zs=> ?_
 show ∃ l mark Yq d WK yv args Yr,(Instr.enterLoop fn a.tmps #[p] assign body c.rd).run c.P W=_∧_
 rw [ag]
 obtain⟨rec,ky⟩:∃ rec:Loop,rec= { state:= .ready,pending:=none,fn,tmps:=a.tmps,params:= #[p],assign,body,defers:=W.heap.size } :=⟨_,rfl⟩
 obtain⟨v,Bd,hK,wF,Zt⟩:=st.env gt _ bg
 obtain⟨g2,Be⟩:∃ g2,(W.alloc (.deferred (some []))).alloc (.loop rec)=g2:=⟨_,rfl⟩
 have s1:=(st.alloc (o:= .deferred (some [])) (cp:= .db) rfl).alloc (o:= .loop rec) (cp:= .is (.loop rec)) rfl
 rw [Be,World.size_alloc] at s1
 obtain⟨D,k1⟩:∃ D,D=W.heap.size:=⟨_,rfl⟩
 obtain⟨l,an⟩:∃ l,l=W.heap.size + 1:=⟨_,rfl⟩
 have Bf:=run_enterLoop_outer (P:=c.P) (w:=W) fn a.tmps #[p] assign body
 rw [← ky,Be,← an,← k1] at Bf
 rw [← an,← k1] at s1
 obtain⟨lq,p9⟩:∃ lq:σ→γ→List aI,lq=fun s g=>⟨some l,.is (.loop rec)⟩ :: ⟨some D,.db⟩ :: Ls s g:=⟨_,rfl⟩
 obtain⟨mV,Bg⟩:∃ mV:ε→γ→List aI,mV=fun q g=>⟨some l,.is (.loop { rec with state:= .done,pending:=some (eV q) })⟩ :: ⟨some D,.db⟩ :: Lx q g:=⟨_,rfl⟩
 have s2:bC c E (lq bX g0) a g2:=by rw [p9]; exact s1
 have IL:gu (aK (lq bX g0) ++ c.bL) g2 mN hK:=by
  have J:(I.gy f mN).holds (aK (lq bX g0) ++ c.bL) g2 v:=by
   obtain⟨rh,J,aa⟩:=s2.env gt _ bg
   rw [Bd] at J
   cases J
   exact aa
  obtain⟨IM,az,aX⟩:=J
  rw [wF] at az
  have:IM=hK:=by injection az with _ _ az; injection az with az; exact az.symm
  rw [← this]; exact aX
 have Bh:bC c E ((lq bX g0) ++ []) a g2:=by rw [List.append_nil]; exact s2
 have z8:=Bh.D9
 simp only [aK,List.nil_append] at z8
 have H7:Ea c.P (.func (.yield l) #[] #[]) τ lq mV step (fun c1 W'=>Ext (aK (lq bX g0) ++ c.bL) g2 c1 W'):=by
  refine⟨l,rfl,fun x s EV hs g A n8 v2 gX hle a3=> ?_⟩
  have AG:=hle
  rw [p9] at AG
  obtain⟨o,c7,eS⟩:=AG.ok ⟨some l,.is (.loop rec)⟩ (by simp)
  have pS:o= .loop rec:=eS
  subst pS
  have a4:=run_yield (P:=c.P) (args:= #[v2]) c7 (by rw [ky]; rfl)
  refine⟨_,_,_,_,a4,roundIn_of_wpIn trivial ?_⟩
  have az:rec.assign=assign:=by rw [ky]
  have aX:rec.body=body:=by rw [ky]
  have dS:rec.params= #[p]:=by rw [ky]
  have gP:rec.tmps=a.tmps:=by rw [ky]
  rw [az,aX,dS,gP]
  refine CG (n:=9) rfl ?_
  have HD:((#[p]:Array Tmp).zip #[v2]).foldl (fun tmps (t,a)=>tmps.setIfInBounds t a) a.tmps=a.tmps.setIfInBounds p v2:=by simp
  rw [HD]
  subst p9 Bg
  refine wpIn_mono ((pb x s EV hs g n8 (aK (⟨some l,.is (.loop rec)⟩ :: ⟨some D,.db⟩ :: Ls s g)) A l D rec (by rw [ky])) { tmps:=a.tmps.setIfInBounds p v2,defers:= [] } n8 ?_) ?_
  ·have ig:p < c.n:=by simpa using hp
   exact
   {defers:=rfl
    size:=by simp [s2.size]
    env:=fun t mS eT=>by
     simp only [look] at eT
     by_cases e:Nat.beq p t=true
     ·rw [e] at eT
      simp only [cond_true,Option.some.injEq] at eT
      subst eT
      have:=ec.1 e
      subst this
      exact⟨v2,by simp [s2.size,ig],a3⟩
     ·simp only [Bool.not_eq_true] at e
      rw [e] at eT
      simp only [cond_false] at eT
      obtain⟨u,J,aa⟩:=s2.env t mS eT
      have cN:p≠t:=fun h=>by rw [ec.2 h] at e; cases e
      exact⟨u,by rw [Array.getElem?_setIfInBounds_ne cN]; exact J,mS.mono gX aa⟩
    dw:= .refl _ _
    own:=hle.ok
    nodup:=hle.nodup
    lt:=hle.lt
    fK:=fun k ar _=>ar
    ew:=hle.ew }
  ·intro e eM aah hq
   cases e with
   | normal=>
     obtain⟨JA,IN,hb⟩:=hq
     refine⟨JA,IN,CG (n:=9) rfl (wpIn_mono hb ?_)⟩
     intro e lu BJ Ey
     have fin:∀ (jump:Option Code) {Lr:List aI},bC ⟨c.P,c.n,n8,aK (⟨some l,.is (.loop rec)⟩ :: ⟨some D,.db⟩ :: Ls s g),A,some l,[]⟩ [] (⟨some l,.is (.loop { rec with state:= .busy })⟩ :: ⟨some D,.db⟩ :: Lr) lu BJ→
      ∃ oU,(Instr.endRound l jump).run c.P BJ= .ok (.bool jump.isNone) oU∧bC ⟨c.P,c.n,n8,aK (⟨some l,.is (.loop rec)⟩ :: ⟨some D,.db⟩ :: Ls s g),A,some l,[]⟩ [] (⟨some l,.is (.loop { rec with state:=if jump.isNone then .ready else .done,pending:=jump })⟩ :: ⟨some D,.db⟩ :: Lr) lu oU:=fun jump Lr oV=>by
      obtain⟨o,J,aa⟩:=oV.own ⟨some l,.is (.loop { rec with state:= .busy })⟩ (by simp)
      have ji:o= .loop { rec with state:= .busy } :=aa
      subst ji
      exact⟨_,run_endRound jump J,oV.qW (i:=0) rfl rfl⟩
     rcases Ey with⟨bR,ej,rfl,de,oV⟩ | ⟨q,ej,aB,rfl,de,oV⟩
     ·obtain⟨oU,aY,sS⟩:=fin none oV
      refine⟨_,oU,aY,.inl ⟨bR,ej,?_⟩⟩
      have IP:({ rec with state:=if (none:Option Code).isNone then .ready else .done,pending:=none } :Loop)=rec:=by rw [ky]; rfl
      rw [IP] at sS
      exact sS.ends (ρ:=fun _:γ=>I.of true) (Lo:=fun g=>⟨some l,.is (.loop rec)⟩ :: ⟨some D,.db⟩ :: Ls bR g) de (List.Sublist.refl _) (of_bool.2 rfl)
     ·obtain⟨oU,aY,sS⟩:=fin (some (eV q)) oV
      have key:j6 (aK (⟨some l,.is (.loop rec)⟩ :: ⟨some D,.db⟩ :: Ls s g)) A n8 (fun _:γ=>I.of false) (fun g=>⟨some l,.is (.loop { rec with state:= .done,pending:=some (eV q) })⟩ :: ⟨some D,.db⟩ :: Lx q g) (.returned (.bool false)) oU:=
       sS.ends (ρ:=fun _:γ=>I.of false) (Lo:=fun g=>⟨some l,.is (.loop { rec with state:= .done,pending:=some (eV q) })⟩ :: ⟨some D,.db⟩ :: Lx q g) de (List.Sublist.refl _) (of_bool.2 rfl)
      exact Kk aB aY (.inr ⟨q,ej,key⟩)
   | exit id=>exact hq.elim
   | goto t=>exact hq.elim
   | ret=>exact hq.elim
   | panic Jo=>exact hq.elim
   | outgrown=>exact hq.elim
 have z9:=kk.go lq mV hq (fun s g=>⟨some l,.is (.loop rec)⟩ :: ⟨some D,.db⟩ :: jW s g) (fun s g=>by rw [p9]; simp only [nh,List.cons_append]) step bX g0 (fun r=>k r nz) aD c.bL g2 (.func (.yield l) #[] #[]) hK z8 IL H7
 have mg:a.eval (.tmp gt)= .func (.func f) #[] hK.toArray:=by simp [Act.eval,Bd,wF]
 refine⟨l,[D2 D],g2,{ target:= .fn (.func f) hK.toArray,args:= #[.func (.yield l) #[] #[]] },g2,f,#[.func (.yield l) #[] #[]] ++ hK.toArray,g2,Bf,?_,fun _ _=>trivial,?_,fun h=>by simp at h,?_⟩
 ·simp only [resolve,mg]
  simp [go_sem]
 ·simp [invoke,go_sem,er.run]
 ·refine CallsIn.Gw ?_
  have HE:(#[.func (.yield l) #[] #[]] ++ hK.toArray:Array Value)=(.func (.yield l) #[] #[] :: hK).toArray:=by simp
  rw [HE]
  refine z9.mono fun e JB ⟨aai,⟨⟨r,O8⟩,de⟩,he,aV,av,aO,aS,aY⟩=> ?_
  subst he
  have oW:=Bh.after aV av (by simpa [aK] using aO) (by simpa [aK] using aS)
  rw [List.append_nil] at oW
  cases r with
  | inl bR=>
    simp only [Lr] at oW
    subst p9
    obtain⟨o,c7,eS⟩:=oW.own ⟨some l,.is (.loop rec)⟩ (by simp)
    have pS:o= .loop rec:=eS
    subst pS
    have nY:=run_endLoop (P:=c.P) c7 (by rw [ky]; simp)
    have ig:rec.pending=none:=by rw [ky]
    rw [ig] at nY
    refine⟨none,_,nY,?_⟩
    have sT:=(oW.qW (i:=0) (cp':= .is (.loop { rec with state:= .exhausted })) (o':= .loop { rec with state:= .exhausted }) rfl rfl).oy 1
    rw [ig] at sT
    exact mI bR O8 de D _ _ (sT.mark D)
  | inr q=>
    simp only [Lr] at oW
    subst Bg
    obtain⟨o,c7,eS⟩:=oW.own ⟨some l,.is (.loop { rec with state:= .done,pending:=some (eV q) })⟩ (by simp)
    have pS:o= .loop { rec with state:= .done,pending:=some (eV q) } :=eS
    subst pS
    have nY:=run_endLoop (P:=c.P) c7 (by simp)
    refine⟨some (eV q),_,nY,?_⟩
    have sT:=(oW.qW (i:=0) (cp':= .is (.loop { rec with state:= .exhausted,pending:=some (eV q) })) (o':= .loop { rec with state:= .exhausted,pending:=some (eV q) }) rfl rfl).oy 1
    exact vF q O8 de D _ _ (sT.mark D)
end
def au.any (α:Type):au α:=fun Q=> ∀ x,Q x
theorem au.any_bind {α β:Type} {k:α→au β} {R:β→Prop} (h:au.bind (au.any α) k R) (x:α):k x R:=h x
theorem gu.append {A:List Nat} {W:World} :∀ {τs σs:List I} {vs us:List Value},gu A W τs vs→gu A W σs us→gu A W (τs ++ σs) (vs ++ us)
 | _,_,_,_,.nil,h=>h
 | _,_,_,_,.cons h r,aa=> .cons h (r.append aa)
section
variable {c:cY} {E:List (Nat × I)} {L:List aI} {ops:Array Oper} {Q:Exit→Act→World→Prop}
variable {d:Option Tmp} {ty:TypeId} {pos:String} {af:Array Edge} {g:Option (Nat × Bool)} {x y:Operand} {t t2:TypeId}
def eO (c:cY) (E:List (Nat × I)) (L:List aI) (o:Oper) {δ:Type} (ρ:δ→I) (L':δ→List aI):Prop:=
 ∀ a W,bC c E L a W→gx c.P o a W fun v W'=> ∃ q,bC c E (L' q) a W'∧ (ρ q).holds (aK (L' q) ++ c.bL) W' v
theorem ah.sL {o:Oper} {rest:List Oper} {a7:Nat} {δ:Type} {ρ:δ→I} {L':δ→List aI} (h:eO c E L o ρ L') (bg:o.guard=none) (hd:o.dst=some a7) (aF:Nat.blt a7 c.n=true)
 (k:∀ q,ah c ops Q rest ((a7,ρ q) :: E) (L' q)):ah c ops Q (o :: rest) E L:=fun a W s=>
 hO bg (h a W s) fun v W' ⟨q,f,a3⟩=>by
  rw [hd]
  exact k q _ _ (f.put (by simpa using aF) a3)
theorem ah.PG {o:Oper} {rest:List Oper} {a7 j gs:Nat} {b want:Bool} {δ β:Type} {σ:β→I} {L2:β→List aI} {K:β→Prop} {val:δ→β} {ρ:δ→I} {L':δ→List aI} (bg:o.guard=some (j,want)) (aB:(ops[j]?).bind (·.dst)=some gs)
 (an:look E gs=some (.of b)) (hd:o.dst=some a7) (aF:Nat.blt a7 c.n=true) (h:b=want→eO c E L o ρ L')
 (J:b=want→ ∀ q,K (val q)∧ρ q=σ (val q)∧L' q=L2 (val q)) (aa: ¬ b=want→ ∃ y,K y∧L=L2 y)
 (k:∀ y,K y→ah c ops Q rest ((a7,.cond (b=want) (σ y)) :: E) (L2 y)):ah c ops Q (o :: rest) E L:=fun a W s=>by
 have a4:=xm aB an s
 unfold cY.pn wpListIn
 by_cases hb:b=want
 ·rw [if_pos (by simp [Region.wanted,bg,a4,hb])]
  refine((h hb a W s).wpIn fun v W' ⟨q,f,a3⟩=> ?_)
  obtain⟨az,aX,dS⟩:=J hb q
  rw [aX] at a3
  rw [dS] at f a3
  rw [hd]
  exact k _ az _ _ (f.put (by simpa using aF) ⟨fun _=>a3,fun h=>absurd hb h⟩)
 ·rw [if_neg (by simp [Region.wanted,bg,a4,hb])]
  rw [hd]
  obtain⟨y,az,aX⟩:=aa hb
  rw [aX] at s
  exact⟨fun _ _=>trivial,k y az _ _ (s.put (by simpa using aF) ⟨fun h=>absurd h hb,fun _=>rfl⟩)⟩
theorem eO.perm {gU:List aI} {o:Oper} {δ:Type} {ρ:δ→I} {L' L2:δ→List aI} (p:L.Perm gU) (EW:∀ q,(L' q).Perm (L2 q)) (h:eO c E gU o ρ L'):eO c E L o ρ L2:=fun a W s=>by
 have:=h a W (s.perm p)
 unfold gx at this ⊢
 exact Oper.wp_mono (fun gn W' ⟨v,J,q,aa,av⟩=>⟨v,J,q,aa.perm (EW q),(ρ q).mono (m7 (EW q)) av⟩) this
theorem eO.to {o:Oper} {δ:Type} {ρ:δ→I} {L' L2:δ→List aI} (e:∀ q,L' q=L2 q) (h:eO c E L o ρ L'):eO c E L o ρ L2:=by
 have:L'=L2:=funext e
 subst this; exact h
theorem eO.Yt {o:Oper} {δ:Type} {τ:I} (h:eO c E L o (fun _:δ=>τ) (fun _=>L)):fr c E L o τ:=fun a W s=>by
 have:=h a W s
 unfold gx at this ⊢
 exact Oper.wp_mono (fun gn W' ⟨v,J,q,aa,av⟩=>⟨v,J,aa,av⟩) this
theorem eO.call {o:Oper} {f:FuncId} {as:Act→List Value} {τs:List I} {Lin Lr:List aI} {δ:Type} {ρ:δ→I} {Lo:δ→List aI} (h:bN c.P f τs Lin ρ Lo)
 (ag:∀ a W,bC c E (Lin ++ Lr) a W→ (execOp a.eval o).run c.P W= .ok (.enter f (as a).toArray) W∧gu (aK (Lin ++ Lr) ++ c.bL) W τs (as a)):eO c E (Lin ++ Lr) o ρ (fun q=>Lo q ++ Lr):=fun a W s=>by
 obtain⟨jP,ai⟩:=ag a W s
 have l7:=s.nodup
 rw [e4] at l7
 obtain⟨nq,oN,p5⟩:=List.nodup_append.1 l7
 have lA:Ext (aK (Lin ++ Lr) ++ c.bL) W (aK Lin ++ (aK Lr ++ c.bL)) W:=zz
 have gK:∀ k∈aK Lr ++ c.bL,k < W.heap.size∧k ∉ aK Lin:=fun k hm=>by
  rcases List.mem_append.1 hm with hm | hm
  ·exact⟨s.lt k (by rw [e4]; exact List.mem_append.2 (.inr hm)),fun h=>p5 k h k hm rfl⟩
  ·obtain⟨J,aa⟩:=s.ew k hm
   exact⟨J,fun h=>aa (by rw [e4]; exact List.mem_append.2 (.inl h))⟩
 have bY:∀ k∈aK Lin,k < W.heap.size:=fun k hm=>s.lt k (by rw [e4]; exact List.mem_append.2 (.inl hm))
 refine .u6 (f:=f) (args:=(as a).toArray) (W':=W) jP ?_
 refine(h (aK Lr ++ c.bL) W (as a) gK nq bY (fun e he=>aI.tv (s.own e (List.mem_append.2 (.inl he))) lA fun _ _=>rfl) (ai.mono lA)).mono fun e W' ⟨v,a7,he,aV,J,aa,av,aO⟩=> ?_
 exact⟨v,he,a7,s.after aV J aa av,(ρ a7).mono Ga aO⟩
theorem eO.NT {o:Oper} {bM:Type} [e0 bM] {hp:aH bM} {Lin Lr:List aI} {δ:Type} {ρ:δ→I} {Lo:δ→List aI} {hq:δ→aH bM} (n m:Nat) (aq:L.drop n=aZ hp) (J:(L.take n).take m=Lin) (aa:(L.take n).drop m=Lr)
 (h:eO c E ((Lin ++ aZ hp) ++ Lr) o ρ (fun q=>(Lo q ++ aZ (hq q)) ++ Lr)):eO c E L o ρ (fun q=>(Lo q ++ Lr) ++ aZ (hq q)):=by
 have e:L=(Lin ++ Lr) ++ aZ hp:=by rw [← J,← aa,List.take_append_drop,← aq,List.take_append_drop]
 clear aq J aa
 subst e
 exact h.perm nG fun q=>nG
theorem eO.kM {f:FuncId} {xs:List Operand} {ats:Array TypeId} {bM:Type} [e0 bM] {hp:aH bM} {τs:List I} {Lin Lr:List aI} {δ:Type} {ρ:δ→I} {Lo:δ→List aI} {hq:δ→aH bM} (n m:Nat) (aq:L.drop n=aZ hp) (er:bV c.P f) (h:bN c.P f τs (Lin ++ aZ hp) ρ (fun d=>Lo d ++ aZ (hq d)))
 (J:(L.take n).take m=Lin) (aa:(L.take n).drop m=Lr) (ai:ht c E L xs τs):eO c E L ⟨d,.call ⟨.value (.func f),xs.toArray,ats⟩,ty,pos,af,g⟩ ρ (fun q=>(Lo q ++ Lr) ++ aZ (hq q)):=by
 have e:L=(Lin ++ Lr) ++ aZ hp:=by rw [← J,← aa,List.take_append_drop,← aq,List.take_append_drop]
 refine eO.NT n m aq J aa (eO.call (as:=fun a=>xs.map a.eval) h fun a W s=>⟨by simp [execOp,resolve,Deferred.ofValue,Act.eval,invoke,er.run],?_⟩)
 subst e
 exact(ai.holds a W (s.perm nG.symm)).mono (m7 nG)
theorem eO.pH {f:FuncId} {xs:List Operand} {ats:Array TypeId} {τs:List I} {Lin Lr:List aI} {δ:Type} {ρ:δ→I} {Lo:δ→List aI} (m:Nat) (er:bV c.P f) (h:bN c.P f τs Lin ρ Lo)
 (J:L.take m=Lin) (aa:L.drop m=Lr) (ai:ht c E L xs τs):eO c E L ⟨d,.call ⟨.value (.func f),xs.toArray,ats⟩,ty,pos,af,g⟩ ρ (fun q=>Lo q ++ Lr):=by
 have e:L=Lin ++ Lr:=by rw [← J,← aa,List.take_append_drop]
 clear J aa
 subst e
 exact eO.call (as:=fun a=>xs.map a.eval) h fun a W s=>⟨by simp [execOp,resolve,Deferred.ofValue,Act.eval,invoke,er.run],ai.holds a W s⟩
theorem a8.TL {n7:Operand} {f:FuncId} {ud τs:List I} {xs:List Operand} {ats:Array TypeId} (er:bV c.P f) (aV:a8 c E L n7 (.gy f ud)) (ai:ht c E L xs τs) {a:Act} {W:World} (s:bC c E L a W):
 ∃ hK:List Value,(execOp a.eval ⟨d,.call ⟨.value n7,xs.toArray,ats⟩,ty,pos,af,g⟩).run c.P W= .ok (.enter f (xs.map a.eval ++ hK).toArray) W∧gu (aK L ++ c.bL) W (τs ++ ud) (xs.map a.eval ++ hK):=by
 obtain⟨hK,J,aa⟩:=aV a W s
 exact⟨hK,by simp [execOp,resolve,Deferred.ofValue,J,invoke,er.run],(ai.holds a W s).append aa⟩
theorem eO.gy {n7:Operand} {f:FuncId} {ud τs:List I} {xs:List Operand} {ats:Array TypeId} {Lin Lr:List aI} {δ:Type} {ρ:δ→I} {Lo:δ→List aI} (m:Nat) (er:bV c.P f) (aV:a8 c E L n7 (.gy f ud)) (h:bN c.P f (τs ++ ud) Lin ρ Lo)
 (J:L.take m=Lin) (aa:L.drop m=Lr) (ai:ht c E L xs τs):eO c E L ⟨d,.call ⟨.value n7,xs.toArray,ats⟩,ty,pos,af,g⟩ ρ (fun q=>Lo q ++ Lr):=by
 have e:L=Lin ++ Lr:=by rw [← J,← aa,List.take_append_drop]
 clear J aa
 subst e
 intro a W s
 obtain⟨hK,av,aO⟩:=a8.TL (d:=d) (ty:=ty) (pos:=pos) (af:=af) (g:=g) (ats:=ats) er aV ai s
 have l7:=s.nodup
 rw [e4] at l7
 obtain⟨nq,oN,p5⟩:=List.nodup_append.1 l7
 have lA:Ext (aK (Lin ++ Lr) ++ c.bL) W (aK Lin ++ (aK Lr ++ c.bL)) W:=zz
 have gK:∀ k∈aK Lr ++ c.bL,k < W.heap.size∧k ∉ aK Lin:=fun k hm=>by
  rcases List.mem_append.1 hm with hm | hm
  ·exact⟨s.lt k (by rw [e4]; exact List.mem_append.2 (.inr hm)),fun h=>p5 k h k hm rfl⟩
  ·obtain⟨J,aa⟩:=s.ew k hm
   exact⟨J,fun h=>aa (by rw [e4]; exact List.mem_append.2 (.inl h))⟩
 have bY:∀ k∈aK Lin,k < W.heap.size:=fun k hm=>s.lt k (by rw [e4]; exact List.mem_append.2 (.inl hm))
 refine .u6 (f:=f) (W':=W) av ?_
 refine(h (aK Lr ++ c.bL) W _ gK nq bY (fun e he=>aI.tv (s.own e (List.mem_append.2 (.inl he))) lA fun _ _=>rfl) (aO.mono lA)).mono fun e W' ⟨v,a7,he,aV,J,aa,av,aO⟩=> ?_
 exact⟨v,he,a7,s.after aV J aa av,(ρ a7).mono Ga aO⟩
theorem ht.perm {gU:List aI} (p:L.Perm gU):∀ {xs:List Operand} {τs:List I},ht c E L xs τs→ht c E gU xs τs
 | [],[],h=>h
 | _ :: _,_ :: _,h=>⟨h.1.perm p,ht.perm p h.2⟩
 | [],_ :: _,h=>h.elim
 | _ :: _,[],h=>h.elim
theorem eO.HR {n7:Operand} {f:FuncId} {ud τs:List I} {xs:List Operand} {ats:Array TypeId} {bM:Type} [e0 bM] {hp:aH bM} {Lin Lr:List aI} {δ:Type} {ρ:δ→I} {Lo:δ→List aI} {hq:δ→aH bM} (n m:Nat) (aq:L.drop n=aZ hp) (er:bV c.P f) (aV:a8 c E L n7 (.gy f ud)) (h:bN c.P f (τs ++ ud) (Lin ++ aZ hp) ρ (fun d=>Lo d ++ aZ (hq d)))
 (J:(L.take n).take m=Lin) (aa:(L.take n).drop m=Lr) (ai:ht c E L xs τs):eO c E L ⟨d,.call ⟨.value n7,xs.toArray,ats⟩,ty,pos,af,g⟩ ρ (fun q=>(Lo q ++ Lr) ++ aZ (hq q)):=by
 have e:L=(Lin ++ Lr) ++ aZ hp:=by rw [← J,← aa,List.take_append_drop,← aq,List.take_append_drop]
 refine eO.NT n m aq J aa ?_
 subst e
 refine eO.to (fun q=>rfl) (eO.gy (Lin ++ aZ hp).length er (aV.perm nG) h List.take_left List.drop_left (ai.perm nG))
theorem eO.obj {f:FuncId} {xs:List Operand} {ats:Array TypeId} {bM:Type} [e0 bM] {hp:aH bM} {p:Nat} {k:bM} {τs:List I} {Lin:List aI} {δ:Type} {ρ:δ→I} {Lo:δ→List aI} (n:Nat) (k':δ→bM) (aq:L.drop n=aZ hp) (hp':pat hp p=some k) (er:bV c.P f) (h:bN c.P f τs Lin ρ Lo)
 (ar:e0.hH p k=Lin) (jB:∀ q,e0.hH p (k' q)=Lo q) (ai:ht c E L xs τs):eO c E L ⟨d,.call ⟨.value (.func f),xs.toArray,ats⟩,ty,pos,af,g⟩ ρ (fun q=>L.take n ++ aZ (ch hp p (k' q))):=by
 obtain⟨R,ba,bh⟩:=u0 hp'
 have e:L=L.take n ++ aZ hp:=by rw [← aq,List.take_append_drop]
 have ck:∀ {M X:List aI},M.Perm (X ++ R)→ (L.take n ++ M).Perm (X ++ (R ++ L.take n)):=fun h=>List.perm_append_comm.trans ((h.append_right _).trans (by rw [List.append_assoc]))
 have IV:L.Perm (Lin ++ (R ++ L.take n)):=by
  conv=>lhs; rw [e]
  exact ck (by rw [← ar]; exact ba)
 refine eO.perm IV (fun q=>(ck (bh (k' q))).symm) ?_
 refine eO.to (fun q=>by rw [jB]) (eO.call (Lr:=R ++ L.take n) (as:=fun a=>xs.map a.eval) h fun a W s=>⟨by simp [execOp,resolve,Deferred.ofValue,Act.eval,invoke,er.run],?_⟩)
 exact(ai.holds a W (s.perm IV.symm)).mono (m7 IV)
theorem fr.obj {f:FuncId} {xs:List Operand} {ats:Array TypeId} {bM:Type} [e0 bM] {hp:aH bM} {p:Nat} {k:bM} {τs:List I} {Lin:List aI} {δ:Type} {τ:I} (n:Nat) (aq:L.drop n=aZ hp) (hp':pat hp p=some k) (er:bV c.P f) (h:bN c.P f τs Lin (fun _:δ=>τ) (fun _=>Lin))
 (ar:e0.hH p k=Lin) (ai:ht c E L xs τs):fr c E L ⟨d,.call ⟨.value (.func f),xs.toArray,ats⟩,ty,pos,af,g⟩ τ:=by
 have e:L=L.take n ++ aZ hp:=by rw [← aq,List.take_append_drop]
 have ZF:ch hp p k=hp:=by
  clear e aq h ar
  induction hp with
  | nil=>rfl
  | cons z r bD=>
    obtain⟨q,aa8⟩:=z
    simp only [pat] at hp'
    simp only [ch]
    split at hp'
    ·rename_i e; simp only [Option.some.injEq] at hp'; rw [if_pos e,hp']
    ·rename_i e; rw [if_neg e,bD hp']
 refine eO.Yt (eO.to (fun q=> ?_) (eO.obj (d:=d) (ty:=ty) (pos:=pos) (af:=af) (g:=g) (ats:=ats) n (fun _=>k) aq hp' er h ar (fun _=>ar) ai))
 rw [ZF,← e]
theorem ah.Vx {l:List Oper} {bM:Type} [e0 bM] {hp:aH bM} {p:Nat} {Lin Lr:List aI} (n m:Nat) (mk:bM) (aq:L.drop n=aZ hp) (J:(L.take n).take m=Lin) (aa:(L.take n).drop m=Lr) (ar:e0.hH p mk=Lin) (hm:p∈aK Lin)
 (k:∀ a:Nat × aH bM,a.1 ∉ hp.map (·.1)∧a.2=(a.1,mk) :: hp→a.1=p→ah c ops Q l E (Lr ++ aZ a.2)):ah c ops Q l E L:=fun a W s=>by
 have e:L=(Lin ++ Lr) ++ aZ hp:=by rw [← J,← aa,List.take_append_drop,← aq,List.take_append_drop]
 have ck:L.Perm (Lr ++ aZ ((p,mk) :: hp)):=by
  rw [e,aZ,ar,← List.append_assoc]
  exact List.perm_append_comm.append_right _
 refine k (p,(p,mk) :: hp) ⟨fun ZG=> ?_,rfl⟩ rfl _ _ (s.perm ck)
 have gk:=s.nodup
 rw [e,e4,e4] at gk
 exact(List.nodup_append.1 gk).2.2 p (List.mem_append.2 (.inl hm)) p (MH ZG) rfl
end
section
variable {c:cY} {E:List (Nat × I)} {L:List aI} {ops:Array Oper} {Q:Exit→Act→World→Prop}
theorem b8.q {hs:List dk} {i np:Nat} {o:Oper} {h:dk} (bS:b8 c ops Q hs E L i o h):G5 c ops Q hs E L np i o h:=fun hd E' L' J aa _=>bS hd E' L' J aa
structure zJ (P:Program) (f:FuncId) (τs:List I) {bM:Type} [e0 bM] (hp:aH bM) {α:Type} (τ:α→I) (run:∀ {σ ε:Type},(α→σ→Option (σ ⊕ ε))→σ→Option (σ ⊕ ε)):Prop where
 go:∀ {σ ε γ:Type} (Ls:σ→γ→List aI) (Lx:ε→γ→List aI) (jW:σ→γ→List aI),(∀ s g,Ls s g=jW s g ++ aZ hp)→IK P f τs [] τ (run (σ:=σ) (ε:=ε)) Ls Lx
theorem zJ.of {P:Program} {f:FuncId} {fn:Func} {code:Code} {n:Nat} {τs:List I} {bM:Type} [e0 bM] {hp:aH bM} {α:Type} {τ:α→I} {run:∀ {σ ε:Type},(α→σ→Option (σ ⊕ ε))→σ→Option (σ ⊕ ε)}
 (aV:P.funcs[f]? =some fn) (hb:fn.body=some code) (aF:fn.ntmps=n) (hlen:Nat.ble (τs.length + 1) n=true)
 (h:∀ {σ ε γ:Type} (Ls:σ→γ→List aI) (Lx:ε→γ→List aI) (jW:σ→γ→List aI),(∀ s g,Ls s g=jW s g ++ aZ hp)→ ∀ (step:α→σ→Option (σ ⊕ ε)) (bX:σ) (g0:γ) (r:σ ⊕ ε),run step bX=some r→
  ∀ W A u,wE P u τ Ls Lx step (fun c1 W'=>Ext (aK (Ls bX g0) ++ A) W c1 W')→
    ak ⟨P,n,W,aK (Ls bX g0),A,none,[]⟩ (bodyPost P fn (j6 (aK (Ls bX g0)) A W (fun _:γ=> .eA []) (fun g=> [] ++ Lr Ls Lx r g))) code (params 0 (.eq u :: τs)) (Ls bX g0)):zJ P f τs hp τ run:=by
 refine⟨?_⟩
 intro σ ε γ Ls Lx jW nh step bX g0 r aD A W u vs an a3 a4
 refine calls_of_wp aV hb (wpIn_wide.1 (h Ls Lx jW nh step bX g0 r aD W A u a4 _ _ ?_))
 have lJ:gu (aK (Ls bX g0) ++ A) W (.eq u :: τs) (u :: vs):= .cons rfl a3
 have kX:=lJ.length
 have hle:τs.length + 1≤n:=Nat.le_of_ble_eq_true hlen
 exact
 {defers:=rfl
  size:=by simp at kX; simp [aF,kX]; omega
  env:=fun t τ eT=>by
   obtain⟨_,v,aa,av⟩:=uW lJ 0 t τ eT
   refine⟨v,?_,av⟩
   have bY:t < (u :: vs).length:=(List.getElem?_eq_some_iff.1 aa).1
   rw [Array.getElem?_append_left (by simpa using bY)]
   simpa using aa
  dw:= .refl _ _
  own:=an.ok
  nodup:=an.nodup
  lt:=an.lt
  fK:=fun k ar _=>ar
  ew:=an.ew }
theorem VV {bM:Type} [e0 bM] {σ γ:Type} {Ls jW:σ→γ→List aI} {hp:aH bM} {s:σ} {g:γ} {p:Nat} {k:bM} {e:aI} (n:Nat) (aq:L.drop n=Ls s g) (nh:∀ s g,Ls s g=jW s g ++ aZ hp) (h:pat hp p=some k) (ar:e0.hH p k= [e]):e∈L:=
 Nd (hq:=fun _=>hp) n aq nh h ar
theorem FR {gt p:Nat} {assign body:Code} {f:FuncId} {mN:List I} {bM:Type} [e0 bM] {hp:aH bM} {α σ ε γ:Type} {τ:α→I} {run:∀ {σ ε:Type},(α→σ→Option (σ ⊕ ε))→σ→Option (σ ⊕ ε)}
 {Ls:σ→γ→List aI} {Lx:ε→γ→List aI} {step:α→σ→Option (σ ⊕ ε)} {bX:σ} {g0:γ} {r:σ ⊕ ε} (jW:σ→γ→List aI) (eV:ε→Code)
 (ag:c.rd=none) (er:bV c.P f) (bg:look E gt=some (.gy f mN)) (kk:zJ c.P f mN hp τ run) (aD:run step bX=some r) (nh:∀ s g,Ls s g=jW s g ++ aZ hp) (aq:L=Ls bX g0) (hp':Nat.blt p c.n=true)
 (pb:∀ x s r,step x s=some r→ ∀ g (kV:World) (kZ kW:List Nat) (l D:Nat) (rec:Loop),rec.state= .ready→
  ak ⟨c.P,c.n,kV,kZ,kW,some l,[]⟩ (Exit.then (BI ⟨c.P,c.n,kV,kZ,kW,some l,[]⟩ l body (BH ⟨c.P,c.n,kV,kZ,kW,some l,[]⟩ eV l D { rec with state:= .busy } Ls Lx r)) (fun _ _ _=>False)) assign ((p,τ x) :: E) (⟨some l,.is (.loop rec)⟩ :: ⟨some D,.db⟩ :: Ls s g))
 (mI:∀ bR,r= .inl bR→ ∀ g D,aj { c with ds:=D :: c.ds } Q .normal E (⟨some D,.db⟩ :: Ls bR g))
 (vF:∀ q,r= .inr q→ ∀ g D,ak { c with ds:=D :: c.ds } Q (eV q) E (⟨some D,.db⟩ :: Lx q g)):
 ak c Q (.rangeFunc (.tmp gt) #[p] assign body) E L:=
 Lc (Lin:= []) (run:=run) eV ag er bg (fun az aX mV=>kk.go (fun s g=>az :: aX :: Ls s g) mV (fun s g=>az :: aX :: jW s g) (fun s g=>by rw [nh]; rfl)) aD aq hp' pb mI vF
end
structure Raw where
 f:FuncId
 us:Option (List Value)
instance:Inhabited Raw:=⟨⟨0,none⟩⟩
def Raw.val:Raw→Value
 | ⟨f,some us⟩=> .func (.func f) #[] us.toArray
 | ⟨_,none⟩=> .nilFunc
instance:ae Raw where
 size:=1
 agg:=false
 rep _ _ cs x:=cs= [x.val]
 len h:=by rw [h]; rfl
 one h:=by
  intro v a3
  rw [h,List.mem_singleton] at a3
  subst a3
  rename_i x
  obtain⟨f,us⟩:=x
  cases us <;> rfl
 flat _:=rfl
 mono _ h:=h
instance:bb Raw:=⟨[.nilFunc],fun _ _=>rfl⟩
theorem MK {A W v} {x:Raw} :(I.of x).holds A W v↔v=x.val:=by
 constructor
 ·intro h
  exact od (by have:=h.1; exact this) h.2
 ·intro h
  subst h
  obtain⟨f,us⟩:=x
  cases us <;> exact⟨rfl,rfl⟩
section
variable {c:cY} {E:List (Nat × I)} {L:List aI} {ops:Array Oper} {Q:Exit→Act→World→Prop}
variable {d:Option Tmp} {ty:TypeId} {pos:String} {af:Array Edge} {g:Option (Nat × Bool)} {x y:Operand} {t t2:TypeId}
theorem gu.eqs {A:List Nat} {W:World} :∀ {us vs:List Value},gu A W (us.map I.eq) vs→vs=us
 | [],_,.nil=>rfl
 | _ :: _,_,.cons h r=>by rw [r.eqs]; congr 1
theorem gu.NU {A:List Nat} {W:World} :∀ {us:List Value},gu A W (us.map I.eq) us
 | []=> .nil
 | _ :: _=> .cons rfl .NU
theorem Nh {f:FuncId} {xs:List Operand} {us:List Value} (ai:ht c E L xs (us.map I.eq)):bO c E L ⟨d,.makeFunc (.func f) #[] xs.toArray,ty,pos,af,g⟩ (.of (⟨f,some us⟩:Raw)):= .pure fun a W s=>
 ⟨.func (.func f) #[] us.toArray,by
   have h:=(ai.holds a W s).eqs
   simp [execOp,Instr.makeFunc,h],MK.2 rfl⟩
theorem F2 {f:FuncId} {us:List Value} (ai:a8 c E L x (.of (⟨f,some us⟩:Raw))):a8 c E L x (.gy f (us.map I.eq)):=fun a W s=>
 ⟨us,MK.1 (ai a W s),.NU⟩
theorem ah.ER {o:Oper} {rest:List Oper} {a7 j gs:Nat} {b want:Bool} {β γ Bn:Type} {m:au β} {z:β} {k:β→au Bn} {R:Bn→Prop} (h:au.bind (bif decide (b=want) then m else au.ret z) k R) (σ:β→I) (L2:β→γ→List aI) (g0:γ) (aq:L=L2 z g0)
 (bg:o.guard=some (j,want)) (aB:(ops[j]?).bind (·.dst)=some gs) (an:look E gs=some (.of b)) (hd:o.dst=some a7) (aF:Nat.blt a7 c.n=true)
 (bl:b=want→m (fun r=>k r R)→eO c E L o (fun q: {r // k r R} × γ=>σ q.1.1) (fun q=>L2 q.1.1 q.2))
 (m0:∀ y g,k y R→ah c ops Q rest ((a7,.cond (b=want) (σ y)) :: E) (L2 y g)):ah c ops Q (o :: rest) E L:=by
 by_cases hb:b=want
 ·have hm:m (fun r=>k r R):=by
   have cS:(bif decide (b=want) then m else au.ret z) (fun r=>k r R):=h
   rw [decide_eq_true hb] at cS; exact cS
  exact ah.PG (β:=β × γ) (K:=fun y=>k y.1 R) (σ:=fun y=>σ y.1) (L2:=fun y=>L2 y.1 y.2) (val:=fun q=>(q.1.1,q.2)) bg aB an hd aF (fun _=>bl hb hm) (fun _ q=>⟨q.1.2,rfl,rfl⟩) (fun h=>absurd hb h) fun y a4=>m0 y.1 y.2 a4
 ·have hm:k z R:=by
   have cS:(bif decide (b=want) then m else au.ret z) (fun r=>k r R):=h
   rw [decide_eq_false hb] at cS; exact cS
  exact ah.PG (δ:=Unit) (β:=β × γ) (K:=fun y=>k y.1 R) (σ:=fun y=>σ y.1) (L2:=fun y=>L2 y.1 y.2) (val:=fun _=>(z,g0)) (ρ:=fun _=>σ z) (L':=fun _=>L2 z g0) bg aB an hd aF (fun h=>absurd h hb) (fun h=>absurd h hb) (fun _=>⟨(z,g0),hm,aq⟩) fun y a4=>m0 y.1 y.2 a4
end
section
variable {c:cY} {E:List (Nat × I)} {L:List aI} {ops:Array Oper} {Q:Exit→Act→World→Prop}
theorem ah.Vy {l:List Oper} {p q:Nat} (ff:Nat) (an:look E ff=some (.eq (.pointer (some ⟨p,0,none⟩)))) (he:q=p) (k:ah c ops Q l ((ff,.of (some q:Ref)) :: E) L):ah c ops Q l E L:=fun a W s=>by
 subst he
 refine k a W (s.less fun t τ h=> ?_)
 simp only [look] at h
 by_cases e:Nat.beq ff t=true
 ·rw [e] at h
  simp only [cond_true,Option.some.injEq] at h
  have:=ec.1 e
  subst this
  subst h
  exact⟨_,an,fun A W v a3=>tE.2 a3⟩
 ·simp only [Bool.not_eq_true] at e
  rw [e] at h
  exact⟨τ,h,fun _ _ _ h=>h⟩
end
section
variable {c:cY} {E:List (Nat × I)} {L:List aI} {ops:Array Oper} {Q:Exit→Act→World→Prop}
def xN (ops:Array Oper) (n:Nat) (hs:List (Option Nat × List Nat × List Nat × List Nat)) (E:List Nat):Bool:=
 decide (hs.length=n) && decide (n≤ops.size) && decide (hs.filterMap (·.1)).Nodup && ((List.range n).all fun m=>match hs[m]? with | some (some s,up,_)=> !E.contains s || (List.range n).all fun k=>decide (k=m) || up.contains k | _=>true) &&
 ((List.range n).all fun i=>match hs[i]? with
   | none=>false
   | some (_,up,rd,wr)=>
     (((ops[i]?).map fun o=>(o.dst ==(hs[i]?).bind (·.1)) && o.after.all fun e=> !Region.binds .any e || decide (e.on < i)).getD false) &&
     (up.all fun k=>Region.waitsFor .any ops i k || (List.range i).any fun m=>Region.waitsFor .any ops i m && ((hs[m]?).map fun h=>h.2.1.contains k).getD false) &&
     ((List.range n).all fun k=>match hs[k]? with
       | none=>true
       | some (_,ID,_,A7)=>
         (!(decide (k < i) && A7.any rd.contains) || up.contains k) && (!(decide (i < k) && A7.any fun j=>rd.contains j || wr.contains j) || ID.contains i))) &&
 (decide (n=ops.size) || (Region.sinkB .any ops n && Region.chainB .any ops n)) &&
 Region.seqB .any ops (ops.size - n) n ((List.range n).foldl (fun l i=>l.setIfInBounds i true) (Array.replicate ops.size false))
theorem RR {n:Nat} {hs:List dk} {np:Nat} (hw:∀ h∈hs,∀ j∈h.wr,j < np∨L.length≤j) (hA:xN ops n (jj hs) (E.map (·.1))=true) (bS:o4 c ops Q hs E L np 0 (ops.toList.take n) hs)
 (bl:∀ hd,ah c ops Q (ops.toList.drop n) (hG (fun _=>true) hd E 0 hs) (gR (fun _=>true) hd 0 hs L)):
 ∀ m (a1:Array Bool) (hd:Nat→Hid) (a:Act) (W:World),((List.range n).filter fun i=> !a1.getD i true).length≤m→HeadInv .any ops n a1→
   bC c (hG (fun i=>a1.getD i false) hd E 0 hs) (gR (fun i=>a1.getD i false) hd 0 hs L) a W→wpAnyIn c.F 9 c.P .any ops Q (m + (ops.size - n)) a1 a W:=by
 simp only [xN,Bool.and_eq_true,decide_eq_true_eq,Bool.or_eq_true] at hA
 obtain⟨⟨⟨⟨⟨⟨HA,aF⟩,gk⟩,AE⟩,kx⟩,vC⟩,pO⟩:=hA
 have hlen:hs.length=n:=by simpa [jj] using HA
 have lB:∀ i,i < n→ ∃ h o,hs[i]? =some h∧ops[i]? =some o:=fun i ao=>⟨hs[i]'(by omega),ops[i],by simp,by simp⟩
 have pJ:∀ (i:Nat) (h:dk) (o:Oper),hs[i]? =some h→ops[i]? =some o→
  o.dst=h.slot∧ (∀ e∈o.after,Region.binds .any e=true→e.on < i)∧
  (∀ k∈h.up,Region.waitsFor .any ops i k=true∨ ∃ m,m < i∧Region.waitsFor .any ops i m=true∧ ∃ x,hs[m]? =some x∧k∈x.up)∧
  (∀ (k:Nat) (x:dk),hs[k]? =some x→ (k < i→ (∃ j∈x.wr,h.rd.contains j=true)→k∈h.up)∧ (i < k→ (∃ j∈x.wr,h.rd.contains j=true∨h.wr.contains j=true)→i∈x.up)):=by
  intro i h o ao a6
  have bY:i < n:=by have:=(List.getElem?_eq_some_iff.1 ao).1; omega
  have J:=List.all_eq_true.1 kx i (List.mem_range.2 bY)
  rw [xt ao] at J
  simp only [Bool.and_eq_true] at J
  obtain⟨⟨aa,av⟩,aO⟩:=J
  simp only [a6,Option.map_some,Option.getD_some,Bool.and_eq_true,Option.bind_some,beq_iff_eq] at aa
  refine⟨aa.1,fun e he hb=> ?_,fun k ar=> ?_,fun k x ai=> ?_⟩
  ·have:=Array.all_eq_true_iff_forall_mem.1 aa.2 e he
   simp [hb] at this
   exact this
  ·have:=List.all_eq_true.1 av k ar
   simp only [Bool.or_eq_true,List.any_eq_true,Bool.and_eq_true,List.mem_range] at this
   rcases this with aS | ⟨m,aS,aY,b7⟩
   ·exact .inl aS
   ·have hm:m < hs.length:=by omega
    rw [xt (List.getElem?_eq_getElem hm)] at b7
    exact .inr ⟨m,aS,aY,hs[m],List.getElem?_eq_getElem hm,by simpa using b7⟩
  ·have sw:k < n:=by have:=(List.getElem?_eq_some_iff.1 ai).1; omega
   have:=List.all_eq_true.1 aO k (List.mem_range.2 sw)
   rw [xt ai] at this
   simp only [Bool.and_eq_true,Bool.or_eq_true,Bool.not_eq_true',Bool.and_eq_false_iff,decide_eq_false_iff_not,List.contains_iff_mem] at this
   refine⟨fun jC ⟨j,aB,aD⟩=> ?_,fun ln ⟨j,aB,aD⟩=> ?_⟩
   ·rcases this.1 with(aS | aS) | aS
    ·exact absurd jC aS
    ·have:=List.any_eq_false.1 aS j aB
     exact absurd aD this
    ·exact aS
   ·rcases this.2 with(aS | aS) | aS
    ·exact absurd ln aS
    ·have:=List.any_eq_false.1 aS j aB
     simp only [Bool.or_eq_true] at this
     exact absurd aD this
    ·exact aS
 have vE:∀ (i j s:Nat) (x y:dk),hs[i]? =some x→hs[j]? =some y→x.slot=some s→y.slot=some s→i=j:=by
  have key:∀ (l:List dk),((jj l).filterMap (·.1)).Nodup→ ∀ (i j s:Nat) (x y:dk),l[i]? =some x→l[j]? =some y→x.slot=some s→y.slot=some s→i=j:=by
   intro l
   induction l with
   | nil=>intro _ i j s x y h; simp at h
   | cons z r bD=>
     intro gk i j s x y ao aB ai a4
     have aD:((jj r).filterMap (·.1)).Nodup:=by
      cases dc:z.slot with
      | none=>simpa [jj,dc] using gk
      | some w=>
        simp only [jj,List.map_cons,List.filterMap_cons,dc] at gk
        exact(List.nodup_cons.1 gk).2
     have pN:z.slot=some s→ ∀ (q:Nat) (v:dk),r[q]? =some v→v.slot≠some s:=fun dc q v hq a3=>by
      simp only [jj,List.map_cons,List.filterMap_cons,dc] at gk
      exact(List.nodup_cons.1 gk).1 (List.mem_filterMap.2 ⟨_,List.mem_map.2 ⟨v,List.mem_of_getElem? hq,rfl⟩,a3⟩)
     cases i with
     | zero=>
       simp only [List.getElem?_cons_zero,Option.some.injEq] at ao
       subst ao
       cases j with
       | zero=>rfl
       | succ j=>simp only [List.getElem?_cons_succ] at aB; exact absurd a4 (pN ai j y aB)
     | succ i=>
       simp only [List.getElem?_cons_succ] at ao
       cases j with
       | zero=>
         simp only [List.getElem?_cons_zero,Option.some.injEq] at aB
         subst aB
         exact absurd ai (pN a4 i x ao)
       | succ j=>simp only [List.getElem?_cons_succ] at aB; rw [bD aD i j s x y ao aB ai a4]
  exact key hs gk
 have HB:∀ (t:Nat) (τ:I),look E t=some τ→ ∀ (m:Nat) (h:dk),hs[m]? =some h→h.slot=some t→ ∀ k,k < n→k≠m→k∈h.up:=by
  intro t τ an m h hm ej k ar sD
  have mc:m < n:=by have:=(List.getElem?_eq_some_iff.1 hm).1; omega
  have J:=List.all_eq_true.1 AE m (List.mem_range.2 mc)
  rw [show(jj hs)[m]? =some (h.slot,h.up,h.rd,h.wr) by simp [jj,hm],ej] at J
  have ub:t∈E.map (·.1):=by
   clear AE J bS bl hm ej
   induction E with
   | nil=>simp [look] at an
   | cons x r bD=>
     obtain⟨s,σ⟩:=x
     simp only [look] at an
     by_cases e:Nat.beq s t=true
     ·have:=ec.1 e; subst this; simp
     ·simp only [Bool.not_eq_true] at e
      rw [e] at an
      simp only [List.map_cons,List.mem_cons]
      exact .inr (bD an)
  replace J:(!(E.map (·.1)).contains t || (List.range n).all fun k=>decide (k=m) || h.up.contains k)=true:=J
  rw [show(E.map (·.1)).contains t=true by simpa using ub] at J
  have aa:∀ x,x < n→x=m∨x∈h.up:=by simpa using J
  exact(aa k ar).resolve_left sD
 have sE:∀ (a1:Array Bool),HeadInv .any ops n a1→ ∀ (d i:Nat),i≤d→ ∀ (h:dk) (o:Oper),hs[i]? =some h→ops[i]? =some o→ (∀ e∈o.after,Region.binds .any e=true→a1.getD e.on false=true)→ ∀ k∈h.up,a1.getD k false=true:=by
  intro a1 inv d
  induction d with
  | zero=>
    intro i ao h o df n2 hw k ar
    rcases (pJ i h o df n2).2.2.1 k ar with J | ⟨m,hm,_⟩
    ·obtain⟨kG,hI,e,he,hb,lp⟩:=Region.waitsFor_spec J
     rw [n2] at hI; cases hI
     rw [← lp]; exact hw e he hb
    ·omega
  | succ d bD=>
    intro i ao h o df n2 hw k ar
    rcases (pJ i h o df n2).2.2.1 k ar with J | ⟨m,hm,J,x,ai,IE⟩
    ·obtain⟨kG,hI,e,he,hb,lp⟩:=Region.waitsFor_spec J
     rw [n2] at hI; cases hI
     rw [← lp]; exact hw e he hb
    ·obtain⟨kG,hI,e,he,hb,lp⟩:=Region.waitsFor_spec J
     rw [n2] at hI; cases hI
     have mc:=hw e he hb
     rw [lp] at mc
     obtain⟨aU,qj,Zm,p6⟩:=lB m (by have:=(List.getElem?_eq_some_iff.1 df).1; omega)
     exact bD m (by omega) x qj ai p6 (fun e he hb=>inv.closed m qj p6 mc e he hb) k IE
 have mI:∀ (a1:Array Bool) (hd:Nat→Hid) (a:Act) (W:World),(∀ i,i < n→a1.getD i true=true)→HeadInv .any ops n a1→
  bC c (hG (fun i=>a1.getD i false) hd E 0 hs) (gR (fun i=>a1.getD i false) hd 0 hs L) a W→wpAnyIn c.F 9 c.P .any ops Q (ops.size - n) a1 a W:=by
  intro a1 hd a W pK inv st
  have an:=FL inv aF pK
  rw [← an] at pO
  have vD:(ops.toList.drop n).length=ops.size - n:=by simp
  rw [← vD]
  rw [← vD] at pO
  refine y2 (ops.toList.drop n) n a1 a W (fun j=>by simp) pO (bl hd a W ?_)
  have EC:∀ m,m < hs.length→a1.getD (0 + m) false=true:=fun m hm=>by
   have J:=pK m (by omega)
   have aa:m < a1.size:=by rw [inv.size]; omega
   simpa [aa] using J
  rw [FN (ls':=fun _=>true) EC,F8 (ls':=fun _=>true) EC] at st
  exact st
 have more:∀ f (a1:Array Bool) a W,wpAnyIn c.F 9 c.P .any ops Q f a1 a W→wpAnyIn c.F 9 c.P .any ops Q (f + 1) a1 a W:=by
  intro f
  induction f with
  | zero=>intro a1 a W h; exact⟨fun _=>h.2,fun i ao=>by rw [h.1] at ao; cases ao⟩
  | succ f AU=>intro a1 a W h; exact⟨h.1,fun i ao=>wpOpIn_mono (fun gn jZ cS=>AU _ gn jZ cS) (h.2 i ao)⟩
 intro m
 induction m with
 | zero=>
   intro a1 hd a W hm inv st
   rw [Nat.zero_add]
   refine mI a1 hd a W (fun i ao=> ?_) inv st
   cases h:a1.getD i true with
   | true=>rfl
   | false=>
     have:i∈ (List.range n).filter fun i=> !a1.getD i true:=List.mem_filter.2 ⟨List.mem_range.2 ao,by rw [h]; rfl⟩
     rw [List.length_eq_zero_iff.1 (Nat.le_zero.1 hm)] at this
     cases this
 | succ m bD=>
   intro a1 hd a W hm inv st
   rw [show m + 1 + (ops.size - n)=(m + (ops.size - n)) + 1 by omega]
   by_cases Aa:∀ i,i < n→a1.getD i true=true
   ·have J:=mI a1 hd a W Aa inv st
    have key:∀ k,wpAnyIn c.F 9 c.P .any ops Q (k + (ops.size - n)) a1 a W:=by
     intro k
     induction k with
     | zero=>rw [Nat.zero_add]; exact J
     | succ k AV=>rw [show k + 1 + (ops.size - n)=(k + (ops.size - n)) + 1 by omega]; exact more _ _ _ _ AV
    exact more _ _ _ _ (key m)
   have hex:∃ i,i < n∧a1.getD i true=false:=by
    false_or_by_contra
    rename_i aa
    exact Aa fun i ao=>by
     cases h:a1.getD i true with
     | true=>rfl
     | false=>exact absurd ⟨i,ao,h⟩ aa
   have zM:∀ t∈Region.ready .any ops a1,t < n:=by
    intro t p1
    rcases Nat.lt_or_ge t n with h | h
    ·exact h
    ·obtain⟨i,ao,ic⟩:=hex
     have Ov:n < ops.size∨n=ops.size:=by omega
     have Yu:t < ops.size:=by
      obtain⟨_,o,a6,_⟩:=mem_ready.1 p1
      exact(Array.getElem?_eq_some_iff.1 a6).1
     rcases vC with J | J
     ·omega
     ·exact absurd p1 (tail_waits J.1 J.2 (by omega) inv _ i rfl ao ic t h)
   refine⟨fun bA=> ?_,fun i ao=> ?_⟩
   ·exfalso
    have key:∀ d i,i≤d→i < n→a1.getD i true=true:=by
     intro d
     induction d with
     | zero=>
       intro i wo ao
       cases an:a1.getD i true with
       | true=>rfl
       | false=>
         obtain⟨h,o,df,a6⟩:=lB i ao
         have:i∈Region.ready .any ops a1:=mem_ready.2 ⟨an,o,a6,fun e he hb=>by have:=(pJ i h o df a6).2.1 e he hb; omega⟩
         rw [bA] at this; cases this
     | succ d A8=>
       intro i wo ao
       cases an:a1.getD i true with
       | true=>rfl
       | false=>
         obtain⟨h,o,df,a6⟩:=lB i ao
         have:i∈Region.ready .any ops a1:=mem_ready.2 ⟨an,o,a6,fun e he hb=>by
          have J:=(pJ i h o df a6).2.1 e he hb
          have aa:=A8 e.on (by omega) (by omega)
          have av:e.on < a1.size:=by rw [inv.size]; omega
          simpa [av] using aa⟩
         rw [bA] at this; cases this
    obtain⟨i,ao,ic⟩:=hex
    have:=key i i (Nat.le_refl _) ao
    rw [ic] at this; cases this
   ·have dQ:i < n:=zM i ao
    obtain⟨ic,o,a6,nJ⟩:=mem_ready.1 ao
    obtain⟨h,_,df,_⟩:=lB i dQ
    have jO:a1.getD i false=false:=getD_both ic
    have pQ:i < a1.size:=by rw [inv.size]; omega
    have pP:((List.range n).filter fun j=> !(a1.setIfInBounds i true).getD j true).length≤m:=by
     have:((List.range n).filter fun j=> !(a1.setIfInBounds i true).getD j true).length < ((List.range n).filter fun j=> !a1.getD j true).length:=by
      refine Dw (fun j=> !a1.getD j true) (fun j=> !(a1.setIfInBounds i true).getD j true) i (by simp only [ic]; rfl) ?_ (fun j aB=> ?_) n dQ
      ·simp [pQ]
      ·by_cases e:i=j
       ·subst e; simp only [ic]; rfl
       ·rw [getD_set_ne true e] at aB; exact aB
     omega
    have sc:=inv.set ao dQ
    obtain⟨AA,zN,WI,ua⟩:=pJ i h o df a6
    have vY:=sE a1 inv i i (Nat.le_refl _) h o df a6 nJ
    have zO:∀ (k:Nat) (x:dk),hs[k]? =some x→i < k→ (∃ j∈x.wr,h.rd.contains j=true∨h.wr.contains j=true)→a1.getD k false=false:=fun k x ai ln aB=>by
     have J:=(ua k x ai).2 ln aB
     cases ar:a1.getD k false with
     | false=>rfl
     | true=>
       obtain⟨_,ok,_,ie⟩:=lB k (by have:=(List.getElem?_eq_some_iff.1 ai).1; omega)
       have:=sE a1 inv k k (Nat.le_refl _) x ok ai ie (fun e he hb=>inv.closed k ok ie ar e he hb) i J
       rw [jO] at this; cases this
    have zP:hs=hs.take i ++ h :: hs.drop (i + 1):=by
     have IF:i < hs.length:=by omega
     rw [List.getElem?_eq_getElem IF] at df
     cases df
     rw [List.getElem_cons_drop]
     exact(List.take_append_drop i hs).symm
    have A9:(hs.take i).length=i:=by rw [List.length_take]; omega
    have p4:∀ (t:Nat) (τ:I),look E t=some τ→ ∀ (m:Nat) (x:dk),hs[m]? =some x→a1.getD (0 + m) false=true→x.slot≠some t:=fun t τ an m x ai sF ej=>by
     rw [Nat.zero_add] at sF
     have Ba:i≠m:=fun e=>by subst e; rw [jO] at sF; cases sF
     obtain⟨_,qj,_,p6⟩:=lB m (by have:=(List.getElem?_eq_some_iff.1 ai).1; omega)
     have:=sE a1 inv m m (Nat.le_refl _) x qj ai p6 (fun e he hb=>inv.closed m qj p6 sF e he hb) i (HB t τ an m x ai ej i dQ Ba)
     rw [jO] at this; cases this
    have z7:=(o4.get bS i h o df (by rw [List.getElem?_take,if_pos dQ,Array.getElem?_toList]; exact a6))
    rw [Nat.zero_add] at z7
    have Bb:=z7 hd (hG (fun i=>a1.getD i false) hd E 0 hs) (gR (fun i=>a1.getD i false) hd 0 hs L) (fun t τ an=> ?_) (fun j e aB aD=> ?_) (Da hw)
    ·have hw:=y6 (K:=fun a W=> ∃ x,bC c (nX h.slot (h.τ (gl h.up i (iV hd i x))) (hG (fun i=>a1.getD i false) hd E 0 hs)) (l8 (gR (fun i=>a1.getD i false) hd 0 hs L) (h.dA (gl h.up i (iV hd i x))) h.wr) a W) a6 (Bb a W st)
     refine wpOpIn_mono (fun gn W' ⟨x,nr⟩=> ?_) hw
     have Bc:∀ j,j≠i→iV hd i x j=hd j:=fun j aB=>by
      have:Nat.beq j i=false:=by
       cases hb:Nat.beq j i
       ·rfl
       ·exact absurd (ec.1 hb) aB
      simp only [iV,this,cond_false]
     have wC:∀ (j:Nat) (y:dk),hs[j]? =some y→a1.getD j false=true→gl y.up j (iV hd i x)=gl y.up j hd:=fun j y a4 aB=>by
      obtain⟨_,kG,_,hI⟩:=lB j (by have:=(List.getElem?_eq_some_iff.1 a4).1; omega)
      refine La (Bc j fun e=>by subst e; rw [jO] at aB; cases aB) fun k ar=>Bc k fun e=> ?_
      have:=sE a1 inv j j (Nat.le_refl _) y kG a4 hI (fun e he hb=>inv.closed j kG hI aB e he hb) k ar
      subst e
      rw [jO] at this; cases this
     have wD:(a1.setIfInBounds i true).getD i false=true:=by simp [pQ]
     have fA:∀ j,j≠i→ (a1.setIfInBounds i true).getD j false=a1.getD j false:=fun j aB=>getD_set_ne false (fun e=>aB e.symm)
     refine bD _ (iV hd i x) gn W' pP sc ?_
     have H5:gR (fun j=>(a1.setIfInBounds i true).getD j false) (iV hd i x) 0 hs L=l8 (gR (fun i=>a1.getD i false) hd 0 hs L) (h.dA (gl h.up i (iV hd i x))) h.wr:=by
      apply List.ext_getElem?
      intro j
      rw [vl,CQ,vl]
      by_cases aB:h.wr.contains j=true
      ·rw [if_pos aB]
       have az:∀ (ls:Nat→Bool) (g:Nat→Hid) (v:Option aI),(∀ k x,hs[k]? =some x→i < k→x.wr.contains j=true→ls k=false)→j9 ls g j 0 hs v=(bif ls i then(j9 ls g j 0 (hs.take i) v).map (fun _=>h.dA (gl h.up i g) j) else j9 ls g j 0 (hs.take i) v):=fun ls g v A6=>by
        conv=>lhs; rw [zP]
        rw [za,A9,Nat.zero_add,j9,aB,Bool.and_true,zn]
        intro k x ai hw
        rw [List.getElem?_drop] at ai
        exact A6 (i + 1 + k) x ai (by omega) hw
       have dN:∀ k x,hs[k]? =some x→i < k→x.wr.contains j=true→a1.getD k false=false:=fun k x ai ln hw=>zO k x ai ln ⟨j,by simpa using hw,.inr aB⟩
       rw [az (fun j=>(a1.setIfInBounds i true).getD j false) (iV hd i x) _ (fun k x ai ln hw=>by rw [fA k (by omega)]; exact dN k x ai ln hw),az (fun j=>a1.getD j false) hd _ dN]
       simp only [wD,jO,cond_true,cond_false]
       rw [uZ (ls':=fun j=>a1.getD j false) (hd':=hd) fun q x ai _=>by
        have hq:q < i:=by have:=(List.getElem?_eq_some_iff.1 ai).1; omega
        rw [List.getElem?_take,if_pos hq] at ai
        rw [Nat.zero_add]
        exact⟨fA q (by omega),fun an=>wC q x ai (by rw [fA q (by omega)] at an; exact an)⟩]
      ·rw [if_neg aB]
       refine uZ fun q x ai hw=> ?_
       rw [Nat.zero_add]
       have hq:q≠i:=fun e=>by subst e; rw [df] at ai; cases ai; exact aB hw
       exact⟨fA q hq,fun an=>wC q x ai (by rw [fA q hq] at an; exact an)⟩
     rw [H5]
     refine nr.less fun t τ an=> ?_
     rcases F7 an with⟨j,y,J,aa,av,aO⟩ | ⟨J,dN⟩
     ·rw [Nat.zero_add] at aa aO
      by_cases eX:j=i
      ·subst eX
       rw [df] at J
       cases J
       exact⟨τ,by rw [av,aO]; simp [nX,look,Nat.beq_refl],fun _ _ _ h=>h⟩
      ·rw [fA j eX] at aa
       rw [wC j y J aa] at aO
       have aS:=zt (ls:=fun i=>a1.getD i false) (hd:=hd) (E:=E) (k:=0) J (by rw [Nat.zero_add]; exact aa) av fun q z hq dc=>vE q j t z y hq J dc av
       rw [Nat.zero_add,← aO] at aS
       refine⟨τ,?_,fun _ _ _ h=>h⟩
       cases oJ:h.slot with
       | none=>exact aS
       | some s=>
         have cN:Nat.beq s t=false:=by
          cases hb:Nat.beq s t
          ·rfl
          ·have:=ec.1 hb; subst this
           exact absurd (vE j i s y h J df av oJ) eX
         simp only [nX,look,cN,cond_false]
         exact aS
     ·have hb:=p4 t τ J
      have aS:=zo (ls:=fun i=>a1.getD i false) (hd:=hd) (E:=E) (k:=0) hb
      refine⟨τ,?_,fun _ _ _ h=>h⟩
      cases oJ:h.slot with
      | none=>simp only [nX]; rw [aS]; exact J
      | some s=>
        have cN:Nat.beq s t=false:=by
         cases ni:Nat.beq s t
         ·rfl
         ·have:=ec.1 ni; subst this
          exact absurd oJ (dN i h df (by rw [Nat.zero_add]; exact wD))
        simp only [nX,look,cN,cond_false]
        rw [aS]; exact J
    ·rcases GA an with⟨j,aB,y,J,aa,av⟩ | J
     ·have aS:=zt (ls:=fun i=>a1.getD i false) (hd:=hd) (E:=E) (k:=0) J (by rw [Nat.zero_add]; exact vY j aB) aa fun q z hq dc=>vE q j t z y hq J dc aa
      rw [Nat.zero_add,← av] at aS
      exact aS
     ·rw [zo (p4 t τ J)]; exact J
    ·rw [vl] at aB ⊢
     rw [← aB]
     conv=>lhs; rw [zP]
     rw [za,zn]
     ·refine uZ fun q x ai hw=> ?_
      rw [Nat.zero_add]
      have hq:q < i:=by have:=(List.getElem?_eq_some_iff.1 ai).1; omega
      rw [List.getElem?_take,if_pos hq] at ai
      exact⟨vY q ((ua q x ai).1 hq ⟨j,by simpa using hw,aD⟩),fun _=>rfl⟩
     ·intro q x ai hw
      rw [A9,Nat.zero_add]
      cases q with
      | zero=>exact jO
      | succ q=>
        simp only [List.getElem?_cons_succ] at ai
        rw [List.getElem?_drop] at ai
        exact zO (i + (q + 1)) x (by rw [← ai]; congr 1; omega) (by omega) ⟨j,by simpa using hw,.inl aD⟩
theorem ak.xN {oL:Nat} {l:List Oper} (n np:Nat) (hm:c.P.follows .mixedOrders=true) (hs:List dk) (ds:List (Option Nat × List Nat × List Nat × List Nat)) (es:List Nat) (hx:jj hs=ds) (sG:E.map (·.1)=es) (hA:Gv.xN l.toArray n ds es=true) (hw:(ds.all fun d=>d.2.2.2.all fun j=>Nat.blt j np)=true)
 (bS:o4 c l.toArray Q hs E L np 0 (l.take n) hs) (bl:∀ hd,ah c l.toArray Q (l.drop n) (hG (fun _=>true) hd E 0 hs) (gR (fun _=>true) hd 0 hs L)):ak c Q (.region oL l.toArray true) E L:=fun a W s=>by
 subst hx sG
 have q2:=NP (L:=L) (hs:=hs) rfl hw
 refine wpIn_region_any hm ?_
 have aF:n≤l.toArray.size:=by
  simp only [Gv.xN,Bool.and_eq_true,decide_eq_true_eq] at hA
  exact hA.1.1.1.1.1.2
 have AB:HeadInv .any l.toArray n (Array.replicate l.toArray.size false):=
  {size:=by simp
   closed:=fun j kG _ an=>by rw [getD_replicate_false] at an; cases an
   tail:=fun t _ bl=>by simp at bl; simp [bl] }
 have h:=RR q2 (ops:=l.toArray) (Q:=Q) hA (by simpa using bS) (by simpa using bl) n (Array.replicate l.toArray.size false) (fun _ _=>none) a W.drew (Nat.le_trans (List.length_filter_le _ _) (by simp)) AB ?_
 ·rw [show n + (l.toArray.size - n)=l.toArray.size by omega] at h
  exact h
 have J:∀ (hs:List dk) (k:Nat),hG (fun i=>(Array.replicate l.toArray.size false).getD i false) (fun _ _=>none) E k hs=E:=by
  intro hs
  induction hs with
  | nil=>intro k; rfl
  | cons h r bD=>
    intro k
    have aa:=bD (k + 1)
    simp only [getD_replicate_false] at aa
    unfold hG
    simp only [getD_replicate_false]
    exact aa
 have aa:∀ (hs:List dk) (k:Nat) (L:List aI),gR (fun i=>(Array.replicate l.toArray.size false).getD i false) (fun _ _=>none) k hs L=L:=by
  intro hs
  induction hs with
  | nil=>intro k L; rfl
  | cons h r bD=>intro k L; rw [gR,bD]; simp only [getD_replicate_false,cond_false]
 rw [J,aa]
 exact s.world (Fr.drew W)
theorem c0.tail {l:List Oper} {f:Nat} {a1:Array Bool} (n:Nat) (aV:(l.drop n).length=f) (hs:Region.seqB .any l.toArray f n a1=true) (h:ah c l.toArray Q (l.drop n) E L):c0 c l.toArray Q f a1 E L:=fun a W s=>by
 subst aV
 exact y2 (l.drop n) n a1 a W (fun j=>by simp) hs (h a W s)
theorem au.ex {α β:Type} {m:au α} {k:α→au β} {R:β→Prop} (h:au.bind m k R):∃ K:α→Prop,m K∧ ∀ r,K r→k r R:=⟨_,h,fun _ h=>h⟩
end
theorem SO {c:cY} {E:List (Nat × I)} {L:List aI} {x:Operand} {β:Type} [ae β] {b:β} (h:a8 c E L x (.of b)):a8 c E L x (.Ew b []):=fun a W s=>
 let⟨ax,a5⟩:=h a W s
 ⟨ax,a5,fun _ h=>by cases h⟩
theorem ah.Ux {c:cY} {ops:Array Oper} {Q:Exit→Act→World→Prop} {E:List (Nat × I)} {L:List aI} {l:List Oper} {key:Option Nat} {n m cap off:Nat} {p:Option Nat} {β:Type} [ae β] {b:β} {os:List (Nat × Value)} (i q:Nat) (aq:L[i]? =some ⟨p,.bZ b os⟩) (hq:os[q]? =some (off,bf key n cap)) (aF:n=m)
 (k:ah c ops Q l E (L.set i ⟨p,.bZ b (os.set q (off,bf key m cap))⟩)):ah c ops Q l E L:=by
 subst aF
 have ML:∀ {α:Type} {xs:List α} {j:Nat} {x:α},xs[j]? =some x→xs.set j x=xs:=fun {α xs j x} h=>List.ext_getElem? fun r=>by
  by_cases e:j=r
  ·subst e; rw [List.getElem?_set_self (List.getElem?_eq_some_iff.1 h).1,h]
  ·rw [List.getElem?_set_ne e]
 rw [ML hq,ML aq] at k
 exact k
theorem bN.law {P:Program} {f:FuncId} {τs:List I} {bM:Type} [e0 bM] {R:Bool × aH bM→Prop} {Lo: {r:Bool × aH bM // R r} × Unit→List aI} (h:bN P f τs ([] ++ aZ ([]:aH bM)) (fun d: {r:Bool × aH bM // R r} × Unit=>I.of d.1.1.1) Lo) (jq:∀ r,R r→r.1=true):cl P f τs (I.of true):=by
 intro A W vs gK a3
 refine(h A W vs (fun k ar=>⟨gK k ar,by simp [aZ,aK]⟩) (by simp [aZ,aK]) (fun k ar=>by simp [aZ,aK] at ar) (fun e he=>by simp [aZ] at he) (by simpa [aZ,aK] using a3)).mono ?_
 intro e W' ⟨v,d,J,aa,_,_,_,av⟩
 refine⟨v,J,by simpa [aZ,aK] using aa,?_⟩
 have aO:=jq d.1.1 d.1.2
 rw [of_bool] at av ⊢
 rw [av,aO]
section
variable {c:cY} {E:List (Nat × I)} {L:List aI} {ops:Array Oper} {Q:Exit→Act→World→Prop}
theorem S2 {n:Nat} (aF:n≤ops.size) (O9:∀ i o,i < n→ops[i]? =some o→ ∀ e∈o.after,Region.binds .any e=true→e.on < i)
 (vC:n=ops.size∨ (Region.sinkB .any ops n=true∧Region.chainB .any ops n=true))
 (pO:Region.seqB .any ops (ops.size - n) n ((List.range n).foldl (fun l i=>l.setIfInBounds i true) (Array.replicate ops.size false))=true)
 (S:Array Bool→Act→World→Prop)
 (pd:∀ (a1:Array Bool) (i:Nat) (o:Oper) (a:Act) (W:World),HeadInv .any ops n a1→i < n→ops[i]? =some o→a1.getD i false=false→ (∀ e∈o.after,Region.binds .any e=true→a1.getD e.on false=true)→S a1 a W→
  wpOpIn c.F 9 c.P ops Q i (fun gn W'=>S (a1.setIfInBounds i true) gn W') a W)
 (nY:∀ (a1:Array Bool) (a:Act) (W:World),(∀ i,i < n→a1.getD i false=true)→S a1 a W→c.pn ops Q (ops.toList.drop n) a W):
 ∀ m (a1:Array Bool) (a:Act) (W:World),((List.range n).filter fun i=> !a1.getD i true).length≤m→HeadInv .any ops n a1→S a1 a W→wpAnyIn c.F 9 c.P .any ops Q (m + (ops.size - n)) a1 a W:=by
 have lB:∀ i,i < n→ ∃ o,ops[i]? =some o:=fun i ao=>⟨ops[i],by simp⟩
 have mI:∀ (a1:Array Bool) (a:Act) (W:World),(∀ i,i < n→a1.getD i true=true)→HeadInv .any ops n a1→S a1 a W→wpAnyIn c.F 9 c.P .any ops Q (ops.size - n) a1 a W:=by
  intro a1 a W pK inv st
  have an:=FL inv aF pK
  have oJ:=pO
  rw [← an] at oJ
  have vD:(ops.toList.drop n).length=ops.size - n:=by simp
  rw [← vD] at oJ ⊢
  exact y2 (ops.toList.drop n) n a1 a W (fun j=>by simp) oJ (nY a1 a W (fun i ao=>by
   have J:=pK i ao
   have aa:i < a1.size:=by rw [inv.size]; omega
   simpa [aa] using J) st)
 have more:∀ f (a1:Array Bool) a W,wpAnyIn c.F 9 c.P .any ops Q f a1 a W→wpAnyIn c.F 9 c.P .any ops Q (f + 1) a1 a W:=by
  intro f
  induction f with
  | zero=>intro a1 a W h; exact⟨fun _=>h.2,fun i ao=>by rw [h.1] at ao; cases ao⟩
  | succ f AU=>intro a1 a W h; exact⟨h.1,fun i ao=>wpOpIn_mono (fun gn jZ cS=>AU _ gn jZ cS) (h.2 i ao)⟩
 intro m
 induction m with
 | zero=>
   intro a1 a W hm inv st
   rw [Nat.zero_add]
   refine mI a1 a W (fun i ao=> ?_) inv st
   cases h:a1.getD i true with
   | true=>rfl
   | false=>
     have:i∈ (List.range n).filter fun i=> !a1.getD i true:=List.mem_filter.2 ⟨List.mem_range.2 ao,by rw [h]; rfl⟩
     rw [List.length_eq_zero_iff.1 (Nat.le_zero.1 hm)] at this
     cases this
 | succ m bD=>
   intro a1 a W hm inv st
   rw [show m + 1 + (ops.size - n)=(m + (ops.size - n)) + 1 by omega]
   by_cases Aa:∀ i,i < n→a1.getD i true=true
   ·have J:=mI a1 a W Aa inv st
    have key:∀ k,wpAnyIn c.F 9 c.P .any ops Q (k + (ops.size - n)) a1 a W:=by
     intro k
     induction k with
     | zero=>rw [Nat.zero_add]; exact J
     | succ k AV=>rw [show k + 1 + (ops.size - n)=(k + (ops.size - n)) + 1 by omega]; exact more _ _ _ _ AV
    exact more _ _ _ _ (key m)
   have hex:∃ i,i < n∧a1.getD i true=false:=by
    false_or_by_contra
    rename_i aa
    exact Aa fun i ao=>by
     cases h:a1.getD i true with
     | true=>rfl
     | false=>exact absurd ⟨i,ao,h⟩ aa
   have zM:∀ t∈Region.ready .any ops a1,t < n:=by
    intro t p1
    rcases Nat.lt_or_ge t n with h | h
    ·exact h
    ·obtain⟨i,ao,ic⟩:=hex
     have Yu:t < ops.size:=by
      obtain⟨_,o,a6,_⟩:=mem_ready.1 p1
      exact(Array.getElem?_eq_some_iff.1 a6).1
     rcases vC with J | J
     ·omega
     ·exact absurd p1 (tail_waits J.1 J.2 (by omega) inv _ i rfl ao ic t h)
   refine⟨fun bA=> ?_,fun i ao=> ?_⟩
   ·exfalso
    have key:∀ d i,i≤d→i < n→a1.getD i true=true:=by
     intro d
     induction d with
     | zero=>
       intro i wo ao
       cases an:a1.getD i true with
       | true=>rfl
       | false=>
         obtain⟨o,a6⟩:=lB i ao
         have:i∈Region.ready .any ops a1:=mem_ready.2 ⟨an,o,a6,fun e he hb=>by have:=O9 i o ao a6 e he hb; omega⟩
         rw [bA] at this; cases this
     | succ d A8=>
       intro i wo ao
       cases an:a1.getD i true with
       | true=>rfl
       | false=>
         obtain⟨o,a6⟩:=lB i ao
         have:i∈Region.ready .any ops a1:=mem_ready.2 ⟨an,o,a6,fun e he hb=>by
          have J:=O9 i o ao a6 e he hb
          have aa:=A8 e.on (by omega) (by omega)
          have av:e.on < a1.size:=by rw [inv.size]; omega
          simpa [av] using aa⟩
         rw [bA] at this; cases this
    obtain⟨i,ao,ic⟩:=hex
    have:=key i i (Nat.le_refl _) ao
    rw [ic] at this; cases this
   ·have dQ:i < n:=zM i ao
    obtain⟨ic,o,a6,nJ⟩:=mem_ready.1 ao
    have pQ:i < a1.size:=by rw [inv.size]; omega
    have pP:((List.range n).filter fun j=> !(a1.setIfInBounds i true).getD j true).length≤m:=by
     have:((List.range n).filter fun j=> !(a1.setIfInBounds i true).getD j true).length < ((List.range n).filter fun j=> !a1.getD j true).length:=by
      refine Dw (fun j=> !a1.getD j true) (fun j=> !(a1.setIfInBounds i true).getD j true) i (by simp only [ic]; rfl) ?_ (fun j aB=> ?_) n dQ
      ·simp [pQ]
      ·by_cases e:i=j
       ·subst e; simp only [ic]; rfl
       ·rw [getD_set_ne true e] at aB; exact aB
     omega
    exact wpOpIn_mono (fun gn W' nr=>bD _ gn W' pP (inv.set ao dQ) nr) (pd a1 i o a W inv dQ a6 (getD_both ic) nJ st)
def hL (ls:Nat→Bool) (E:List (Nat × I)):Nat→List (Option (Nat × I))→List (Nat × I)
 | _,[]=>E
 | k,none :: r=>hL ls E (k + 1) r
 | k,some x :: r=>bif ls k then x :: hL ls E (k + 1) r else hL ls E (k + 1) r
def oX (fs:List (Option (Nat × I))) (E:List (Nat × I)):List Nat→List (Nat × I)
 | []=>E
 | i :: r=>match fs[i]? with
   | some (some x)=>x :: oX fs E r
   | _=>oX fs E r
def je (fs:List (Option (Nat × I))):List Nat:=fs.filterMap fun x=>x.map (·.1)
theorem G6 {ls:Nat→Bool} {E:List (Nat × I)} {t:Nat} {τ:I} :∀ {fs:List (Option (Nat × I))} {k:Nat},look (hL ls E k fs) t=some τ→ (∃ j,ls (k + j)=true∧fs[j]? =some (some (t,τ)))∨look E t=some τ
 | [],k,h=> .inr h
 | none :: r,k,h=>by
   rcases G6 (fs:=r) (k:=k + 1) h with⟨j,J,aa⟩ | J
   ·exact .inl ⟨j + 1,by rw [← J]; congr 1; omega,by simpa using aa⟩
   ·exact .inr J
 | some x :: r,k,h=>by
   have aD:look (hL ls E (k + 1) r) t=some τ→ (∃ j,ls (k + j)=true∧ (some x :: r)[j]? =some (some (t,τ)))∨look E t=some τ:=fun h=>by
    rcases G6 (fs:=r) (k:=k + 1) h with⟨j,J,aa⟩ | J
    ·exact .inl ⟨j + 1,by rw [← J]; congr 1; omega,by simpa using aa⟩
    ·exact .inr J
   unfold hL at h
   cases ar:ls k with
   | false=>rw [ar] at h; exact aD h
   | true=>
     rw [ar] at h
     simp only [cond_true,look] at h
     cases hb:Nat.beq x.1 t with
     | true=>
       rw [hb] at h
       have J:x.2=τ:=by simpa using h
       have aa:=ec.1 hb
       exact .inl ⟨0,ar,by rw [← J,← aa]; rfl⟩
     | false=>rw [hb] at h; exact aD h
theorem xu {ls:Nat→Bool} {E:List (Nat × I)} {t:Nat} :∀ {fs:List (Option (Nat × I))} {k:Nat},t ∉ je fs→look (hL ls E k fs) t=look E t
 | [],k,h=>rfl
 | none :: r,k,h=>xu (fs:=r) (k:=k + 1) h
 | some x :: r,k,h=>by
   have J:t≠x.1∧t ∉ je r:=by simpa [je] using h
   unfold hL
   cases ar:ls k with
   | false=>exact xu J.2
   | true=>
     have hb:Nat.beq x.1 t=false:=by
      cases hb:Nat.beq x.1 t with
      | false=>rfl
      | true=>exact absurd (ec.1 hb).symm J.1
     simp only [cond_true,look,hb,cond_false]
     exact xu J.2
theorem CH {fs:List (Option (Nat × I))} {j:Nat} {x:Nat × I} (h:fs[j]? =some (some x)):x.1∈je fs:=
 List.mem_filterMap.2 ⟨_,List.mem_of_getElem? h,rfl⟩
theorem Dx {ls:Nat→Bool} {E:List (Nat × I)} :∀ {fs:List (Option (Nat × I))} {k j:Nat} {x:Nat × I},(je fs).Nodup→fs[j]? =some (some x)→ls (k + j)=true→look (hL ls E k fs) x.1=some x.2
 | [],k,j,x,_,h,_=>by simp at h
 | none :: r,k,j,x,aF,h,an=>by
   cases j with
   | zero=>simp at h
   | succ j=>exact Dx (fs:=r) (k:=k + 1) (j:=j) aF (by simpa using h) (by rw [← an]; congr 1; omega)
 | some y :: r,k,j,x,aF,h,an=>by
   have oN:y.1 ∉ je r∧ (je r).Nodup:=by simpa [je] using aF
   cases j with
   | zero=>
     have:y=x:=by simpa using h
     subst this
     have an:ls k=true:=an
     unfold hL
     simp only [an,cond_true,look,Nat.beq_refl]
   | succ j=>
     have cS:r[j]? =some (some x):=by simpa using h
     have ao:=Dx (fs:=r) (k:=k + 1) (E:=E) (ls:=ls) oN.2 cS (by rw [← an]; congr 1; omega)
     unfold hL
     cases ar:ls k with
     | false=>exact ao
     | true=>
       have hb:Nat.beq y.1 x.1=false:=by
        cases hb:Nat.beq y.1 x.1 with
        | false=>rfl
        | true=>exact absurd (by rw [ec.1 hb]; exact CH cS) oN.1
       simp only [cond_true,look,hb,cond_false]
       exact ao
theorem MM {fs:List (Option (Nat × I))} {E:List (Nat × I)} {t:Nat} {τ:I} :∀ {us:List Nat},look (oX fs E us) t=some τ→ (∃ j∈us,fs[j]? =some (some (t,τ)))∨look E t=some τ
 | [],h=> .inr h
 | i :: r,h=>by
   have aD:look (oX fs E r) t=some τ→ (∃ j∈i :: r,fs[j]? =some (some (t,τ)))∨look E t=some τ:=fun h=>by
    rcases MM h with⟨j,J,aa⟩ | J
    ·exact .inl ⟨j,List.mem_cons_of_mem _ J,aa⟩
    ·exact .inr J
   unfold oX at h
   split at h
   ·rename_i x ai
    simp only [look] at h
    cases hb:Nat.beq x.1 t with
    | true=>
      rw [hb] at h
      have J:x.2=τ:=by simpa using h
      have aa:=ec.1 hb
      exact .inl ⟨i,by simp,by rw [ai,← J,← aa]⟩
    | false=>rw [hb] at h; exact aD h
   ·exact aD h
theorem WN {fs:List (Option (Nat × I))} {E:List (Nat × I)} {ls:Nat→Bool} {us:List Nat} (aF:(je fs).Nodup) (ay:∀ t∈je fs,look E t=none) (hu:∀ j∈us,ls j=true) {t:Nat} {τ:I} (h:look (oX fs E us) t=some τ):look (hL ls E 0 fs) t=some τ:=by
 rcases MM h with⟨j,J,aa⟩ | J
 ·exact Dx aF aa (by rw [Nat.zero_add]; exact hu j J)
 ·rw [xu fun aa=>by rw [ay t aa] at J; cases J]; exact J
theorem LC:∀ {E:List (Nat × I)} {t:Nat},(E.map (·.1)).contains t=false→look E t=none
 | [],t,_=>rfl
 | (s,σ) :: r,t,h=>by
   have J: ¬ t=s∧ (r.map (·.1)).contains t=false:=by simpa using h
   have hb:Nat.beq s t=false:=by
    cases hb:Nat.beq s t with
    | false=>rfl
    | true=>exact absurd (ec.1 hb).symm J.1
   simp only [look,hb,cond_false]
   exact LC J.2
def MN (ops:Array Oper) (n w m1 yr:Nat) (gB:List (Option Nat)) (pr:List (List Nat)) (E:List Nat):Bool:=
 decide (gB.length=n) && decide (n≤ops.size) && decide (w < n) && decide (m1 :: gB.filterMap id).Nodup && ((m1 :: gB.filterMap id).all fun s=> !E.contains s && Nat.blt s yr) &&
 ((List.range n).all fun i=>((ops[i]?).map fun o=>(o.dst ==if i=w then some m1 else(gB[i]?).getD none) && o.guard.isNone && (decide (i=w) || ((gB[i]?).getD none).isSome) && o.after.all fun e=> !Region.binds .any e || decide (e.on < i)).getD false &&
   ((pr[i]?).getD []).all fun k=>decide (k≠w) && Region.waitsFor .any ops i k) &&
 decide ((gB[w]?).getD none=none) &&
 (decide (n=ops.size) || (Region.sinkB .any ops n && Region.chainB .any ops n)) &&
 Region.seqB .any ops (ops.size - n) n ((List.range n).foldl (fun l i=>l.setIfInBounds i true) (Array.replicate ops.size false))
def rV (c:cY) (E:List (Nat × I)) (L:List aI) {γ:Type} (K:γ→Prop) (gU:γ→List aI) (fs:List (Option (Nat × I))):List Oper→List (Option (Nat × I))→List (List Nat)→Prop
 | o :: os,some x :: r,u :: us=>(bO c (oX fs E u) L o x.2∧ ∀ y,K y→bO c (oX fs E u) (gU y) o x.2)∧rV c E L K gU fs os r us
 | _ :: os,none :: r,_ :: us=>rV c E L K gU fs os r us
 | _,_,_=>True
theorem rV.get {γ:Type} {K:γ→Prop} {gU:γ→List aI} {fs:List (Option (Nat × I))} :∀ {os:List Oper} {rs:List (Option (Nat × I))} {us:List (List Nat)},rV c E L K gU fs os rs us→ ∀ {i:Nat} {o:Oper} {x:Nat × I} {u:List Nat},os[i]? =some o→rs[i]? =some (some x)→us[i]? =some u→
 bO c (oX fs E u) L o x.2∧ ∀ y,K y→bO c (oX fs E u) (gU y) o x.2
 | o :: os,some x :: r,u :: us,h,0,o',EX,EY,J,aa,av=>by
   have az:o=o':=by simpa using J
   have aX:x=EX:=by simpa using aa
   have dS:u=EY:=by simpa using av
   subst az aX dS
   exact h.1
 | o :: os,some x :: r,u :: us,h,i + 1,o',EX,EY,J,aa,av=>rV.get h.2 (i:=i) (by simpa using J) (by simpa using aa) (by simpa using av)
 | o :: os,none :: r,u :: us,h,0,o',EX,EY,J,aa,av=>by simp at aa
 | o :: os,none :: r,u :: us,h,i + 1,o',EX,EY,J,aa,av=>by
   have h:rV c E L K gU fs os r us:=h
   exact rV.get h (i:=i) (by simpa using J) (by simpa using aa) (by simpa using av)
 | [],_,_,_,i,_,_,_,J,_,_=>by simp at J
 | _ :: _,[],_,_,i,_,_,_,_,aa,_=>by simp at aa
 | _ :: _,_ :: _,[],_,i,_,_,_,_,_,av=>by simp at av
theorem Uv {oL:Nat} {l:List Oper} (hm:c.P.follows .mixedOrders=true) (n w m1 yr:Nat) {γ:Type} {K:γ→Prop} (fs:List (Option (Nat × I))) (gB:List (Option Nat)) (pr:List (List Nat)) (es:List Nat) (ED:γ→I) (gU:γ→List aI)
 {JE:Oper} {JF:List Nat} (ZH:l[w]? =some JE) (ZI:pr[w]? =some JF) (ZJ:c.n=yr) (ZK:(fs.map fun x=>x.map (·.1))=gB) (aaX:pr.length=n) (sG:E.map (·.1)=es) (hA:MN l.toArray n w m1 yr gB pr es=true)
 (bS:rV c E L K gU fs (l.take n) fs pr)
 (hw:∀ (sM:Exit→Act→World→Prop) (E':List (Nat × I)),(∀ {t τ},look (oX fs E JF) t=some τ→look E' t=some τ)→ (∀ y,K y→aj c sM .normal ((m1,ED y) :: E') (gU y))→ah c l.toArray sM [JE] E' L)
 (bl:∀ y,K y→ah c l.toArray Q (l.drop n) ((m1,ED y) :: hL (fun _=>true) E 0 fs) (gU y)):ak c Q (.region oL l.toArray true) E L:=fun a W s=>by
 subst ZJ ZK sG
 refine wpIn_region_any hm ?_
 simp only [MN,Bool.and_eq_true,decide_eq_true_eq,Bool.or_eq_true] at hA
 obtain⟨⟨⟨⟨⟨⟨⟨⟨hlen,aF⟩,ZL⟩,gk⟩,Pa⟩,kx⟩,Bo⟩,vC⟩,pO⟩:=hA
 have hlen:fs.length=n:=by simpa using hlen
 have ZM:(fs.map fun x=>x.map (·.1)).filterMap id=je fs:=by
  unfold je; rw [List.filterMap_map]; rfl
 rw [ZM] at gk Pa
 obtain⟨Pb,gk⟩:=List.nodup_cons.1 gk
 have ZN:∀ t,(E.map (·.1)).contains t=false→look E t=none:=fun t h=>LC h
 have ay:∀ t∈m1 :: je fs,look E t=none∧Nat.blt t c.n=true:=fun t bl=>by
  have:=List.all_eq_true.1 Pa t bl
  simp only [Bool.and_eq_true,Bool.not_eq_true'] at this
  exact⟨ZN t this.1,this.2⟩
 have IW:∀ t∈je fs,look E t=none:=fun t bl=>(ay t (List.mem_cons_of_mem _ bl)).1
 have ss:∀ i o,i < n→l.toArray[i]? =some o→ (o.dst=if i=w then some m1 else((fs[i]?).getD none).map (·.1))∧o.guard=none∧ (i=w∨ ∃ x,fs[i]? =some (some x))∧ (∀ e∈o.after,Region.binds .any e=true→e.on < i)∧ ∀ k∈ (pr[i]?).getD [],k≠w∧Region.waitsFor .any l.toArray i k=true:=fun i o ao a6=>by
  have J:=List.all_eq_true.1 kx i (List.mem_range.2 ao)
  simp only [Bool.and_eq_true] at J
  obtain⟨aa,av⟩:=J
  simp only [a6,Option.map_some,Option.getD_some,Bool.and_eq_true,beq_iff_eq] at aa
  obtain⟨⟨⟨aO,aS⟩,aY⟩,b7⟩:=aa
  have ZO:((fs.map fun x=>x.map (·.1))[i]?).getD none=((fs[i]?).getD none).map (·.1):=by
   rw [List.getElem?_map]
   cases fs[i]? with
   | none=>rfl
   | some x=>rfl
  rw [ZO] at aO aY
  refine⟨aO,by simpa using aS,?_,fun e he hb=> ?_,fun k ar=> ?_⟩
  ·simp only [Bool.or_eq_true,decide_eq_true_eq] at aY
   rcases aY with aY | aY
   ·exact .inl aY
   ·right
    cases ai:fs[i]? with
    | none=>rw [ai] at aY; cases aY
    | some x=>
      cases x with
      | none=>rw [ai] at aY; cases aY
      | some x=>exact⟨x,rfl⟩
  ·have:=Array.all_eq_true_iff_forall_mem.1 b7 e he
   simp [hb] at this
   exact this
  ·have:=List.all_eq_true.1 av k ar
   simpa using this
 have Yv:fs[w]? =some none:=by
  have J:((fs.map fun x=>x.map (·.1))[w]?).getD none=none:=Bo
  rw [List.getElem?_map] at J
  cases ai:fs[w]? with
  | none=>have:=List.getElem?_eq_none_iff.1 ai; omega
  | some x=>
    cases x with
    | none=>rfl
    | some x=>rw [ai] at J; cases J
 let S:Array Bool→Act→World→Prop:=fun a1 a W=>(a1.getD w false=false→bC c (hL (fun i=>a1.getD i false) E 0 fs) L a W)∧ (a1.getD w false=true→ ∃ y,K y∧bC c ((m1,ED y) :: hL (fun i=>a1.getD i false) E 0 fs) (gU y) a W)
 have h:=S2 (c:=c) (ops:=l.toArray) (Q:=Q) aF (fun i o ao a6=>(ss i o ao a6).2.2.2.1) vC pO S ?_ ?_ n (Array.replicate l.toArray.size false) a W.drew (Nat.le_trans (List.length_filter_le _ _) (by simp)) ?_ ?_
 ·rw [show n + (l.toArray.size - n)=l.toArray.size by omega] at h
  exact h
 ·
  intro a1 i o a W inv ao a6 ic nJ wW
  obtain⟨bT,bU,lr,ES,qg⟩:=ss i o ao a6
  have pQ:i < a1.size:=by rw [inv.size]; omega
  have wD:(a1.setIfInBounds i true).getD i false=true:=by simp [pQ]
  have fA:∀ j,j≠i→ (a1.setIfInBounds i true).getD j false=a1.getD j false:=fun j aB=>getD_set_ne false (fun e=>aB e.symm)
  have IX:i < pr.length:=by omega
  have vY:∀ k∈pr[i],a1.getD k false=true:=fun k ar=>by
   have:=qg k (by rw [List.getElem?_eq_getElem IX]; exact ar)
   obtain⟨kG,hI,e,he,hb,lp⟩:=Region.waitsFor_spec this.2
   rw [a6] at hI; cases hI
   rw [← lp]; exact nJ e he hb
  have Pc:l[i]? =some o:=by simpa using a6
  have H8:∀ {t τ},look (oX fs E pr[i]) t=some τ→look (hL (fun i=>a1.getD i false) E 0 fs) t=some τ:=fun {t τ} h=>WN gk IW vY h
  by_cases EE:i=w
  ·subst EE
   rw [if_pos rfl] at bT
   have az:JE=o:=Option.some.inj (ZH.symm.trans Pc)
   have aX:JF=pr[i]:=Option.some.inj (ZI.symm.trans (List.getElem?_eq_getElem IX))
   subst az aX
   have Bb:=hw (sQ (fun gn W'=>S (a1.setIfInBounds i true) gn W') Q) (hL (fun i=>a1.getD i false) E 0 fs) H8 fun y a4 gn W' st=> ?_
   ·exact y6 a6 (Bb a W (wW.1 ic))
   ·refine⟨fun h=>(by rw [wD] at h; cases h),fun _=>⟨y,a4,?_⟩⟩
    have:hL (fun j=>(a1.setIfInBounds i true).getD j false) E 0 fs=hL (fun j=>a1.getD j false) E 0 fs:=by
     have key:∀ (gs:List (Option (Nat × I))) (k:Nat),(∀ j,gs[j]? ≠none→gs[j]? =fs[k + j]?)→hL (fun j=>(a1.setIfInBounds i true).getD j false) E k gs=hL (fun j=>a1.getD j false) E k gs:=by
      intro gs
      induction gs with
      | nil=>intro k _; rfl
      | cons x r bD=>
        intro k ar
        have aD:=bD (k + 1) fun j aB=>by
         have:=ar (j + 1) (by simpa using aB)
         rw [List.getElem?_cons_succ] at this
         rw [this]; congr 1; omega
        cases x with
        | none=>exact aD
        | some x=>
          have bA:=ar 0 (by simp)
          have jC:k≠i:=fun e=>by
           rw [e,Nat.add_zero,Yv] at bA
           simp at bA
          unfold hL
          simp only [fA k jC,aD]
     exact key fs 0 fun j _=>by rw [Nat.zero_add]
    rw [this]; exact st
  ·obtain⟨x,ai⟩:=lr.resolve_left EE
   rw [if_neg EE,ai] at bT
   have sv:(a1.setIfInBounds i true).getD w false=a1.getD w false:=fA w fun e=>EE e.symm
   have bg:=rV.get bS (i:=i) (by rw [List.getElem?_take,if_pos ao]; exact Pc) ai (List.getElem?_eq_getElem IX)
   have IY:=CH ai
   have aaG:∀ (jo:List (Nat × I)),(∀ t τ,look ((x.1,x.2) :: jo) t=some τ→True):=fun _ _ _ _=>trivial
   have NV:∀ t τ,look (hL (fun j=>(a1.setIfInBounds i true).getD j false) E 0 fs) t=some τ→look ((x.1,x.2) :: hL (fun j=>a1.getD j false) E 0 fs) t=some τ:=fun t τ an=>by
    rcases G6 an with⟨j,JG,EZ⟩ | J
    ·rw [Nat.zero_add] at JG
     by_cases eX:j=i
     ·subst eX
      rw [ai] at EZ; cases EZ
      simp only [look,Nat.beq_refl,cond_true]
     ·rw [fA j eX] at JG
      have aa:=Dx (E:=E) (ls:=fun j=>a1.getD j false) (k:=0) gk EZ (by rw [Nat.zero_add]; exact JG)
      cases hb:Nat.beq x.1 t with
      | false=>simp only [look,hb,cond_false]; exact aa
      | true=>
        exfalso
        have az:=ec.1 hb
        have uniq:∀ (gs:List (Option (Nat × I))) (p q:Nat) (u v:Nat × I),(je gs).Nodup→gs[p]? =some (some u)→gs[q]? =some (some v)→u.1=v.1→p=q:=by
         intro gs
         induction gs with
         | nil=>intro p q u v _ hp; simp at hp
         | cons z r bD=>
           intro p q u v aF hp hq e
           have aD:(je r).Nodup:=by
            cases z with
            | none=>exact aF
            | some z=>exact(show z.1 ∉ je r∧ (je r).Nodup by simpa [je] using aF).2
           cases p with
           | zero=>
             have dc:z=some u:=by simpa using hp
             subst dc
             cases q with
             | zero=>rfl
             | succ q=>exact absurd (by rw [e]; exact CH (by simpa using hq)) (show u.1 ∉ je r∧ (je r).Nodup by simpa [je] using aF).1
           | succ p=>
             cases q with
             | zero=>
               have dc:z=some v:=by simpa using hq
               subst dc
               exact absurd (by rw [← e]; exact CH (by simpa using hp)) (show v.1 ∉ je r∧ (je r).Nodup by simpa [je] using aF).1
             | succ q=>rw [bD p q u v aD (by simpa using hp) (by simpa using hq) e]
        exact eX (uniq fs j i _ _ gk EZ ai az.symm)
    ·have hb:Nat.beq x.1 t=false:=by
      cases hb:Nat.beq x.1 t with
      | false=>rfl
      | true=>
        have az:=ec.1 hb
        rw [← az,IW x.1 IY] at J; cases J
     simp only [look,hb,cond_false]
     rw [xu fun aa=>by rw [IW t aa] at J; cases J]; exact J
   have p4:=(ay x.1 (List.mem_cons_of_mem _ IY)).2
   refine y6 a6 ?_
   cases EF:a1.getD w false with
   | false=>
     refine ah.v (τ:=x.2) (d:=x.1) (fun a W st=>bg.1 a W (st.less fun t τ h=>⟨τ,H8 h,fun _ _ _ h=>h⟩)) bU bT p4 (ah.nil fun gn W' st=>⟨fun _=>st.less fun t τ h=>⟨τ,NV t τ h,fun _ _ _ h=>h⟩,fun h=> ?_⟩) a W (wW.1 EF)
     rw [sv,EF] at h; cases h
   | true=>
     obtain⟨y,a4,IJ⟩:=wW.2 EF
     have ZP:∀ {t τ},look (oX fs E pr[i]) t=some τ→look ((m1,ED y) :: hL (fun i=>a1.getD i false) E 0 fs) t=some τ:=fun {t τ} h=>by
      have J:=H8 h
      cases hb:Nat.beq m1 t with
      | false=>simp only [look,hb,cond_false]; exact J
      | true=>
        exfalso
        have az:=ec.1 hb
        subst az
        rw [xu Pb,(ay m1 (by simp)).1] at J; cases J
     refine ah.v (τ:=x.2) (d:=x.1) (fun a W st=>bg.2 y a4 a W (st.less fun t τ h=>⟨τ,ZP h,fun _ _ _ h=>h⟩)) bU bT p4 (ah.nil fun gn W' st=>⟨fun h=> ?_,fun _=>⟨y,a4,st.less fun t τ h=>⟨τ,?_,fun _ _ _ h=>h⟩⟩⟩) a W IJ
     ·rw [sv,EF] at h; cases h
     ·cases hb:Nat.beq m1 t with
      | true=>
        have az:=ec.1 hb
        subst az
        have ni:Nat.beq x.1 m1=false:=by
         cases ni:Nat.beq x.1 m1 with
         | false=>rfl
         | true=>exact absurd (by rw [← ec.1 ni]; exact IY) Pb
        simp only [look,hb,cond_true] at h ⊢
        simp only [ni,cond_false]; exact h
      | false=>
        simp only [look,hb,cond_false] at h ⊢
        have:=NV t τ h
        simp only [look] at this
        exact this
 ·intro a1 a W pK wW
  obtain⟨y,a4,st⟩:=wW.2 (pK w ZL)
  refine bl y a4 a W (st.less fun t τ h=>⟨τ,?_,fun _ _ _ h=>h⟩)
  have key:∀ (gs:List (Option (Nat × I))) (k:Nat),k + gs.length≤n→hL (fun j=>a1.getD j false) E k gs=hL (fun _=>true) E k gs:=by
   intro gs
   induction gs with
   | nil=>intro k _; rfl
   | cons x r bD=>
     intro k ar
     have aD:=bD (k + 1) (by simp only [List.length_cons] at ar; omega)
     cases x with
     | none=>exact aD
     | some x=>
       unfold hL
       simp only [pK k (by simp only [List.length_cons] at ar; omega),aD]
  rw [key fs 0 (by omega)]; exact h
 ·exact
  {size:=by simp
   closed:=fun j kG _ an=>by rw [getD_replicate_false] at an; cases an
   tail:=fun t _ bl=>by simp at bl; simp [bl] }
 ·refine⟨fun _=> ?_,fun h=>by rw [getD_replicate_false] at h; cases h⟩
  have key:∀ (gs:List (Option (Nat × I))) (k:Nat),hL (fun j=>(Array.replicate l.toArray.size false).getD j false) E k gs=E:=by
   intro gs
   induction gs with
   | nil=>intro k; rfl
   | cons x r bD=>
     intro k
     have aD:=bD (k + 1)
     cases x with
     | none=>exact aD
     | some x=>
       unfold hL
       simp only [getD_replicate_false,cond_false] at aD ⊢
       exact aD
  show bC c (hL (fun j=>(Array.replicate l.toArray.size false).getD j false) E 0 fs) L a W.drew
  rw [key]
  exact s.world (Fr.drew W)
end
def aan (n:Nat) (EG:List Nat):Option Nat→Prop
 | none=> ∀ j,j < n→j∈EG
 | some j=>j < n∧j ∉ EG
def au.next (n:Nat) (EG:List Nat):au (Option Nat):=fun R=> ∀ j,aan n EG j→R j
structure aa9 (es:Array MapEntry) (clock n:Nat):Prop where
 size:es.size=n
 born:∀ x∈es.toList,x.born < clock
 nodup:(es.toList.map MapEntry.born).Nodup
def dF.and (cp:dF) (o:Obj):dF where
 holds A W x:=cp.holds A W x∧x=o
 mG:=cp.mG
 mono e h:=⟨cp.mono e h.1,h.2⟩
section
variable {c:cY} {E:List (Nat × I)} {L:List aI} {ops:Array Oper} {Q:Exit→Act→World→Prop}
variable {d:Option Tmp} {ty:TypeId} {pos:String} {af:Array Edge} {g:Option (Nat × Bool)} {x y z:Operand} {t t2:TypeId}
variable {bM:Type} [e0 bM] {hp:aH bM} {loc:List aI}
theorem bC.swap {L':List aI} {a:Act} {W:World} (h:bC c E L a W) (ar:aK L'=aK L) (a6:∀ e∈L',e.ok (aK L ++ c.bL) W):bC c E L' a W:=
 {defers:=h.defers
  size:=h.size
  env:=by rw [ar]; exact h.env
  dw:=h.dw
  own:=by rw [ar]; exact a6
  nodup:=by rw [ar]; exact h.nodup
  lt:=by rw [ar]; exact h.lt
  fK:=by rw [ar]; exact h.fK
  ew:=by rw [ar]; exact h.ew }
theorem kg.get {α β:Type} [ae α] [ae β] {A W} :∀ {es:List MapEntry} {dx:List (α × β)},kg A W es dx→ ∀ {j:Nat} {x:α × β},dx[j]? =some x→ ∃ e,es[j]? =some e∧ (I.of x.1).holds A W e.key∧ (I.of x.2).holds A W e.val
 | _,_,.nil,j,x,h=>by simp at h
 | _,_,.cons J aa r,0,x,h=>by
   have h:some _=some x:=h
   cases h
   exact⟨_,rfl,J,aa⟩
 | _,_,.cons J aa r,j + 1,x,h=>by
   obtain⟨e,ax,a5⟩:=r.get (j:=j) (by simpa using h)
   exact⟨e,by simpa using ax,a5⟩
end
end Gv
