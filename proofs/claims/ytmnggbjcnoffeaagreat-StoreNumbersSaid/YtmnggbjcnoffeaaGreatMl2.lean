/-
  The library of the decompiler, as far as it is needed here. Conditions: none.
-/
import Derived.Test.YtmnggbjcnoffeaaGreatMl1
namespace Gv
open Go
set_option linter.unusedVariables false
set_option linter.unusedSimpArgs false
def Cz (P:Program) (u:Value) {α σ ε γ:Type} (τ:α→I) (Ls:σ→γ→List aF) (Lx:ε→γ→List aF) (step:α→σ→ao (σ ⊕ ε)) (XN:List Nat→World→Prop):Prop:=
 ∃ l,u= .func (.yield l) #[] #[]∧ ∀ x s R,step x s R→ ∀ g A W v,XN (aJ (Ls s g) ++ A) W→wo A W (Ls s g)→ (τ x).holds (aJ (Ls s g) ++ A) W v→
   YieldAt Fence.wide 8 P l #[v] W (fun e W'=>(∃ bW,R (.inl bW)∧jL (aJ (Ls s g)) A W (fun _:γ=>I.of true) (fun g=>Ls bW g) e W')∨ ∃ q,R (.inr q)∧jL (aJ (Ls s g)) A W (fun _:γ=>I.of false) (fun g=>Lx q g) e W')
structure yv (P:Program) (f:FuncId) (τs:List I) {bN:Type} [eI bN] {α:Type} (τ:α→I) (run:∀ {σ ε:Type},(σ→aI bN)→ (α→σ→ao (σ ⊕ ε))→σ→ao (σ ⊕ ε)):Prop where
 go:∀ {σ ε γ:Type} (Ls:σ→γ→List aF) (Lx:ε→γ→List aF) (hq:σ→aI bN) (jn:σ→γ→List aF),(∀ s g,Ls s g=jn s g ++ aY (hq s))→ ∀ (step:α→σ→ao (σ ⊕ ε)) (b0:σ) (g0:γ) (R:σ ⊕ ε→Prop),run hq step b0 R→
  ∀ (A:List Nat) (W:World) (u:Value) (vs:List Value),wo A W (Ls b0 g0)→fM (aJ (Ls b0 g0) ++ A) W τs vs→
    Cz P u τ Ls Lx step (fun cN W'=>Ext (aJ (Ls b0 g0) ++ A) W cN W')→
    Calls P f (u :: vs).toArray W (jL (aJ (Ls b0 g0)) A W (δ:= {r // R r} × γ) (fun _=> .eA []) (fun d=>Lr Ls Lx d.1.1 d.2))
theorem yv.of {P:Program} {f:FuncId} {fn:Func} {code:Code} {n:Nat} {τs:List I} {bN:Type} [eI bN] {α:Type} {τ:α→I} {run:∀ {σ ε:Type},(σ→aI bN)→ (α→σ→ao (σ ⊕ ε))→σ→ao (σ ⊕ ε)}
 (a0:P.funcs[f]? =some fn) (hb:fn.body=some code) (aL:fn.ntmps=n) (hlen:Nat.ble (τs.length + 1) n=true)
 (h:∀ {σ ε γ:Type} (Ls:σ→γ→List aF) (Lx:ε→γ→List aF) (hq:σ→aI bN) (jn:σ→γ→List aF),(∀ s g,Ls s g=jn s g ++ aY (hq s))→ ∀ (step:α→σ→ao (σ ⊕ ε)) (b0:σ) (g0:γ) (R:σ ⊕ ε→Prop),run hq step b0 R→
  ∀ W A u,Cz P u τ Ls Lx step (fun cN W'=>Ext (aJ (Ls b0 g0) ++ A) W cN W')→
    ai ⟨P,n,W,aJ (Ls b0 g0),A,none,[]⟩ (bodyPost P fn (jL (aJ (Ls b0 g0)) A W (δ:= {r // R r} × γ) (fun _=> .eA []) (fun d=>Lr Ls Lx d.1.1 d.2))) code (params 0 (.eq u :: τs)) (Ls b0 g0)):yv P f τs τ run:=by
 refine⟨?_⟩
 intro σ ε γ Ls Lx hq jn ma step b0 g0 R aQ A W u vs ar a3 a7
 refine calls_of_wp a0 hb (wpIn_wide.1 (h Ls Lx hq jn ma step b0 g0 R aQ W A u a7 _ _ ?_))
 have oe:fM (aJ (Ls b0 g0) ++ A) W (.eq u :: τs) (u :: vs):= .cons rfl a3
 have ka:=oe.length
 have hle:τs.length + 1≤n:=Nat.le_of_ble_eq_true hlen
 exact
 {defers:=rfl
  size:=by simp at ka; simp [aL,ka]; omega
  env:=fun t τ ew=>by
   obtain⟨_,v,ad,ax⟩:=s5 oe 0 t τ ew
   refine⟨v,?_,ax⟩
   have b5:t < (u :: vs).length:=(List.getElem?_eq_some_iff.1 ad).1
   rw [Array.getElem?_append_left (by simpa using b5)]
   simpa using ad
  dm:= .refl _ _
  own:=ar.ok
  nodup:=ar.nodup
  lt:=ar.lt
  fA:=fun k au _=>au
  eC:=ar.eC }
section
variable {c:cT} {E:List (Nat × I)} {L:List aF} {ops:Array Oper} {Q:Exit→Act→World→Prop}
variable {d:Option Tmp} {ty:TypeId} {pos:String} {af:Array Edge} {g:Option (Nat × Bool)} {x y:Operand} {t t2:TypeId}
theorem Le {bN:Type} [eI bN] {σ γ:Type} {Ls jn:σ→γ→List aF} {hq:σ→aI bN} {s:σ} {g:γ} {p:Nat} {k:bN} {e:aF} (n:Nat) (an:L.drop n=Ls s g) (ma:∀ s g,Ls s g=jn s g ++ aY (hq s)) (h:pat (hq s) p=some k) (au:eI.g5 p k= [e]):e∈L:=by
 obtain⟨R,J,_⟩:=s9 h
 rw [au] at J
 have:e∈L.drop n:=by rw [an,ma]; exact List.mem_append.2 (.inr (J.mem_iff.2 (by simp)))
 exact List.mem_of_mem_drop this
theorem ag.Sl {rest:List Oper} {a9 rr:Nat} {ats:Array TypeId} {u:Value} {α σ ε γ:Type} {τ:α→I} {Ls:σ→γ→List aF} {Lx:ε→γ→List aF} {step:α→σ→ao (σ ⊕ ε)} {Lin:List aF} {x:Operand} {v:α} {s:σ} {gg:γ} {R:σ ⊕ ε→Prop}
 (aj:c.rd=none) (a7:Cz c.P u τ Ls Lx step (fun cN W'=>Ext (c.X ++ c.bM) c.iC cN W')) (a0:look E rr=some (.eq u)) (ak:a4 c E (Lin ++ Ls s gg) x (τ v)) (aQ:step v s R) (aL:Nat.blt a9 c.n=true)
 (bh:∀ bW,R (.inl bW)→ ∀ eH,ag c ops Q rest ((a9,.of true) :: E) (Lin ++ Ls bW eH)) (cC:∀ q,R (.inr q)→ ∀ eH,ag c ops Q rest ((a9,.of false) :: E) (Lin ++ Lx q eH)):
 ag c ops Q (⟨some a9,.call ⟨.value (.tmp rr),#[x],ats⟩,ty,pos,af,none⟩ :: rest) E (Lin ++ Ls s gg):=fun a W st=>by
 obtain⟨l,rfl,a7⟩:=a7
 obtain⟨HK,J,ad⟩:=st.env rr _ a0
 have hu:HK= .func (.yield l) #[] #[]:=ad
 subst hu
 have mg:bs c E (Ls s gg ++ Lin) a W:=st.perm List.perm_append_comm
 have a3:=ak a W st
 have oe:(τ v).holds (aJ (Ls s gg) ++ (aJ Lin ++ c.bM)) W (a.eval x):=(τ v).mono (.drop fun k hm=>by
  rw [eF]
  simp only [List.mem_append] at hm ⊢
  rcases hm with hm | hm | hm
  ·exact .inl (.inr hm)
  ·exact .inl (.inl hm)
  ·exact .inr hm) a3
 obtain⟨fn,tmps,assign,body,jg,iE⟩:=a7 v s R aQ gg (aJ Lin ++ c.bM) W (a.eval x) (mg.LQ.trans yk) mg.Cy oe
 have FR:(execOp a.eval ⟨some a9,.call ⟨.value (.tmp rr),#[x],ats⟩,ty,pos,af,none⟩).run c.P W= .ok (.round l fn tmps assign body) W:=by
  rw [← jg]
  simp [execOp,resolve,Deferred.ofValue,Act.eval,J,invoke,Sem.run_bind,Sem.run_pure,Result.andThen]
 refine wpListIn_plain rfl fun K uT=> ?_
 refine⟨fun _ _=>trivial,?_⟩
 rw [Oper.semAt_eq _ _ _ (fun _ h=>by cases h),FR,Oper.uponIn_round]
 refine⟨fun h=>by simp at h,?_⟩
 have GW:RoundIn c.F (9 - 1) c.P l fn tmps assign body W _:=iE
 refine GW.mono fun e W' he=> ?_
 rcases he with⟨bW,hs,w,eH,rfl,o9,ax,aR,aW,bc⟩ | ⟨q,hs,w,eH,rfl,o9,ax,aR,aW,bc⟩
 ·obtain rfl:=of_bool.1 bc
  refine uT _ _ (bh bW hs eH _ _ ?_)
  exact(((mg.after o9 ax aR aW).perm List.perm_append_comm).put (by simpa using aL) (of_bool.2 rfl))
 ·obtain rfl:=of_bool.1 bc
  refine uT _ _ (cC q hs eH _ _ ?_)
  exact(((mg.after o9 ax aR aW).perm List.perm_append_comm).put (by simpa using aL) (of_bool.2 rfl))
def Ng {σ ε γ:Type} (c:cT) (eR:ε→Code) (l D:Nat) (rec:Loop) (Ls:σ→γ→List aF) (Lx:ε→γ→List aF) (R:σ ⊕ ε→Prop):Exit→Act→World→Prop:=fun x a W=>
 (∃ bW,R (.inl bW)∧x= .normal∧ ∃ g,bs c [] (⟨some l,.is (.loop rec)⟩ :: ⟨some D,.dk⟩ :: Ls bW g) a W)∨
 ∃ q,R (.inr q)∧tw (eR q)=true∧x=yC (eR q)∧ ∃ g,bs c [] (⟨some l,.is (.loop rec)⟩ :: ⟨some D,.dk⟩ :: Lx q g) a W
theorem ah.Vn {σ ε γ:Type} {eR:ε→Code} {l D:Nat} {rec:Loop} {Ls:σ→γ→List aF} {Lx:ε→γ→List aF} {R:σ ⊕ ε→Prop} {bW:σ} (iE:R (.inl bW)) (g:γ) (n:Nat) (an:L.drop n=⟨some l,.is (.loop rec)⟩ :: ⟨some D,.dk⟩ :: Ls bW g):
 ah c (Ng c eR l D rec Ls Lx R) .normal E L:=fun a W s=> .inl ⟨bW,iE,rfl,g,by rw [← an]; exact(s.n1 n).less (fun t τ h=>by simp [look] at h)⟩
theorem Qp {gt p:Nat} {assign body:Code} {f:FuncId} {nn:List I} {bN:Type} [eI bN] {α σ ε γ ρ:Type} {τ:α→I} {run:∀ {σ ε:Type},(σ→aI bN)→ (α→σ→ao (σ ⊕ ε))→σ→ao (σ ⊕ ε)}
 {Ls:σ→γ→List aF} {Lx:ε→γ→List aF} {hq:σ→aI bN} {step:α→σ→ao (σ ⊕ ε)} {b0:σ} {g0:γ} {k:σ ⊕ ε→ao ρ} {mj:ρ→Prop} (jn:σ→γ→List aF) (eR:ε→Code)
 (aj:c.rd=none) (ea:bR c.P f) (bx:look E gt=some (.gi f nn)) (kY:yv c.P f nn τ run) (aQ:ao.bind (run hq step b0) k mj) (ma:∀ s g,Ls s g=jn s g ++ aY (hq s)) (an:L=Ls b0 g0) (hp:Nat.blt p c.n=true)
 (pF:∀ x s R,step x s R→ ∀ g (mR:World) (mW mS:List Nat) (l D:Nat) (rec:Loop),rec.state= .ready→
  ai ⟨c.P,c.n,mR,mW,mS,some l,[]⟩ (Exit.then (Dj ⟨c.P,c.n,mR,mW,mS,some l,[]⟩ l body (Ng ⟨c.P,c.n,mR,mW,mS,some l,[]⟩ eR l D { rec with state:= .busy } Ls Lx R)) (fun _ _ _=>False)) assign ((p,τ x) :: E) (⟨some l,.is (.loop rec)⟩ :: ⟨some D,.dk⟩ :: Ls s g))
 (mH:∀ bW,k (.inl bW) mj→ ∀ g D,ah { c with ds:=D :: c.ds } Q .normal E (⟨some D,.dk⟩ :: Ls bW g))
 (yQ:∀ q,k (.inr q) mj→ ∀ g D,ai { c with ds:=D :: c.ds } Q (eR q) E (⟨some D,.dk⟩ :: Lx q g)):
 ai c Q (.rangeFunc (.tmp gt) #[p] assign body) E L:=fun a W st=>by
 subst an
 refine wpIn_rangeFunc fun fn GY=> ?_
 show ∃ l mark VR d Uo wW args VS,(Instr.enterLoop fn a.tmps #[p] assign body c.rd).run c.P W=_∧_
 rw [aj]
 obtain⟨rec,jO⟩:∃ rec:Loop,rec= { state:= .ready,pending:=none,fn,tmps:=a.tmps,params:= #[p],assign,body,defers:=W.heap.size } :=⟨_,rfl⟩
 obtain⟨v,zV,hf,uG,WK⟩:=st.env gt _ bx
 obtain⟨gD,zW⟩:∃ gD,(W.alloc (.deferred (some []))).alloc (.loop rec)=gD:=⟨_,rfl⟩
 have s1:=(st.alloc (o:= .deferred (some [])) (cp:= .dk) rfl).alloc (o:= .loop rec) (cp:= .is (.loop rec)) rfl
 rw [zW,World.size_alloc] at s1
 obtain⟨D,kd⟩:∃ D,D=W.heap.size:=⟨_,rfl⟩
 obtain⟨l,ar⟩:∃ l,l=W.heap.size + 1:=⟨_,rfl⟩
 have zX:=run_enterLoop_outer (P:=c.P) (w:=W) fn a.tmps #[p] assign body
 rw [← jO,zW,← ar,← kd] at zX
 rw [← ar,← kd] at s1
 obtain⟨kA,pa⟩:∃ kA:σ→γ→List aF,kA=fun s g=>⟨some l,.is (.loop rec)⟩ :: ⟨some D,.dk⟩ :: Ls s g:=⟨_,rfl⟩
 obtain⟨mV,zY⟩:∃ mV:ε→γ→List aF,mV=fun q g=>⟨some l,.is (.loop { rec with state:= .done,pending:=some (eR q) })⟩ :: ⟨some D,.dk⟩ :: Lx q g:=⟨_,rfl⟩
 have s2:bs c E (kA b0 g0) a gD:=by rw [pa]; exact s1
 have GZ:fM (aJ (kA b0 g0) ++ c.bM) gD nn hf:=by
  have J:(I.gi f nn).holds (aJ (kA b0 g0) ++ c.bM) gD v:=by
   obtain⟨Dg,J,ad⟩:=s2.env gt _ bx
   rw [zV] at J
   cases J
   exact ad
  obtain⟨G0,aE,bd⟩:=J
  rw [uG] at aE
  have:G0=hf:=by injection aE with _ _ aE; injection aE with aE; exact aE.symm
  rw [← this]; exact bd
 have zZ:bs c E ((kA b0 g0) ++ []) a gD:=by rw [List.append_nil]; exact s2
 have yR:=zZ.Cy
 simp only [aJ,List.nil_append] at yR
 have Gk:Cz c.P (.func (.yield l) #[] #[]) τ kA mV step (fun cN W'=>Ext (aJ (kA b0 g0) ++ c.bM) gD cN W'):=by
  refine⟨l,rfl,fun x s Dk hs g A mZ v2 gA hle a3=> ?_⟩
  have zk:=hle
  rw [pa] at zk
  obtain⟨o,cU,eW⟩:=zk.ok ⟨some l,.is (.loop rec)⟩ (by simp)
  have oY:o= .loop rec:=eW
  subst oY
  have a7:=run_yield (P:=c.P) (args:= #[v2]) cU (by rw [jO]; rfl)
  refine⟨_,_,_,_,a7,roundIn_of_wpIn trivial ?_⟩
  have aE:rec.assign=assign:=by rw [jO]
  have bd:rec.body=body:=by rw [jO]
  have ej:rec.params= #[p]:=by rw [jO]
  have hS:rec.tmps=a.tmps:=by rw [jO]
  rw [aE,bd,ej,hS]
  refine Bk (n:=9) rfl ?_
  have FT:((#[p]:Array Tmp).zip #[v2]).foldl (fun tmps (t,a)=>tmps.setIfInBounds t a) a.tmps=a.tmps.setIfInBounds p v2:=by simp
  rw [FT]
  subst pa zY
  refine wpIn_mono ((pF x s Dk hs g mZ (aJ (⟨some l,.is (.loop rec)⟩ :: ⟨some D,.dk⟩ :: Ls s g)) A l D rec (by rw [jO])) { tmps:=a.tmps.setIfInBounds p v2,defers:= [] } mZ ?_) ?_
  ·have h8:p < c.n:=by simpa using hp
   exact
   {defers:=rfl
    size:=by simp [s2.size]
    env:=fun t qX ew=>by
     simp only [look] at ew
     by_cases e:Nat.beq p t=true
     ·rw [e] at ew
      simp only [cond_true,Option.some.injEq] at ew
      subst ew
      have:=dX.1 e
      subst this
      exact⟨v2,by simp [s2.size,h8],a3⟩
     ·simp only [Bool.not_eq_true] at e
      rw [e] at ew
      simp only [cond_false] at ew
      obtain⟨u,J,ad⟩:=s2.env t qX ew
      have cQ:p≠t:=fun h=>by rw [dX.2 h] at e; cases e
      exact⟨u,by rw [Array.getElem?_setIfInBounds_ne cQ]; exact J,qX.mono gA ad⟩
    dm:= .refl _ _
    own:=hle.ok
    nodup:=hle.nodup
    lt:=hle.lt
    fA:=fun k au _=>au
    eC:=hle.eC }
  ·intro e gb XH hq
   cases e with
   | normal=>
     obtain⟨HL,G1,hb⟩:=hq
     refine⟨HL,G1,Bk (n:=9) rfl (wpIn_mono hb ?_)⟩
     intro e oq Aj CW
     have fin:∀ (jump:Option Code) {Lr:List aF},bs ⟨c.P,c.n,mZ,aJ (⟨some l,.is (.loop rec)⟩ :: ⟨some D,.dk⟩ :: Ls s g),A,some l,[]⟩ [] (⟨some l,.is (.loop { rec with state:= .busy })⟩ :: ⟨some D,.dk⟩ :: Lr) oq Aj→
      ∃ nE,(Instr.endRound l jump).run c.P Aj= .ok (.bool jump.isNone) nE∧bs ⟨c.P,c.n,mZ,aJ (⟨some l,.is (.loop rec)⟩ :: ⟨some D,.dk⟩ :: Ls s g),A,some l,[]⟩ [] (⟨some l,.is (.loop { rec with state:=if jump.isNone then .ready else .done,pending:=jump })⟩ :: ⟨some D,.dk⟩ :: Lr) oq nE:=fun jump Lr nF=>by
      obtain⟨o,J,ad⟩:=nF.own ⟨some l,.is (.loop { rec with state:= .busy })⟩ (by simp)
      have kT:o= .loop { rec with state:= .busy } :=ad
      subst kT
      exact⟨_,run_endRound jump J,nF.pS (i:=0) rfl rfl⟩
     rcases CW with⟨bW,ev,rfl,eH,nF⟩ | ⟨q,ev,aC,rfl,eH,nF⟩
     ·obtain⟨nE,bc,ru⟩:=fin none nF
      refine⟨_,nE,bc,.inl ⟨bW,ev,?_⟩⟩
      have G2:({ rec with state:=if (none:Option Code).isNone then .ready else .done,pending:=none } :Loop)=rec:=by rw [jO]; rfl
      rw [G2] at ru
      exact ru.ends (ρ:=fun _:γ=>I.of true) (Lo:=fun g=>⟨some l,.is (.loop rec)⟩ :: ⟨some D,.dk⟩ :: Ls bW g) eH (List.Sublist.refl _) (of_bool.2 rfl)
     ·obtain⟨nE,bc,ru⟩:=fin (some (eR q)) nF
      have key:jL (aJ (⟨some l,.is (.loop rec)⟩ :: ⟨some D,.dk⟩ :: Ls s g)) A mZ (fun _:γ=>I.of false) (fun g=>⟨some l,.is (.loop { rec with state:= .done,pending:=some (eR q) })⟩ :: ⟨some D,.dk⟩ :: Lx q g) (.returned (.bool false)) nE:=
       ru.ends (ρ:=fun _:γ=>I.of false) (Lo:=fun g=>⟨some l,.is (.loop { rec with state:= .done,pending:=some (eR q) })⟩ :: ⟨some D,.dk⟩ :: Lx q g) eH (List.Sublist.refl _) (of_bool.2 rfl)
      exact Iv aC bc (.inr ⟨q,ev,key⟩)
   | exit id=>exact hq.elim
   | goto t=>exact hq.elim
   | ret=>exact hq.elim
   | panic HB=>exact hq.elim
   | outgrown=>exact hq.elim
 have tO:=kY.go kA mV hq (fun s g=>⟨some l,.is (.loop rec)⟩ :: ⟨some D,.dk⟩ :: jn s g) (fun s g=>by rw [pa]; simp only [ma,List.cons_append]) step b0 g0 (fun r=>k r mj) aQ c.bM gD (.func (.yield l) #[] #[]) hf yR GZ Gk
 have kz:a.eval (.tmp gt)= .func (.func f) #[] hf.toArray:=by simp [Act.eval,zV,uG]
 refine⟨l,[Cr D],gD,{ target:= .fn (.func f) hf.toArray,args:= #[.func (.yield l) #[] #[]] },gD,f,#[.func (.yield l) #[] #[]] ++ hf.toArray,gD,zX,?_,fun _ _=>trivial,?_,fun h=>by simp at h,?_⟩
 ·simp only [resolve,kz]
  simp [go_sem]
 ·simp [invoke,go_sem,ea.run]
 ·refine CallsIn.EZ ?_
  have FU:(#[.func (.yield l) #[] #[]] ++ hf.toArray:Array Value)=(.func (.yield l) #[] #[] :: hf).toArray:=by simp
  rw [FU]
  refine tO.mono fun e HM ⟨XI,⟨⟨r,Nh⟩,eH⟩,he,a0,ax,aR,aW,bc⟩=> ?_
  subst he
  have nG:=zZ.after a0 ax (by simpa [aJ] using aR) (by simpa [aJ] using aW)
  rw [List.append_nil] at nG
  cases r with
  | inl bW=>
    simp only [Lr] at nG
    subst pa
    obtain⟨o,cU,eW⟩:=nG.own ⟨some l,.is (.loop rec)⟩ (by simp)
    have oY:o= .loop rec:=eW
    subst oY
    have mO:=run_endLoop (P:=c.P) cU (by rw [jO]; simp)
    have h8:rec.pending=none:=by rw [jO]
    rw [h8] at mO
    refine⟨none,_,mO,?_⟩
    have rv:=(nG.pS (i:=0) (cp':= .is (.loop { rec with state:= .exhausted })) (o':= .loop { rec with state:= .exhausted }) rfl rfl).n1 1
    rw [h8] at rv
    exact mH bW Nh eH D _ _ (rv.mark D)
  | inr q=>
    simp only [Lr] at nG
    subst zY
    obtain⟨o,cU,eW⟩:=nG.own ⟨some l,.is (.loop { rec with state:= .done,pending:=some (eR q) })⟩ (by simp)
    have oY:o= .loop { rec with state:= .done,pending:=some (eR q) } :=eW
    subst oY
    have mO:=run_endLoop (P:=c.P) cU (by simp)
    refine⟨some (eR q),_,mO,?_⟩
    have rv:=(nG.pS (i:=0) (cp':= .is (.loop { rec with state:= .exhausted,pending:=some (eR q) })) (o':= .loop { rec with state:= .exhausted,pending:=some (eR q) }) rfl rfl).n1 1
    exact yQ q Nh eH D _ _ (rv.mark D)
end
end Gv
namespace Gv
open Go
set_option linter.unusedVariables false
set_option linter.unusedSimpArgs false
def ao.any (α:Type):ao α:=fun Q=> ∀ x,Q x
theorem ao.any_bind {α β:Type} {k:α→ao β} {R:β→Prop} (h:ao.bind (ao.any α) k R) (x:α):k x R:=h x
theorem fM.append {A:List Nat} {W:World} :∀ {τs σs:List I} {vs us:List Value},fM A W τs vs→fM A W σs us→fM A W (τs ++ σs) (vs ++ us)
 | _,_,_,_,.nil,h=>h
 | _,_,_,_,.cons h r,ad=> .cons h (r.append ad)
section
variable {c:cT} {E:List (Nat × I)} {L:List aF} {ops:Array Oper} {Q:Exit→Act→World→Prop}
variable {d:Option Tmp} {ty:TypeId} {pos:String} {af:Array Edge} {g:Option (Nat × Bool)} {x y:Operand} {t t2:TypeId}
def fr (c:cT) (E:List (Nat × I)) (L:List aF) (o:Oper) {δ:Type} (ρ:δ→I) (av:δ→List aF):Prop:=
 ∀ a W,bs c E L a W→fR c.P o a W fun v W'=> ∃ q,bs c E (av q) a W'∧ (ρ q).holds (aJ (av q) ++ c.bM) W' v
theorem ag.uQ {o:Oper} {rest:List Oper} {a9:Nat} {δ:Type} {ρ:δ→I} {av:δ→List aF} (h:fr c E L o ρ av) (bx:o.guard=none) (hd:o.dst=some a9) (aL:Nat.blt a9 c.n=true)
 (k:∀ q,ag c ops Q rest ((a9,ρ q) :: E) (av q)):ag c ops Q (o :: rest) E L:=fun a W s=>
 hA bx (h a W s) fun v W' ⟨q,f,a3⟩=>by
  rw [hd]
  exact k q _ _ (f.put (by simpa using aL) a3)
theorem fr.perm {gx:List aF} {o:Oper} {δ:Type} {ρ:δ→I} {av L2:δ→List aF} (p:L.Perm gx) (NM:∀ q,(av q).Perm (L2 q)) (h:fr c E gx o ρ av):fr c E L o ρ L2:=fun a W s=>by
 have:=h a W (s.perm p)
 unfold fR at this ⊢
 exact Oper.wp_mono (fun fK W' ⟨v,J,q,ad,ax⟩=>⟨v,J,q,ad.perm (NM q),(ρ q).mono (lU (NM q)) ax⟩) this
theorem fr.to {o:Oper} {δ:Type} {ρ:δ→I} {av L2:δ→List aF} (e:∀ q,av q=L2 q) (h:fr c E L o ρ av):fr c E L o ρ L2:=by
 have:av=L2:=funext e
 subst this; exact h
theorem fr.VU {o:Oper} {δ:Type} {τ:I} (h:fr c E L o (fun _:δ=>τ) (fun _=>L)):eP c E L o τ:=fun a W s=>by
 have:=h a W s
 unfold fR at this ⊢
 exact Oper.wp_mono (fun fK W' ⟨v,J,q,ad,ax⟩=>⟨v,J,ad,ax⟩) this
theorem fr.call {o:Oper} {f:FuncId} {as:Act→List Value} {τs:List I} {Lin Lr:List aF} {δ:Type} {ρ:δ→I} {Lo:δ→List aF} (h:bF c.P f τs Lin ρ Lo)
 (aj:∀ a W,bs c E (Lin ++ Lr) a W→ (execOp a.eval o).run c.P W= .ok (.enter f (as a).toArray) W∧fM (aJ (Lin ++ Lr) ++ c.bM) W τs (as a)):fr c E (Lin ++ Lr) o ρ (fun q=>Lo q ++ Lr):=fun a W s=>by
 obtain⟨jg,ak⟩:=aj a W s
 have k7:=s.nodup
 rw [eF] at k7
 obtain⟨iO,ln,o6⟩:=List.nodup_append.1 k7
 have kN:Ext (aJ (Lin ++ Lr) ++ c.bM) W (aJ Lin ++ (aJ Lr ++ c.bM)) W:=yk
 have fk:∀ k∈aJ Lr ++ c.bM,k < W.heap.size∧k ∉ aJ Lin:=fun k hm=>by
  rcases List.mem_append.1 hm with hm | hm
  ·exact⟨s.lt k (by rw [eF]; exact List.mem_append.2 (.inr hm)),fun h=>o6 k h k hm rfl⟩
  ·obtain⟨J,ad⟩:=s.eC k hm
   exact⟨J,fun h=>ad (by rw [eF]; exact List.mem_append.2 (.inl h))⟩
 have b5:∀ k∈aJ Lin,k < W.heap.size:=fun k hm=>s.lt k (by rw [eF]; exact List.mem_append.2 (.inl hm))
 refine .te (f:=f) (args:=(as a).toArray) (W':=W) jg ?_
 refine(h (aJ Lr ++ c.bM) W (as a) fk iO b5 (fun e he=>aF.rN (s.own e (List.mem_append.2 (.inl he))) kN fun _ _=>rfl) (ak.mono kN)).mono fun e W' ⟨v,a9,he,a0,J,ad,ax,aR⟩=> ?_
 exact⟨v,he,a9,s.after a0 J ad ax,(ρ a9).mono EI aR⟩
theorem fr.LU {o:Oper} {bN:Type} [eI bN] {hp:aI bN} {Lin Lr:List aF} {δ:Type} {ρ:δ→I} {Lo:δ→List aF} {hq:δ→aI bN} (n m:Nat) (an:L.drop n=aY hp) (J:(L.take n).take m=Lin) (ad:(L.take n).drop m=Lr)
 (h:fr c E ((Lin ++ aY hp) ++ Lr) o ρ (fun q=>(Lo q ++ aY (hq q)) ++ Lr)):fr c E L o ρ (fun q=>(Lo q ++ Lr) ++ aY (hq q)):=by
 have e:L=(Lin ++ Lr) ++ aY hp:=by rw [← J,← ad,List.take_append_drop,← an,List.take_append_drop]
 clear an J ad
 subst e
 exact h.perm mu fun q=>mu
theorem fr.im {f:FuncId} {xs:List Operand} {ats:Array TypeId} {bN:Type} [eI bN] {hp:aI bN} {τs:List I} {Lin Lr:List aF} {δ:Type} {ρ:δ→I} {Lo:δ→List aF} {hq:δ→aI bN} (n m:Nat) (an:L.drop n=aY hp) (ea:bR c.P f) (h:bF c.P f τs (Lin ++ aY hp) ρ (fun d=>Lo d ++ aY (hq d)))
 (J:(L.take n).take m=Lin) (ad:(L.take n).drop m=Lr) (ak:gV c E L xs τs):fr c E L ⟨d,.call ⟨.value (.func f),xs.toArray,ats⟩,ty,pos,af,g⟩ ρ (fun q=>(Lo q ++ Lr) ++ aY (hq q)):=by
 have e:L=(Lin ++ Lr) ++ aY hp:=by rw [← J,← ad,List.take_append_drop,← an,List.take_append_drop]
 refine fr.LU n m an J ad (fr.call (as:=fun a=>xs.map a.eval) h fun a W s=>⟨by simp [execOp,resolve,Deferred.ofValue,Act.eval,invoke,ea.run],?_⟩)
 subst e
 exact(ak.holds a W (s.perm mu.symm)).mono (lU mu)
theorem fr.k3 {f:FuncId} {xs:List Operand} {ats:Array TypeId} {τs:List I} {Lin Lr:List aF} {δ:Type} {ρ:δ→I} {Lo:δ→List aF} (m:Nat) (ea:bR c.P f) (h:bF c.P f τs Lin ρ Lo)
 (J:L.take m=Lin) (ad:L.drop m=Lr) (ak:gV c E L xs τs):fr c E L ⟨d,.call ⟨.value (.func f),xs.toArray,ats⟩,ty,pos,af,g⟩ ρ (fun q=>Lo q ++ Lr):=by
 have e:L=Lin ++ Lr:=by rw [← J,← ad,List.take_append_drop]
 clear J ad
 subst e
 exact fr.call (as:=fun a=>xs.map a.eval) h fun a W s=>⟨by simp [execOp,resolve,Deferred.ofValue,Act.eval,invoke,ea.run],ak.holds a W s⟩
theorem a4.RS {mY:Operand} {f:FuncId} {si τs:List I} {xs:List Operand} {ats:Array TypeId} (ea:bR c.P f) (a0:a4 c E L mY (.gi f si)) (ak:gV c E L xs τs) {a:Act} {W:World} (s:bs c E L a W):
 ∃ hf:List Value,(execOp a.eval ⟨d,.call ⟨.value mY,xs.toArray,ats⟩,ty,pos,af,g⟩).run c.P W= .ok (.enter f (xs.map a.eval ++ hf).toArray) W∧fM (aJ L ++ c.bM) W (τs ++ si) (xs.map a.eval ++ hf):=by
 obtain⟨hf,J,ad⟩:=a0 a W s
 exact⟨hf,by simp [execOp,resolve,Deferred.ofValue,J,invoke,ea.run],(ak.holds a W s).append ad⟩
theorem fr.gi {mY:Operand} {f:FuncId} {si τs:List I} {xs:List Operand} {ats:Array TypeId} {Lin Lr:List aF} {δ:Type} {ρ:δ→I} {Lo:δ→List aF} (m:Nat) (ea:bR c.P f) (a0:a4 c E L mY (.gi f si)) (h:bF c.P f (τs ++ si) Lin ρ Lo)
 (J:L.take m=Lin) (ad:L.drop m=Lr) (ak:gV c E L xs τs):fr c E L ⟨d,.call ⟨.value mY,xs.toArray,ats⟩,ty,pos,af,g⟩ ρ (fun q=>Lo q ++ Lr):=by
 have e:L=Lin ++ Lr:=by rw [← J,← ad,List.take_append_drop]
 clear J ad
 subst e
 intro a W s
 obtain⟨hf,ax,aR⟩:=a4.RS (d:=d) (ty:=ty) (pos:=pos) (af:=af) (g:=g) (ats:=ats) ea a0 ak s
 have k7:=s.nodup
 rw [eF] at k7
 obtain⟨iO,ln,o6⟩:=List.nodup_append.1 k7
 have kN:Ext (aJ (Lin ++ Lr) ++ c.bM) W (aJ Lin ++ (aJ Lr ++ c.bM)) W:=yk
 have fk:∀ k∈aJ Lr ++ c.bM,k < W.heap.size∧k ∉ aJ Lin:=fun k hm=>by
  rcases List.mem_append.1 hm with hm | hm
  ·exact⟨s.lt k (by rw [eF]; exact List.mem_append.2 (.inr hm)),fun h=>o6 k h k hm rfl⟩
  ·obtain⟨J,ad⟩:=s.eC k hm
   exact⟨J,fun h=>ad (by rw [eF]; exact List.mem_append.2 (.inl h))⟩
 have b5:∀ k∈aJ Lin,k < W.heap.size:=fun k hm=>s.lt k (by rw [eF]; exact List.mem_append.2 (.inl hm))
 refine .te (f:=f) (W':=W) ax ?_
 refine(h (aJ Lr ++ c.bM) W _ fk iO b5 (fun e he=>aF.rN (s.own e (List.mem_append.2 (.inl he))) kN fun _ _=>rfl) (aR.mono kN)).mono fun e W' ⟨v,a9,he,a0,J,ad,ax,aR⟩=> ?_
 exact⟨v,he,a9,s.after a0 J ad ax,(ρ a9).mono EI aR⟩
theorem gV.perm {gx:List aF} (p:L.Perm gx):∀ {xs:List Operand} {τs:List I},gV c E L xs τs→gV c E gx xs τs
 | [],[],h=>h
 | _ :: _,_ :: _,h=>⟨h.1.perm p,gV.perm p h.2⟩
 | [],_ :: _,h=>h.elim
 | _ :: _,[],h=>h.elim
theorem fr.Vd {mY:Operand} {f:FuncId} {si τs:List I} {xs:List Operand} {ats:Array TypeId} {bN:Type} [eI bN] {hp:aI bN} {Lin Lr:List aF} {δ:Type} {ρ:δ→I} {Lo:δ→List aF} {hq:δ→aI bN} (n m:Nat) (an:L.drop n=aY hp) (ea:bR c.P f) (a0:a4 c E L mY (.gi f si)) (h:bF c.P f (τs ++ si) (Lin ++ aY hp) ρ (fun d=>Lo d ++ aY (hq d)))
 (J:(L.take n).take m=Lin) (ad:(L.take n).drop m=Lr) (ak:gV c E L xs τs):fr c E L ⟨d,.call ⟨.value mY,xs.toArray,ats⟩,ty,pos,af,g⟩ ρ (fun q=>(Lo q ++ Lr) ++ aY (hq q)):=by
 have e:L=(Lin ++ Lr) ++ aY hp:=by rw [← J,← ad,List.take_append_drop,← an,List.take_append_drop]
 refine fr.LU n m an J ad ?_
 subst e
 refine fr.to (fun q=>rfl) (fr.gi (Lin ++ aY hp).length ea (a0.perm mu) h List.take_left List.drop_left (ak.perm mu))
theorem fr.obj {f:FuncId} {xs:List Operand} {ats:Array TypeId} {bN:Type} [eI bN] {hp:aI bN} {p:Nat} {k:bN} {τs:List I} {Lin:List aF} {δ:Type} {ρ:δ→I} {Lo:δ→List aF} (n:Nat) (k':δ→bN) (an:L.drop n=aY hp) (hp':pat hp p=some k) (ea:bR c.P f) (h:bF c.P f τs Lin ρ Lo)
 (au:eI.g5 p k=Lin) (iy:∀ q,eI.g5 p (k' q)=Lo q) (ak:gV c E L xs τs):fr c E L ⟨d,.call ⟨.value (.func f),xs.toArray,ats⟩,ty,pos,af,g⟩ ρ (fun q=>L.take n ++ aY (cx hp p (k' q))):=by
 obtain⟨R,a8,bn⟩:=s9 hp'
 have e:L=L.take n ++ aY hp:=by rw [← an,List.take_append_drop]
 have cX:∀ {M X:List aF},M.Perm (X ++ R)→ (L.take n ++ M).Perm (X ++ (R ++ L.take n)):=fun h=>List.perm_append_comm.trans ((h.append_right _).trans (by rw [List.append_assoc]))
 have G6:L.Perm (Lin ++ (R ++ L.take n)):=by
  conv=>lhs; rw [e]
  exact cX (by rw [← au]; exact a8)
 refine fr.perm G6 (fun q=>(cX (bn (k' q))).symm) ?_
 refine fr.to (fun q=>by rw [iy]) (fr.call (Lr:=R ++ L.take n) (as:=fun a=>xs.map a.eval) h fun a W s=>⟨by simp [execOp,resolve,Deferred.ofValue,Act.eval,invoke,ea.run],?_⟩)
 exact(ak.holds a W (s.perm G6.symm)).mono (lU G6)
theorem eP.obj {f:FuncId} {xs:List Operand} {ats:Array TypeId} {bN:Type} [eI bN] {hp:aI bN} {p:Nat} {k:bN} {τs:List I} {Lin:List aF} {δ:Type} {τ:I} (n:Nat) (an:L.drop n=aY hp) (hp':pat hp p=some k) (ea:bR c.P f) (h:bF c.P f τs Lin (fun _:δ=>τ) (fun _=>Lin))
 (au:eI.g5 p k=Lin) (ak:gV c E L xs τs):eP c E L ⟨d,.call ⟨.value (.func f),xs.toArray,ats⟩,ty,pos,af,g⟩ τ:=by
 have e:L=L.take n ++ aY hp:=by rw [← an,List.take_append_drop]
 have sx:cx hp p k=hp:=by
  clear e an h au
  induction hp with
  | nil=>rfl
  | cons z r bz=>
    obtain⟨q,Yz⟩:=z
    simp only [pat] at hp'
    simp only [cx]
    split at hp'
    ·rename_i e; simp only [Option.some.injEq] at hp'; rw [if_pos e,hp']
    ·rename_i e; rw [if_neg e,bz hp']
 refine fr.VU (fr.to (fun q=> ?_) (fr.obj (d:=d) (ty:=ty) (pos:=pos) (af:=af) (g:=g) (ats:=ats) n (fun _=>k) an hp' ea h au (fun _=>au) ak))
 rw [sx,← e]
theorem ag.Tj {l:List Oper} {bN:Type} [eI bN] {hp:aI bN} {p:Nat} {Lin Lr:List aF} (n m:Nat) (mk:bN) (an:L.drop n=aY hp) (J:(L.take n).take m=Lin) (ad:(L.take n).drop m=Lr) (au:eI.g5 p mk=Lin) (hm:p∈aJ Lin)
 (k:∀ a:Nat × aI bN,a.1 ∉ hp.map (·.1)∧a.2=(a.1,mk) :: hp→a.1=p→ag c ops Q l E (Lr ++ aY a.2)):ag c ops Q l E L:=fun a W s=>by
 have e:L=(Lin ++ Lr) ++ aY hp:=by rw [← J,← ad,List.take_append_drop,← an,List.take_append_drop]
 have cX:L.Perm (Lr ++ aY ((p,mk) :: hp)):=by
  rw [e,aY,au,← List.append_assoc]
  exact List.perm_append_comm.append_right _
 refine k (p,(p,mk) :: hp) ⟨fun z4=> ?_,rfl⟩ rfl _ _ (s.perm cX)
 have fB:=s.nodup
 rw [e,eF,eF] at fB
 exact(List.nodup_append.1 fB).2.2 p (List.mem_append.2 (.inl hm)) p (KK z4) rfl
end
end Gv
namespace Gv
open Go
set_option linter.unusedVariables false
section
variable {c:cT} {E:List (Nat × I)} {L:List aF} {ops:Array Oper} {Q:Exit→Act→World→Prop}
theorem cl.q {hs:List c4} {i np:Nat} {o:Oper} {h:c4} (b3:cl c ops Q hs E L i o h):Fl c ops Q hs E L np i o h:=fun hd E' av J ad _=>b3 hd E' av J ad
structure yw (P:Program) (f:FuncId) (τs:List I) {bN:Type} [eI bN] (hp:aI bN) {α:Type} (τ:α→I) (run:∀ {σ ε:Type},(α→σ→Option (σ ⊕ ε))→σ→Option (σ ⊕ ε)):Prop where
 go:∀ {σ ε γ:Type} (Ls:σ→γ→List aF) (Lx:ε→γ→List aF) (jn:σ→γ→List aF),(∀ s g,Ls s g=jn s g ++ aY hp)→GX P f τs [] τ (run (σ:=σ) (ε:=ε)) Ls Lx
theorem yw.of {P:Program} {f:FuncId} {fn:Func} {code:Code} {n:Nat} {τs:List I} {bN:Type} [eI bN] {hp:aI bN} {α:Type} {τ:α→I} {run:∀ {σ ε:Type},(α→σ→Option (σ ⊕ ε))→σ→Option (σ ⊕ ε)}
 (a0:P.funcs[f]? =some fn) (hb:fn.body=some code) (aL:fn.ntmps=n) (hlen:Nat.ble (τs.length + 1) n=true)
 (h:∀ {σ ε γ:Type} (Ls:σ→γ→List aF) (Lx:ε→γ→List aF) (jn:σ→γ→List aF),(∀ s g,Ls s g=jn s g ++ aY hp)→ ∀ (step:α→σ→Option (σ ⊕ ε)) (b0:σ) (g0:γ) (r:σ ⊕ ε),run step b0=some r→
  ∀ W A u,wL P u τ Ls Lx step (fun cN W'=>Ext (aJ (Ls b0 g0) ++ A) W cN W')→
    ai ⟨P,n,W,aJ (Ls b0 g0),A,none,[]⟩ (bodyPost P fn (jL (aJ (Ls b0 g0)) A W (fun _:γ=> .eA []) (fun g=> [] ++ Lr Ls Lx r g))) code (params 0 (.eq u :: τs)) (Ls b0 g0)):yw P f τs hp τ run:=by
 refine⟨?_⟩
 intro σ ε γ Ls Lx jn ma step b0 g0 r aQ A W u vs ar a3 a7
 refine calls_of_wp a0 hb (wpIn_wide.1 (h Ls Lx jn ma step b0 g0 r aQ W A u a7 _ _ ?_))
 have oe:fM (aJ (Ls b0 g0) ++ A) W (.eq u :: τs) (u :: vs):= .cons rfl a3
 have ka:=oe.length
 have hle:τs.length + 1≤n:=Nat.le_of_ble_eq_true hlen
 exact
 {defers:=rfl
  size:=by simp at ka; simp [aL,ka]; omega
  env:=fun t τ ew=>by
   obtain⟨_,v,ad,ax⟩:=s5 oe 0 t τ ew
   refine⟨v,?_,ax⟩
   have b5:t < (u :: vs).length:=(List.getElem?_eq_some_iff.1 ad).1
   rw [Array.getElem?_append_left (by simpa using b5)]
   simpa using ad
  dm:= .refl _ _
  own:=ar.ok
  nodup:=ar.nodup
  lt:=ar.lt
  fA:=fun k au _=>au
  eC:=ar.eC }
theorem TJ {bN:Type} [eI bN] {σ γ:Type} {Ls jn:σ→γ→List aF} {hp:aI bN} {s:σ} {g:γ} {p:Nat} {k:bN} {e:aF} (n:Nat) (an:L.drop n=Ls s g) (ma:∀ s g,Ls s g=jn s g ++ aY hp) (h:pat hp p=some k) (au:eI.g5 p k= [e]):e∈L:=
 Le (hq:=fun _=>hp) n an ma h au
theorem I3 {gt p:Nat} {assign body:Code} {f:FuncId} {nn:List I} {bN:Type} [eI bN] {hp:aI bN} {α σ ε γ:Type} {τ:α→I} {run:∀ {σ ε:Type},(α→σ→Option (σ ⊕ ε))→σ→Option (σ ⊕ ε)}
 {Ls:σ→γ→List aF} {Lx:ε→γ→List aF} {step:α→σ→Option (σ ⊕ ε)} {b0:σ} {g0:γ} {r:σ ⊕ ε} (jn:σ→γ→List aF) (eR:ε→Code)
 (aj:c.rd=none) (ea:bR c.P f) (bx:look E gt=some (.gi f nn)) (kY:yw c.P f nn hp τ run) (aQ:run step b0=some r) (ma:∀ s g,Ls s g=jn s g ++ aY hp) (an:L=Ls b0 g0) (hp':Nat.blt p c.n=true)
 (pF:∀ x s r,step x s=some r→ ∀ g (mR:World) (mW mS:List Nat) (l D:Nat) (rec:Loop),rec.state= .ready→
  ai ⟨c.P,c.n,mR,mW,mS,some l,[]⟩ (Exit.then (Dj ⟨c.P,c.n,mR,mW,mS,some l,[]⟩ l body (Di ⟨c.P,c.n,mR,mW,mS,some l,[]⟩ eR l D { rec with state:= .busy } Ls Lx r)) (fun _ _ _=>False)) assign ((p,τ x) :: E) (⟨some l,.is (.loop rec)⟩ :: ⟨some D,.dk⟩ :: Ls s g))
 (mH:∀ bW,r= .inl bW→ ∀ g D,ah { c with ds:=D :: c.ds } Q .normal E (⟨some D,.dk⟩ :: Ls bW g))
 (yQ:∀ q,r= .inr q→ ∀ g D,ai { c with ds:=D :: c.ds } Q (eR q) E (⟨some D,.dk⟩ :: Lx q g)):
 ai c Q (.rangeFunc (.tmp gt) #[p] assign body) E L:=
 QF (Lin:= []) (run:=run) eR aj ea bx (fun aE bd mV=>kY.go (fun s g=>aE :: bd :: Ls s g) mV (fun s g=>aE :: bd :: jn s g) (fun s g=>by rw [ma]; rfl)) aQ an hp' pF mH yQ
end
end Gv
namespace Gv
open Go
set_option linter.unusedVariables false
structure Raw where
 f:FuncId
 us:Option (List Value)
instance:Inhabited Raw:=⟨⟨0,none⟩⟩
def Raw.val:Raw→Value
 | ⟨f,some us⟩=> .func (.func f) #[] us.toArray
 | ⟨_,none⟩=> .nilFunc
instance:ae Raw where
 size:=1
 agg:=false
 rep _ _ cs x:=cs= [x.val]
 len h:=by rw [h]; rfl
 one h:=by
  intro v a3
  rw [h,List.mem_singleton] at a3
  subst a3
  rename_i x
  obtain⟨f,us⟩:=x
  cases us <;> rfl
 flat _:=rfl
 mono _ h:=h
instance:a2 Raw:=⟨[.nilFunc],fun _ _=>rfl⟩
theorem KN {A W v} {x:Raw} :(I.of x).holds A W v↔v=x.val:=by
 constructor
 ·intro h
  exact m6 (by have:=h.1; exact this) h.2
 ·intro h
  subst h
  obtain⟨f,us⟩:=x
  cases us <;> exact⟨rfl,rfl⟩
section
variable {c:cT} {E:List (Nat × I)} {L:List aF} {ops:Array Oper} {Q:Exit→Act→World→Prop}
variable {d:Option Tmp} {ty:TypeId} {pos:String} {af:Array Edge} {g:Option (Nat × Bool)} {x y:Operand} {t t2:TypeId}
theorem fM.eqs {A:List Nat} {W:World} :∀ {us vs:List Value},fM A W (us.map I.eq) vs→vs=us
 | [],_,.nil=>rfl
 | _ :: _,_,.cons h r=>by rw [r.eqs]; congr 1
theorem fM.LV {A:List Nat} {W:World} :∀ {us:List Value},fM A W (us.map I.eq) us
 | []=> .nil
 | _ :: _=> .cons rfl .LV
theorem TT {f:FuncId} {xs:List Operand} {us:List Value} (ak:gV c E L xs (us.map I.eq)):bO c E L ⟨d,.makeFunc (.func f) #[] xs.toArray,ty,pos,af,g⟩ (.of (⟨f,some us⟩:Raw)):= .pure fun a W s=>
 ⟨.func (.func f) #[] us.toArray,by
   have h:=(ak.holds a W s).eqs
   simp [execOp,Instr.makeFunc,h],KN.2 rfl⟩
theorem Q1 {f:FuncId} {us:List Value} (ak:a4 c E L x (.of (⟨f,some us⟩:Raw))):a4 c E L x (.gi f (us.map I.eq)):=fun a W s=>
 ⟨us,KN.1 (ak a W s),.LV⟩
end
end Gv
namespace Gv
open Go
set_option linter.unusedVariables false
section
variable {c:cT} {E:List (Nat × I)} {L:List aF} {ops:Array Oper} {Q:Exit→Act→World→Prop}
theorem ag.Tk {l:List Oper} {p q:Nat} (eQ:Nat) (ar:look E eQ=some (.eq (.pointer (some ⟨p,0,none⟩)))) (he:q=p) (k:ag c ops Q l ((eQ,.of (some q:Ref)) :: E) L):ag c ops Q l E L:=fun a W s=>by
 subst he
 refine k a W (s.less fun t τ h=> ?_)
 simp only [look] at h
 by_cases e:Nat.beq eQ t=true
 ·rw [e] at h
  simp only [cond_true,Option.some.injEq] at h
  have:=dX.1 e
  subst this
  subst h
  exact⟨_,ar,fun A W v a3=>rW.2 a3⟩
 ·simp only [Bool.not_eq_true] at e
  rw [e] at h
  exact⟨τ,h,fun _ _ _ h=>h⟩
end
end Gv
namespace Gv
open Go
set_option linter.unusedVariables false
set_option linter.unusedSimpArgs false
section
variable {c:cT} {E:List (Nat × I)} {L:List aF} {ops:Array Oper} {Q:Exit→Act→World→Prop}
def v8 (ops:Array Oper) (n:Nat) (hs:List (Option Nat × List Nat × List Nat × List Nat)) (E:List Nat):Bool:=
 decide (hs.length=n) && decide (n≤ops.size) && decide (hs.filterMap (·.1)).Nodup && ((List.range n).all fun m=>match hs[m]? with | some (some s,up,_)=> !E.contains s || (List.range n).all fun k=>decide (k=m) || up.contains k | _=>true) &&
 ((List.range n).all fun i=>match hs[i]? with
   | none=>false
   | some (_,up,rd,wr)=>
     (((ops[i]?).map fun o=>(o.dst ==(hs[i]?).bind (·.1)) && o.after.all fun e=> !Region.binds .any e || decide (e.on < i)).getD false) &&
     (up.all fun k=>Region.waitsFor .any ops i k || (List.range i).any fun m=>Region.waitsFor .any ops i m && ((hs[m]?).map fun h=>h.2.1.contains k).getD false) &&
     ((List.range n).all fun k=>match hs[k]? with
       | none=>true
       | some (_,GP,_,zQ)=>
         (!(decide (k < i) && zQ.any rd.contains) || up.contains k) && (!(decide (i < k) && zQ.any fun j=>rd.contains j || wr.contains j) || GP.contains i))) &&
 (decide (n=ops.size) || (Region.sinkB .any ops n && Region.chainB .any ops n)) &&
 Region.seqB .any ops (ops.size - n) n ((List.range n).foldl (fun l i=>l.setIfInBounds i true) (Array.replicate ops.size false))
theorem Qd {n:Nat} {hs:List c4} {np:Nat} (hw:∀ h∈hs,∀ j∈h.wr,j < np∨L.length≤j) (gI:v8 ops n (iz hs) (E.map (·.1))=true) (b3:nR c ops Q hs E L np 0 (ops.toList.take n) hs)
 (bI:∀ hd,ag c ops Q (ops.toList.drop n) (g4 (fun _=>true) hd E 0 hs) (gl (fun _=>true) hd 0 hs L)):
 ∀ m (aX:Array Bool) (hd:Nat→Hid) (a:Act) (W:World),((List.range n).filter fun i=> !aX.getD i true).length≤m→HeadInv .any ops n aX→
   bs c (g4 (fun i=>aX.getD i false) hd E 0 hs) (gl (fun i=>aX.getD i false) hd 0 hs L) a W→wpAnyIn c.F 9 c.P .any ops Q (m + (ops.size - n)) aX a W:=by
 simp only [v8,Bool.and_eq_true,decide_eq_true_eq,Bool.or_eq_true] at gI
 obtain⟨⟨⟨⟨⟨⟨FP,aL⟩,fB⟩,zi⟩,jN⟩,tK⟩,oU⟩:=gI
 have hlen:hs.length=n:=by simpa [iz] using FP
 have kO:∀ i,i < n→ ∃ h o,hs[i]? =some h∧ops[i]? =some o:=fun i aq=>⟨hs[i]'(by omega),ops[i],by simp,by simp⟩
 have oJ:∀ (i:Nat) (h:c4) (o:Oper),hs[i]? =some h→ops[i]? =some o→
  o.dst=h.slot∧ (∀ e∈o.after,Region.binds .any e=true→e.on < i)∧
  (∀ k∈h.up,Region.waitsFor .any ops i k=true∨ ∃ m,m < i∧Region.waitsFor .any ops i m=true∧ ∃ x,hs[m]? =some x∧k∈x.up)∧
  (∀ (k:Nat) (x:c4),hs[k]? =some x→ (k < i→ (∃ j∈x.wr,h.rd.contains j=true)→k∈h.up)∧ (i < k→ (∃ j∈x.wr,h.rd.contains j=true∨h.wr.contains j=true)→i∈x.up)):=by
  intro i h o aq a6
  have b5:i < n:=by have:=(List.getElem?_eq_some_iff.1 aq).1; omega
  have J:=List.all_eq_true.1 jN i (List.mem_range.2 b5)
  rw [vH aq] at J
  simp only [Bool.and_eq_true] at J
  obtain⟨⟨ad,ax⟩,aR⟩:=J
  simp only [a6,Option.map_some,Option.getD_some,Bool.and_eq_true,Option.bind_some,beq_iff_eq] at ad
  refine⟨ad.1,fun e he hb=> ?_,fun k au=> ?_,fun k x ak=> ?_⟩
  ·have:=Array.all_eq_true_iff_forall_mem.1 ad.2 e he
   simp [hb] at this
   exact this
  ·have:=List.all_eq_true.1 ax k au
   simp only [Bool.or_eq_true,List.any_eq_true,Bool.and_eq_true,List.mem_range] at this
   rcases this with aW | ⟨m,aW,bc,cn⟩
   ·exact .inl aW
   ·have hm:m < hs.length:=by omega
    rw [vH (List.getElem?_eq_getElem hm)] at cn
    exact .inr ⟨m,aW,bc,hs[m],List.getElem?_eq_getElem hm,by simpa using cn⟩
  ·have zF:k < n:=by have:=(List.getElem?_eq_some_iff.1 ak).1; omega
   have:=List.all_eq_true.1 aR k (List.mem_range.2 zF)
   rw [vH ak] at this
   simp only [Bool.and_eq_true,Bool.or_eq_true,Bool.not_eq_true',Bool.and_eq_false_iff,decide_eq_false_iff_not,List.contains_iff_mem] at this
   refine⟨fun od ⟨j,aC,aQ⟩=> ?_,fun kx ⟨j,aC,aQ⟩=> ?_⟩
   ·rcases this.1 with(aW | aW) | aW
    ·exact absurd od aW
    ·have:=List.any_eq_false.1 aW j aC
     exact absurd aQ this
    ·exact aW
   ·rcases this.2 with(aW | aW) | aW
    ·exact absurd kx aW
    ·have:=List.any_eq_false.1 aW j aC
     simp only [Bool.or_eq_true] at this
     exact absurd aQ this
    ·exact aW
 have tN:∀ (i j s:Nat) (x y:c4),hs[i]? =some x→hs[j]? =some y→x.slot=some s→y.slot=some s→i=j:=by
  have key:∀ (l:List c4),((iz l).filterMap (·.1)).Nodup→ ∀ (i j s:Nat) (x y:c4),l[i]? =some x→l[j]? =some y→x.slot=some s→y.slot=some s→i=j:=by
   intro l
   induction l with
   | nil=>intro _ i j s x y h; simp at h
   | cons z r bz=>
     intro fB i j s x y aq aC ak a7
     have aQ:((iz r).filterMap (·.1)).Nodup:=by
      cases dg:z.slot with
      | none=>simpa [iz,dg] using fB
      | some w=>
        simp only [iz,List.map_cons,List.filterMap_cons,dg] at fB
        exact(List.nodup_cons.1 fB).2
     have oT:z.slot=some s→ ∀ (q:Nat) (v:c4),r[q]? =some v→v.slot≠some s:=fun dg q v hq a3=>by
      simp only [iz,List.map_cons,List.filterMap_cons,dg] at fB
      exact(List.nodup_cons.1 fB).1 (List.mem_filterMap.2 ⟨_,List.mem_map.2 ⟨v,List.mem_of_getElem? hq,rfl⟩,a3⟩)
     cases i with
     | zero=>
       simp only [List.getElem?_cons_zero,Option.some.injEq] at aq
       subst aq
       cases j with
       | zero=>rfl
       | succ j=>simp only [List.getElem?_cons_succ] at aC; exact absurd a7 (oT ak j y aC)
     | succ i=>
       simp only [List.getElem?_cons_succ] at aq
       cases j with
       | zero=>
         simp only [List.getElem?_cons_zero,Option.some.injEq] at aC
         subst aC
         exact absurd ak (oT a7 i x aq)
       | succ j=>simp only [List.getElem?_cons_succ] at aC; rw [bz aQ i j s x y aq aC ak a7]
  exact key hs fB
 have FQ:∀ (t:Nat) (τ:I),look E t=some τ→ ∀ (m:Nat) (h:c4),hs[m]? =some h→h.slot=some t→ ∀ k,k < n→k≠m→k∈h.up:=by
  intro t τ ar m h hm ev k au uD
  have lJ:m < n:=by have:=(List.getElem?_eq_some_iff.1 hm).1; omega
  have J:=List.all_eq_true.1 zi m (List.mem_range.2 lJ)
  rw [show(iz hs)[m]? =some (h.slot,h.up,h.rd,h.wr) by simp [iz,hm],ev] at J
  have sh:t∈E.map (·.1):=by
   clear zi J b3 bI hm ev
   induction E with
   | nil=>simp [look] at ar
   | cons x r bz=>
     obtain⟨s,σ⟩:=x
     simp only [look] at ar
     by_cases e:Nat.beq s t=true
     ·have:=dX.1 e; subst this; simp
     ·simp only [Bool.not_eq_true] at e
      rw [e] at ar
      simp only [List.map_cons,List.mem_cons]
      exact .inr (bz ar)
  replace J:(!(E.map (·.1)).contains t || (List.range n).all fun k=>decide (k=m) || h.up.contains k)=true:=J
  rw [show(E.map (·.1)).contains t=true by simpa using sh] at J
  have ad:∀ x,x < n→x=m∨x∈h.up:=by simpa using J
  exact(ad k au).resolve_left uD
 have ny:∀ (aX:Array Bool),HeadInv .any ops n aX→ ∀ (d i:Nat),i≤d→ ∀ (h:c4) (o:Oper),hs[i]? =some h→ops[i]? =some o→ (∀ e∈o.after,Region.binds .any e=true→aX.getD e.on false=true)→ ∀ k∈h.up,aX.getD k false=true:=by
  intro aX inv d
  induction d with
  | zero=>
    intro i aq h o c6 mU hw k au
    rcases (oJ i h o c6 mU).2.2.1 k au with J | ⟨m,hm,_⟩
    ·obtain⟨jY,g8,e,he,hb,ky⟩:=Region.waitsFor_spec J
     rw [mU] at g8; cases g8
     rw [← ky]; exact hw e he hb
    ·omega
  | succ d bz=>
    intro i aq h o c6 mU hw k au
    rcases (oJ i h o c6 mU).2.2.1 k au with J | ⟨m,hm,J,x,ak,GQ⟩
    ·obtain⟨jY,g8,e,he,hb,ky⟩:=Region.waitsFor_spec J
     rw [mU] at g8; cases g8
     rw [← ky]; exact hw e he hb
    ·obtain⟨jY,g8,e,he,hb,ky⟩:=Region.waitsFor_spec J
     rw [mU] at g8; cases g8
     have lJ:=hw e he hb
     rw [ky] at lJ
     obtain⟨aP,po,mf,o7⟩:=kO m (by have:=(List.getElem?_eq_some_iff.1 c6).1; omega)
     exact bz m (by omega) x po ak o7 (fun e he hb=>inv.closed m po o7 lJ e he hb) k GQ
 have mH:∀ (aX:Array Bool) (hd:Nat→Hid) (a:Act) (W:World),(∀ i,i < n→aX.getD i true=true)→HeadInv .any ops n aX→
  bs c (g4 (fun i=>aX.getD i false) hd E 0 hs) (gl (fun i=>aX.getD i false) hd 0 hs L) a W→wpAnyIn c.F 9 c.P .any ops Q (ops.size - n) aX a W:=by
  intro aX hd a W oK inv st
  have ar:=Eh inv aL oK
  rw [← ar] at oU
  have tL:(ops.toList.drop n).length=ops.size - n:=by simp
  rw [← tL]
  rw [← tL] at oU
  refine xK (ops.toList.drop n) n aX a W (fun j=>by simp) oU (bI hd a W ?_)
  have CZ:∀ m,m < hs.length→aX.getD (0 + m) false=true:=fun m hm=>by
   have J:=oK m (by omega)
   have ad:m < aX.size:=by rw [inv.size]; omega
   simpa [ad] using J
  rw [Ej (ls':=fun _=>true) CZ,EG (ls':=fun _=>true) CZ] at st
  exact st
 have more:∀ f (aX:Array Bool) a W,wpAnyIn c.F 9 c.P .any ops Q f aX a W→wpAnyIn c.F 9 c.P .any ops Q (f + 1) aX a W:=by
  intro f
  induction f with
  | zero=>intro aX a W h; exact⟨fun _=>h.2,fun i aq=>by rw [h.1] at aq; cases aq⟩
  | succ f zA=>intro aX a W h; exact⟨h.1,fun i aq=>wpOpIn_mono (fun fK ph cV=>zA _ fK ph cV) (h.2 i aq)⟩
 intro m
 induction m with
 | zero=>
   intro aX hd a W hm inv st
   rw [Nat.zero_add]
   refine mH aX hd a W (fun i aq=> ?_) inv st
   cases h:aX.getD i true with
   | true=>rfl
   | false=>
     have:i∈ (List.range n).filter fun i=> !aX.getD i true:=List.mem_filter.2 ⟨List.mem_range.2 aq,by rw [h]; rfl⟩
     rw [List.length_eq_zero_iff.1 (Nat.le_zero.1 hm)] at this
     cases this
 | succ m bz=>
   intro aX hd a W hm inv st
   rw [show m + 1 + (ops.size - n)=(m + (ops.size - n)) + 1 by omega]
   by_cases yS:∀ i,i < n→aX.getD i true=true
   ·have J:=mH aX hd a W yS inv st
    have key:∀ k,wpAnyIn c.F 9 c.P .any ops Q (k + (ops.size - n)) aX a W:=by
     intro k
     induction k with
     | zero=>rw [Nat.zero_add]; exact J
     | succ k zB=>rw [show k + 1 + (ops.size - n)=(k + (ops.size - n)) + 1 by omega]; exact more _ _ _ _ zB
    exact more _ _ _ _ (key m)
   have hex:∃ i,i < n∧aX.getD i true=false:=by
    false_or_by_contra
    rename_i ad
    exact yS fun i aq=>by
     cases h:aX.getD i true with
     | true=>rfl
     | false=>exact absurd ⟨i,aq,h⟩ ad
   have yx:∀ t∈Region.ready .any ops aX,t < n:=by
    intro t o2
    rcases Nat.lt_or_ge t n with h | h
    ·exact h
    ·obtain⟨i,aq,hJ⟩:=hex
     have Mw:n < ops.size∨n=ops.size:=by omega
     have VV:t < ops.size:=by
      obtain⟨_,o,a6,_⟩:=mem_ready.1 o2
      exact(Array.getElem?_eq_some_iff.1 a6).1
     rcases tK with J | J
     ·omega
     ·exact absurd o2 (tail_waits J.1 J.2 (by omega) inv _ i rfl aq hJ t h)
   refine⟨fun bB=> ?_,fun i aq=> ?_⟩
   ·exfalso
    have key:∀ d i,i≤d→i < n→aX.getD i true=true:=by
     intro d
     induction d with
     | zero=>
       intro i uv aq
       cases ar:aX.getD i true with
       | true=>rfl
       | false=>
         obtain⟨h,o,c6,a6⟩:=kO i aq
         have:i∈Region.ready .any ops aX:=mem_ready.2 ⟨ar,o,a6,fun e he hb=>by have:=(oJ i h o c6 a6).2.1 e he hb; omega⟩
         rw [bB] at this; cases this
     | succ d zR=>
       intro i uv aq
       cases ar:aX.getD i true with
       | true=>rfl
       | false=>
         obtain⟨h,o,c6,a6⟩:=kO i aq
         have:i∈Region.ready .any ops aX:=mem_ready.2 ⟨ar,o,a6,fun e he hb=>by
          have J:=(oJ i h o c6 a6).2.1 e he hb
          have ad:=zR e.on (by omega) (by omega)
          have ax:e.on < aX.size:=by rw [inv.size]; omega
          simpa [ax] using ad⟩
         rw [bB] at this; cases this
    obtain⟨i,aq,hJ⟩:=hex
    have:=key i i (Nat.le_refl _) aq
    rw [hJ] at this; cases this
   ·have ec:i < n:=yx i aq
    obtain⟨hJ,o,a6,mx⟩:=mem_ready.1 aq
    obtain⟨h,_,c6,_⟩:=kO i ec
    have jf:aX.getD i false=false:=getD_both hJ
    have oW:i < aX.size:=by rw [inv.size]; omega
    have oV:((List.range n).filter fun j=> !(aX.setIfInBounds i true).getD j true).length≤m:=by
     have:((List.range n).filter fun j=> !(aX.setIfInBounds i true).getD j true).length < ((List.range n).filter fun j=> !aX.getD j true).length:=by
      refine BQ (fun j=> !aX.getD j true) (fun j=> !(aX.setIfInBounds i true).getD j true) i (by simp only [hJ]; rfl) ?_ (fun j aC=> ?_) n ec
      ·simp [oW]
      ·by_cases e:i=j
       ·subst e; simp only [hJ]; rfl
       ·rw [getD_set_ne true e] at aC; exact aC
     omega
    have qL:=inv.set aq ec
    obtain⟨zf,yy,Um,sg⟩:=oJ i h o c6 a6
    have ud:=ny aX inv i i (Nat.le_refl _) h o c6 a6 mx
    have yA:∀ (k:Nat) (x:c4),hs[k]? =some x→i < k→ (∃ j∈x.wr,h.rd.contains j=true∨h.wr.contains j=true)→aX.getD k false=false:=fun k x ak kx aC=>by
     have J:=(sg k x ak).2 kx aC
     cases au:aX.getD k false with
     | false=>rfl
     | true=>
       obtain⟨_,ok,_,gw⟩:=kO k (by have:=(List.getElem?_eq_some_iff.1 ak).1; omega)
       have:=ny aX inv k k (Nat.le_refl _) x ok ak gw (fun e he hb=>inv.closed k ok gw au e he hb) i J
       rw [jf] at this; cases this
    have yB:hs=hs.take i ++ h :: hs.drop (i + 1):=by
     have GR:i < hs.length:=by omega
     rw [List.getElem?_eq_getElem GR] at c6
     cases c6
     rw [List.getElem_cons_drop]
     exact(List.take_append_drop i hs).symm
    have zS:(hs.take i).length=i:=by rw [List.length_take]; omega
    have o5:∀ (t:Nat) (τ:I),look E t=some τ→ ∀ (m:Nat) (x:c4),hs[m]? =some x→aX.getD (0 + m) false=true→x.slot≠some t:=fun t τ ar m x ak q7 ev=>by
     rw [Nat.zero_add] at q7
     have GS:i≠m:=fun e=>by subst e; rw [jf] at q7; cases q7
     obtain⟨_,po,_,o7⟩:=kO m (by have:=(List.getElem?_eq_some_iff.1 ak).1; omega)
     have:=ny aX inv m m (Nat.le_refl _) x po ak o7 (fun e he hb=>inv.closed m po o7 q7 e he hb) i (FQ t τ ar m x ak ev i ec GS)
     rw [jf] at this; cases this
    have yP:=(nR.get b3 i h o c6 (by rw [List.getElem?_take,if_pos ec,Array.getElem?_toList]; exact a6))
    rw [Nat.zero_add] at yP
    have zT:=yP hd (g4 (fun i=>aX.getD i false) hd E 0 hs) (gl (fun i=>aX.getD i false) hd 0 hs L) (fun t τ ar=> ?_) (fun j e aC aQ=> ?_) (BC hw)
    ·have hw:=xO (K:=fun a W=> ∃ x,bs c (mN h.slot (h.τ (fJ h.up i (h7 hd i x))) (g4 (fun i=>aX.getD i false) hd E 0 hs)) (k8 (gl (fun i=>aX.getD i false) hd 0 hs L) (h.fh (fJ h.up i (h7 hd i x))) h.wr) a W) a6 (zT a W st)
     refine wpOpIn_mono (fun fK W' ⟨x,mg⟩=> ?_) hw
     have zU:∀ j,j≠i→h7 hd i x j=hd j:=fun j aC=>by
      have:Nat.beq j i=false:=by
       cases hb:Nat.beq j i
       ·rfl
       ·exact absurd (dX.1 hb) aC
      simp only [h7,this,cond_false]
     have uE:∀ (j:Nat) (y:c4),hs[j]? =some y→aX.getD j false=true→fJ y.up j (h7 hd i x)=fJ y.up j hd:=fun j y a7 aC=>by
      obtain⟨_,jY,_,g8⟩:=kO j (by have:=(List.getElem?_eq_some_iff.1 a7).1; omega)
      refine Jd (zU j fun e=>by subst e; rw [jf] at aC; cases aC) fun k au=>zU k fun e=> ?_
      have:=ny aX inv j j (Nat.le_refl _) y jY a7 g8 (fun e he hb=>inv.closed j jY g8 aC e he hb) k au
      subst e
      rw [jf] at this; cases this
     have uF:(aX.setIfInBounds i true).getD i false=true:=by simp [oW]
     have fC:∀ j,j≠i→ (aX.setIfInBounds i true).getD j false=aX.getD j false:=fun j aC=>getD_set_ne false (fun e=>aC e.symm)
     refine bz _ (h7 hd i x) fK W' oV qL ?_
     have Gi:gl (fun j=>(aX.setIfInBounds i true).getD j false) (h7 hd i x) 0 hs L=k8 (gl (fun i=>aX.getD i false) hd 0 hs L) (h.fh (fJ h.up i (h7 hd i x))) h.wr:=by
      apply List.ext_getElem?
      intro j
      rw [tv,Bs,tv]
      by_cases aC:h.wr.contains j=true
      ·rw [if_pos aC]
       have aE:∀ (ls:Nat→Bool) (g:Nat→Hid) (v:Option aF),(∀ k x,hs[k]? =some x→i < k→x.wr.contains j=true→ls k=false)→jA ls g j 0 hs v=(bif ls i then(jA ls g j 0 (hs.take i) v).map (fun _=>h.fh (fJ h.up i g) j) else jA ls g j 0 (hs.take i) v):=fun ls g v zP=>by
        conv=>lhs; rw [yB]
        rw [xS,zS,Nat.zero_add,jA,aC,Bool.and_true,x1]
        intro k x ak hw
        rw [List.getElem?_drop] at ak
        exact zP (i + 1 + k) x ak (by omega) hw
       have eX:∀ k x,hs[k]? =some x→i < k→x.wr.contains j=true→aX.getD k false=false:=fun k x ak kx hw=>yA k x ak kx ⟨j,by simpa using hw,.inr aC⟩
       rw [aE (fun j=>(aX.setIfInBounds i true).getD j false) (h7 hd i x) _ (fun k x ak kx hw=>by rw [fC k (by omega)]; exact eX k x ak kx hw),aE (fun j=>aX.getD j false) hd _ eX]
       simp only [uF,jf,cond_true,cond_false]
       rw [s8 (ls':=fun j=>aX.getD j false) (hd':=hd) fun q x ak _=>by
        have hq:q < i:=by have:=(List.getElem?_eq_some_iff.1 ak).1; omega
        rw [List.getElem?_take,if_pos hq] at ak
        rw [Nat.zero_add]
        exact⟨fC q (by omega),fun ar=>uE q x ak (by rw [fC q (by omega)] at ar; exact ar)⟩]
      ·rw [if_neg aC]
       refine s8 fun q x ak hw=> ?_
       rw [Nat.zero_add]
       have hq:q≠i:=fun e=>by subst e; rw [c6] at ak; cases ak; exact aC hw
       exact⟨fC q hq,fun ar=>uE q x ak (by rw [fC q hq] at ar; exact ar)⟩
     rw [Gi]
     refine mg.less fun t τ ar=> ?_
     rcases EF ar with⟨j,y,J,ad,ax,aR⟩ | ⟨J,eX⟩
     ·rw [Nat.zero_add] at ad aR
      by_cases hx:j=i
      ·subst hx
       rw [c6] at J
       cases J
       exact⟨τ,by rw [ax,aR]; simp [mN,look,Nat.beq_refl],fun _ _ _ h=>h⟩
      ·rw [fC j hx] at ad
       rw [uE j y J ad] at aR
       have aW:=ya (ls:=fun i=>aX.getD i false) (hd:=hd) (E:=E) (k:=0) J (by rw [Nat.zero_add]; exact ad) ax fun q z hq dg=>tN q j t z y hq J dg ax
       rw [Nat.zero_add,← aR] at aW
       refine⟨τ,?_,fun _ _ _ h=>h⟩
       cases nv:h.slot with
       | none=>exact aW
       | some s=>
         have cQ:Nat.beq s t=false:=by
          cases hb:Nat.beq s t
          ·rfl
          ·have:=dX.1 hb; subst this
           exact absurd (tN j i s y h J c6 ax nv) hx
         simp only [mN,look,cQ,cond_false]
         exact aW
     ·have hb:=o5 t τ J
      have aW:=x2 (ls:=fun i=>aX.getD i false) (hd:=hd) (E:=E) (k:=0) hb
      refine⟨τ,?_,fun _ _ _ h=>h⟩
      cases nv:h.slot with
      | none=>simp only [mN]; rw [aW]; exact J
      | some s=>
        have cQ:Nat.beq s t=false:=by
         cases mb:Nat.beq s t
         ·rfl
         ·have:=dX.1 mb; subst this
          exact absurd nv (eX i h c6 (by rw [Nat.zero_add]; exact uF))
        simp only [mN,look,cQ,cond_false]
        rw [aW]; exact J
    ·rcases E3 ar with⟨j,aC,y,J,ad,ax⟩ | J
     ·have aW:=ya (ls:=fun i=>aX.getD i false) (hd:=hd) (E:=E) (k:=0) J (by rw [Nat.zero_add]; exact ud j aC) ad fun q z hq dg=>tN q j t z y hq J dg ad
      rw [Nat.zero_add,← ax] at aW
      exact aW
     ·rw [x2 (o5 t τ J)]; exact J
    ·rw [tv] at aC ⊢
     rw [← aC]
     conv=>lhs; rw [yB]
     rw [xS,x1]
     ·refine s8 fun q x ak hw=> ?_
      rw [Nat.zero_add]
      have hq:q < i:=by have:=(List.getElem?_eq_some_iff.1 ak).1; omega
      rw [List.getElem?_take,if_pos hq] at ak
      exact⟨ud q ((sg q x ak).1 hq ⟨j,by simpa using hw,aQ⟩),fun _=>rfl⟩
     ·intro q x ak hw
      rw [zS,Nat.zero_add]
      cases q with
      | zero=>exact jf
      | succ q=>
        simp only [List.getElem?_cons_succ] at ak
        rw [List.getElem?_drop] at ak
        exact yA (i + (q + 1)) x (by rw [← ak]; congr 1; omega) (by omega) ⟨j,by simpa using hw,.inl aQ⟩
theorem ai.v8 {nx:Nat} {l:List Oper} (n np:Nat) (hm:c.P.follows .mixedOrders=true) (hs:List c4) (ds:List (Option Nat × List Nat × List Nat × List Nat)) (es:List Nat) (hv:iz hs=ds) (q8:E.map (·.1)=es) (gI:Gv.v8 l.toArray n ds es=true) (hw:(ds.all fun d=>d.2.2.2.all fun j=>Nat.blt j np)=true)
 (b3:nR c l.toArray Q hs E L np 0 (l.take n) hs) (bI:∀ hd,ag c l.toArray Q (l.drop n) (g4 (fun _=>true) hd E 0 hs) (gl (fun _=>true) hd 0 hs L)):ai c Q (.region nx l.toArray true) E L:=fun a W s=>by
 subst hv q8
 have ob:=LP (L:=L) (hs:=hs) rfl hw
 refine wpIn_region_any hm ?_
 have aL:n≤l.toArray.size:=by
  simp only [Gv.v8,Bool.and_eq_true,decide_eq_true_eq] at gI
  exact gI.1.1.1.1.1.2
 have zg:HeadInv .any l.toArray n (Array.replicate l.toArray.size false):=
  {size:=by simp
   closed:=fun j jY _ ar=>by rw [getD_replicate_false] at ar; cases ar
   tail:=fun t _ bI=>by simp at bI; simp [bI] }
 have h:=Qd ob (ops:=l.toArray) (Q:=Q) gI (by simpa using b3) (by simpa using bI) n (Array.replicate l.toArray.size false) (fun _ _=>none) a W.drew (Nat.le_trans (List.length_filter_le _ _) (by simp)) zg ?_
 ·rw [show n + (l.toArray.size - n)=l.toArray.size by omega] at h
  exact h
 have J:∀ (hs:List c4) (k:Nat),g4 (fun i=>(Array.replicate l.toArray.size false).getD i false) (fun _ _=>none) E k hs=E:=by
  intro hs
  induction hs with
  | nil=>intro k; rfl
  | cons h r bz=>
    intro k
    have ad:=bz (k + 1)
    simp only [getD_replicate_false] at ad
    unfold g4
    simp only [getD_replicate_false]
    exact ad
 have ad:∀ (hs:List c4) (k:Nat) (L:List aF),gl (fun i=>(Array.replicate l.toArray.size false).getD i false) (fun _ _=>none) k hs L=L:=by
  intro hs
  induction hs with
  | nil=>intro k L; rfl
  | cons h r bz=>intro k L; rw [gl,bz]; simp only [getD_replicate_false,cond_false]
 rw [J,ad]
 exact s.world (Fr.drew W)
theorem cB.tail {l:List Oper} {f:Nat} {aX:Array Bool} (n:Nat) (a0:(l.drop n).length=f) (hs:Region.seqB .any l.toArray f n aX=true) (h:ag c l.toArray Q (l.drop n) E L):cB c l.toArray Q f aX E L:=fun a W s=>by
 subst a0
 exact xK (l.drop n) n aX a W (fun j=>by simp) hs (h a W s)
theorem ao.ex {α β:Type} {m:ao α} {k:α→ao β} {R:β→Prop} (h:ao.bind m k R):∃ K:α→Prop,m K∧ ∀ r,K r→k r R:=⟨_,h,fun _ h=>h⟩
end
end Gv
namespace Gv
open Go
set_option linter.unusedVariables false
theorem bF.law {P:Program} {f:FuncId} {τs:List I} {bN:Type} [eI bN] {R:Bool × aI bN→Prop} {Lo: {r:Bool × aI bN // R r} × Unit→List aF} (h:bF P f τs ([] ++ aY ([]:aI bN)) (fun d: {r:Bool × aI bN // R r} × Unit=>I.of d.1.1.1) Lo) (iE:∀ r,R r→r.1=true):b9 P f τs (I.of true):=by
 intro A W vs fk a3
 refine(h A W vs (fun k au=>⟨fk k au,by simp [aY,aJ]⟩) (by simp [aY,aJ]) (fun k au=>by simp [aY,aJ] at au) (fun e he=>by simp [aY] at he) (by simpa [aY,aJ] using a3)).mono ?_
 intro e W' ⟨v,d,J,ad,_,_,_,ax⟩
 refine⟨v,J,by simpa [aY,aJ] using ad,?_⟩
 have aR:=iE d.1.1 d.1.2
 rw [of_bool] at ax ⊢
 rw [ax,aR]
end Gv
namespace Gv
open Go
set_option linter.unusedVariables false
def zx (p:Prop) [Decidable p]:Option Unit:=if p then some () else none
theorem ao.Wg {β:Type} {p:Prop} [Decidable p] {k:Unit→ao β} {R:β→Prop} (h:ao.bind (ao.of (zx p)) k R):p:=by
 obtain⟨r,J,_⟩:=h
 unfold zx at J
 split at J
 ·assumption
 ·cases J
theorem ao.Va {β:Type} {p:Prop} [Decidable p] {k:Unit→ao β} {R:β→Prop} (h:ao.bind (ao.of (zx p)) k R):k () R:=by
 obtain⟨r,_,ad⟩:=h
 exact ad
section
variable {c:cT} {E:List (Nat × I)} {L:List aF} {ops:Array Oper} {Q:Exit→Act→World→Prop}
theorem Rf {n:Nat} (aL:n≤ops.size) (Ni:∀ i o,i < n→ops[i]? =some o→ ∀ e∈o.after,Region.binds .any e=true→e.on < i)
 (tK:n=ops.size∨ (Region.sinkB .any ops n=true∧Region.chainB .any ops n=true))
 (oU:Region.seqB .any ops (ops.size - n) n ((List.range n).foldl (fun l i=>l.setIfInBounds i true) (Array.replicate ops.size false))=true)
 (S:Array Bool→Act→World→Prop)
 (qE:∀ (aX:Array Bool) (i:Nat) (o:Oper) (a:Act) (W:World),HeadInv .any ops n aX→i < n→ops[i]? =some o→aX.getD i false=false→ (∀ e∈o.after,Region.binds .any e=true→aX.getD e.on false=true)→S aX a W→
  wpOpIn c.F 9 c.P ops Q i (fun fK W'=>S (aX.setIfInBounds i true) fK W') a W)
 (mO:∀ (aX:Array Bool) (a:Act) (W:World),(∀ i,i < n→aX.getD i false=true)→S aX a W→c.pV ops Q (ops.toList.drop n) a W):
 ∀ m (aX:Array Bool) (a:Act) (W:World),((List.range n).filter fun i=> !aX.getD i true).length≤m→HeadInv .any ops n aX→S aX a W→wpAnyIn c.F 9 c.P .any ops Q (m + (ops.size - n)) aX a W:=by
 have kO:∀ i,i < n→ ∃ o,ops[i]? =some o:=fun i aq=>⟨ops[i],by simp⟩
 have mH:∀ (aX:Array Bool) (a:Act) (W:World),(∀ i,i < n→aX.getD i true=true)→HeadInv .any ops n aX→S aX a W→wpAnyIn c.F 9 c.P .any ops Q (ops.size - n) aX a W:=by
  intro aX a W oK inv st
  have ar:=Eh inv aL oK
  have nv:=oU
  rw [← ar] at nv
  have tL:(ops.toList.drop n).length=ops.size - n:=by simp
  rw [← tL] at nv ⊢
  exact xK (ops.toList.drop n) n aX a W (fun j=>by simp) nv (mO aX a W (fun i aq=>by
   have J:=oK i aq
   have ad:i < aX.size:=by rw [inv.size]; omega
   simpa [ad] using J) st)
 have more:∀ f (aX:Array Bool) a W,wpAnyIn c.F 9 c.P .any ops Q f aX a W→wpAnyIn c.F 9 c.P .any ops Q (f + 1) aX a W:=by
  intro f
  induction f with
  | zero=>intro aX a W h; exact⟨fun _=>h.2,fun i aq=>by rw [h.1] at aq; cases aq⟩
  | succ f zA=>intro aX a W h; exact⟨h.1,fun i aq=>wpOpIn_mono (fun fK ph cV=>zA _ fK ph cV) (h.2 i aq)⟩
 intro m
 induction m with
 | zero=>
   intro aX a W hm inv st
   rw [Nat.zero_add]
   refine mH aX a W (fun i aq=> ?_) inv st
   cases h:aX.getD i true with
   | true=>rfl
   | false=>
     have:i∈ (List.range n).filter fun i=> !aX.getD i true:=List.mem_filter.2 ⟨List.mem_range.2 aq,by rw [h]; rfl⟩
     rw [List.length_eq_zero_iff.1 (Nat.le_zero.1 hm)] at this
     cases this
 | succ m bz=>
   intro aX a W hm inv st
   rw [show m + 1 + (ops.size - n)=(m + (ops.size - n)) + 1 by omega]
   by_cases yS:∀ i,i < n→aX.getD i true=true
   ·have J:=mH aX a W yS inv st
    have key:∀ k,wpAnyIn c.F 9 c.P .any ops Q (k + (ops.size - n)) aX a W:=by
     intro k
     induction k with
     | zero=>rw [Nat.zero_add]; exact J
     | succ k zB=>rw [show k + 1 + (ops.size - n)=(k + (ops.size - n)) + 1 by omega]; exact more _ _ _ _ zB
    exact more _ _ _ _ (key m)
   have hex:∃ i,i < n∧aX.getD i true=false:=by
    false_or_by_contra
    rename_i ad
    exact yS fun i aq=>by
     cases h:aX.getD i true with
     | true=>rfl
     | false=>exact absurd ⟨i,aq,h⟩ ad
   have yx:∀ t∈Region.ready .any ops aX,t < n:=by
    intro t o2
    rcases Nat.lt_or_ge t n with h | h
    ·exact h
    ·obtain⟨i,aq,hJ⟩:=hex
     have VV:t < ops.size:=by
      obtain⟨_,o,a6,_⟩:=mem_ready.1 o2
      exact(Array.getElem?_eq_some_iff.1 a6).1
     rcases tK with J | J
     ·omega
     ·exact absurd o2 (tail_waits J.1 J.2 (by omega) inv _ i rfl aq hJ t h)
   refine⟨fun bB=> ?_,fun i aq=> ?_⟩
   ·exfalso
    have key:∀ d i,i≤d→i < n→aX.getD i true=true:=by
     intro d
     induction d with
     | zero=>
       intro i uv aq
       cases ar:aX.getD i true with
       | true=>rfl
       | false=>
         obtain⟨o,a6⟩:=kO i aq
         have:i∈Region.ready .any ops aX:=mem_ready.2 ⟨ar,o,a6,fun e he hb=>by have:=Ni i o aq a6 e he hb; omega⟩
         rw [bB] at this; cases this
     | succ d zR=>
       intro i uv aq
       cases ar:aX.getD i true with
       | true=>rfl
       | false=>
         obtain⟨o,a6⟩:=kO i aq
         have:i∈Region.ready .any ops aX:=mem_ready.2 ⟨ar,o,a6,fun e he hb=>by
          have J:=Ni i o aq a6 e he hb
          have ad:=zR e.on (by omega) (by omega)
          have ax:e.on < aX.size:=by rw [inv.size]; omega
          simpa [ax] using ad⟩
         rw [bB] at this; cases this
    obtain⟨i,aq,hJ⟩:=hex
    have:=key i i (Nat.le_refl _) aq
    rw [hJ] at this; cases this
   ·have ec:i < n:=yx i aq
    obtain⟨hJ,o,a6,mx⟩:=mem_ready.1 aq
    have oW:i < aX.size:=by rw [inv.size]; omega
    have oV:((List.range n).filter fun j=> !(aX.setIfInBounds i true).getD j true).length≤m:=by
     have:((List.range n).filter fun j=> !(aX.setIfInBounds i true).getD j true).length < ((List.range n).filter fun j=> !aX.getD j true).length:=by
      refine BQ (fun j=> !aX.getD j true) (fun j=> !(aX.setIfInBounds i true).getD j true) i (by simp only [hJ]; rfl) ?_ (fun j aC=> ?_) n ec
      ·simp [oW]
      ·by_cases e:i=j
       ·subst e; simp only [hJ]; rfl
       ·rw [getD_set_ne true e] at aC; exact aC
     omega
    exact wpOpIn_mono (fun fK W' mg=>bz _ fK W' oV (inv.set aq ec) mg) (qE aX i o a W inv ec a6 (getD_both hJ) mx st)
def hg (ls:Nat→Bool) (E:List (Nat × I)):Nat→List (Option (Nat × I))→List (Nat × I)
 | _,[]=>E
 | k,none :: r=>hg ls E (k + 1) r
 | k,some x :: r=>bif ls k then x :: hg ls E (k + 1) r else hg ls E (k + 1) r
def nH (fs:List (Option (Nat × I))) (E:List (Nat × I)):List Nat→List (Nat × I)
 | []=>E
 | i :: r=>match fs[i]? with
   | some (some x)=>x :: nH fs E r
   | _=>nH fs E r
def iq (fs:List (Option (Nat × I))):List Nat:=fs.filterMap fun x=>x.map (·.1)
theorem Fm {ls:Nat→Bool} {E:List (Nat × I)} {t:Nat} {τ:I} :∀ {fs:List (Option (Nat × I))} {k:Nat},look (hg ls E k fs) t=some τ→ (∃ j,ls (k + j)=true∧fs[j]? =some (some (t,τ)))∨look E t=some τ
 | [],k,h=> .inr h
 | none :: r,k,h=>by
   rcases Fm (fs:=r) (k:=k + 1) h with⟨j,J,ad⟩ | J
   ·exact .inl ⟨j + 1,by rw [← J]; congr 1; omega,by simpa using ad⟩
   ·exact .inr J
 | some x :: r,k,h=>by
   have aQ:look (hg ls E (k + 1) r) t=some τ→ (∃ j,ls (k + j)=true∧ (some x :: r)[j]? =some (some (t,τ)))∨look E t=some τ:=fun h=>by
    rcases Fm (fs:=r) (k:=k + 1) h with⟨j,J,ad⟩ | J
    ·exact .inl ⟨j + 1,by rw [← J]; congr 1; omega,by simpa using ad⟩
    ·exact .inr J
   unfold hg at h
   cases au:ls k with
   | false=>rw [au] at h; exact aQ h
   | true=>
     rw [au] at h
     simp only [cond_true,look] at h
     cases hb:Nat.beq x.1 t with
     | true=>
       rw [hb] at h
       have J:x.2=τ:=by simpa using h
       have ad:=dX.1 hb
       exact .inl ⟨0,au,by rw [← J,← ad]; rfl⟩
     | false=>rw [hb] at h; exact aQ h
theorem vI {ls:Nat→Bool} {E:List (Nat × I)} {t:Nat} :∀ {fs:List (Option (Nat × I))} {k:Nat},t ∉ iq fs→look (hg ls E k fs) t=look E t
 | [],k,h=>rfl
 | none :: r,k,h=>vI (fs:=r) (k:=k + 1) h
 | some x :: r,k,h=>by
   have J:t≠x.1∧t ∉ iq r:=by simpa [iq] using h
   unfold hg
   cases au:ls k with
   | false=>exact vI J.2
   | true=>
     have hb:Nat.beq x.1 t=false:=by
      cases hb:Nat.beq x.1 t with
      | false=>rfl
      | true=>exact absurd (dX.1 hb).symm J.1
     simp only [cond_true,look,hb,cond_false]
     exact vI J.2
theorem Bl {fs:List (Option (Nat × I))} {j:Nat} {x:Nat × I} (h:fs[j]? =some (some x)):x.1∈iq fs:=
 List.mem_filterMap.2 ⟨_,List.mem_of_getElem? h,rfl⟩
theorem BR {ls:Nat→Bool} {E:List (Nat × I)} :∀ {fs:List (Option (Nat × I))} {k j:Nat} {x:Nat × I},(iq fs).Nodup→fs[j]? =some (some x)→ls (k + j)=true→look (hg ls E k fs) x.1=some x.2
 | [],k,j,x,_,h,_=>by simp at h
 | none :: r,k,j,x,aL,h,ar=>by
   cases j with
   | zero=>simp at h
   | succ j=>exact BR (fs:=r) (k:=k + 1) (j:=j) aL (by simpa using h) (by rw [← ar]; congr 1; omega)
 | some y :: r,k,j,x,aL,h,ar=>by
   have ln:y.1 ∉ iq r∧ (iq r).Nodup:=by simpa [iq] using aL
   cases j with
   | zero=>
     have:y=x:=by simpa using h
     subst this
     have ar:ls k=true:=ar
     unfold hg
     simp only [ar,cond_true,look,Nat.beq_refl]
   | succ j=>
     have cV:r[j]? =some (some x):=by simpa using h
     have aq:=BR (fs:=r) (k:=k + 1) (E:=E) (ls:=ls) ln.2 cV (by rw [← ar]; congr 1; omega)
     unfold hg
     cases au:ls k with
     | false=>exact aq
     | true=>
       have hb:Nat.beq y.1 x.1=false:=by
        cases hb:Nat.beq y.1 x.1 with
        | false=>rfl
        | true=>exact absurd (by rw [dX.1 hb]; exact Bl cV) ln.1
       simp only [cond_true,look,hb,cond_false]
       exact aq
theorem KO {fs:List (Option (Nat × I))} {E:List (Nat × I)} {t:Nat} {τ:I} :∀ {us:List Nat},look (nH fs E us) t=some τ→ (∃ j∈us,fs[j]? =some (some (t,τ)))∨look E t=some τ
 | [],h=> .inr h
 | i :: r,h=>by
   have aQ:look (nH fs E r) t=some τ→ (∃ j∈i :: r,fs[j]? =some (some (t,τ)))∨look E t=some τ:=fun h=>by
    rcases KO h with⟨j,J,ad⟩ | J
    ·exact .inl ⟨j,List.mem_cons_of_mem _ J,ad⟩
    ·exact .inr J
   unfold nH at h
   split at h
   ·rename_i x ak
    simp only [look] at h
    cases hb:Nat.beq x.1 t with
    | true=>
      rw [hb] at h
      have J:x.2=τ:=by simpa using h
      have ad:=dX.1 hb
      exact .inl ⟨i,by simp,by rw [ak,← J,← ad]⟩
    | false=>rw [hb] at h; exact aQ h
   ·exact aQ h
theorem Ur {fs:List (Option (Nat × I))} {E:List (Nat × I)} {ls:Nat→Bool} {us:List Nat} (aL:(iq fs).Nodup) (aw:∀ t∈iq fs,look E t=none) (hu:∀ j∈us,ls j=true) {t:Nat} {τ:I} (h:look (nH fs E us) t=some τ):look (hg ls E 0 fs) t=some τ:=by
 rcases KO h with⟨j,J,ad⟩ | J
 ·exact BR aL ad (by rw [Nat.zero_add]; exact hu j J)
 ·rw [vI fun ad=>by rw [aw t ad] at J; cases J]; exact J
theorem Jy:∀ {E:List (Nat × I)} {t:Nat},(E.map (·.1)).contains t=false→look E t=none
 | [],t,_=>rfl
 | (s,σ) :: r,t,h=>by
   have J: ¬ t=s∧ (r.map (·.1)).contains t=false:=by simpa using h
   have hb:Nat.beq s t=false:=by
    cases hb:Nat.beq s t with
    | false=>rfl
    | true=>exact absurd (dX.1 hb).symm J.1
   simp only [look,hb,cond_false]
   exact Jy J.2
def KP (ops:Array Oper) (n w lR wU:Nat) (fU:List (Option Nat)) (oh:List (List Nat)) (E:List Nat):Bool:=
 decide (fU.length=n) && decide (n≤ops.size) && decide (w < n) && decide (lR :: fU.filterMap id).Nodup && ((lR :: fU.filterMap id).all fun s=> !E.contains s && Nat.blt s wU) &&
 ((List.range n).all fun i=>((ops[i]?).map fun o=>(o.dst ==if i=w then some lR else(fU[i]?).getD none) && o.guard.isNone && (decide (i=w) || ((fU[i]?).getD none).isSome) && o.after.all fun e=> !Region.binds .any e || decide (e.on < i)).getD false &&
   ((oh[i]?).getD []).all fun k=>decide (k≠w) && Region.waitsFor .any ops i k) &&
 decide ((fU[w]?).getD none=none) &&
 (decide (n=ops.size) || (Region.sinkB .any ops n && Region.chainB .any ops n)) &&
 Region.seqB .any ops (ops.size - n) n ((List.range n).foldl (fun l i=>l.setIfInBounds i true) (Array.replicate ops.size false))
def qu (c:cT) (E:List (Nat × I)) (L:List aF) {γ:Type} (K:γ→Prop) (gx:γ→List aF) (fs:List (Option (Nat × I))):List Oper→List (Option (Nat × I))→List (List Nat)→Prop
 | o :: os,some x :: r,u :: us=>(bO c (nH fs E u) L o x.2∧ ∀ y,K y→bO c (nH fs E u) (gx y) o x.2)∧qu c E L K gx fs os r us
 | _ :: os,none :: r,_ :: us=>qu c E L K gx fs os r us
 | _,_,_=>True
theorem qu.get {γ:Type} {K:γ→Prop} {gx:γ→List aF} {fs:List (Option (Nat × I))} :∀ {os:List Oper} {rs:List (Option (Nat × I))} {us:List (List Nat)},qu c E L K gx fs os rs us→ ∀ {i:Nat} {o:Oper} {x:Nat × I} {u:List Nat},os[i]? =some o→rs[i]? =some (some x)→us[i]? =some u→
 bO c (nH fs E u) L o x.2∧ ∀ y,K y→bO c (nH fs E u) (gx y) o x.2
 | o :: os,some x :: r,u :: us,h,0,o',Dl,Dm,J,ad,ax=>by
   have aE:o=o':=by simpa using J
   have bd:x=Dl:=by simpa using ad
   have ej:u=Dm:=by simpa using ax
   subst aE bd ej
   exact h.1
 | o :: os,some x :: r,u :: us,h,i + 1,o',Dl,Dm,J,ad,ax=>qu.get h.2 (i:=i) (by simpa using J) (by simpa using ad) (by simpa using ax)
 | o :: os,none :: r,u :: us,h,0,o',Dl,Dm,J,ad,ax=>by simp at ad
 | o :: os,none :: r,u :: us,h,i + 1,o',Dl,Dm,J,ad,ax=>by
   have h:qu c E L K gx fs os r us:=h
   exact qu.get h (i:=i) (by simpa using J) (by simpa using ad) (by simpa using ax)
 | [],_,_,_,i,_,_,_,J,_,_=>by simp at J
 | _ :: _,[],_,_,i,_,_,_,_,ad,_=>by simp at ad
 | _ :: _,_ :: _,[],_,i,_,_,_,_,_,ax=>by simp at ax
theorem Ks {nx:Nat} {l:List Oper} (hm:c.P.follows .mixedOrders=true) (n w lR wU:Nat) {γ:Type} {K:γ→Prop} (fs:List (Option (Nat × I))) (fU:List (Option Nat)) (oh:List (List Nat)) (es:List Nat) (C0:γ→I) (gx:γ→List aF)
 {sF:Oper} {HP:List Nat} (WZ:l[w]? =some sF) (W0:oh[w]? =some HP) (G7:c.n=wU) (W1:(fs.map fun x=>x.map (·.1))=fU) (Yj:oh.length=n) (q8:E.map (·.1)=es) (gI:KP l.toArray n w lR wU fU oh es=true)
 (b3:qu c E L K gx fs (l.take n) fs oh)
 (hw:∀ (rk:Exit→Act→World→Prop) (E':List (Nat × I)),(∀ {t τ},look (nH fs E HP) t=some τ→look E' t=some τ)→ (∀ y,K y→ah c rk .normal ((lR,C0 y) :: E') (gx y))→ag c l.toArray rk [sF] E' L)
 (bI:∀ y,K y→ag c l.toArray Q (l.drop n) ((lR,C0 y) :: hg (fun _=>true) E 0 fs) (gx y)):ai c Q (.region nx l.toArray true) E L:=fun a W s=>by
 subst G7 W1 q8
 refine wpIn_region_any hm ?_
 simp only [KP,Bool.and_eq_true,decide_eq_true_eq,Bool.or_eq_true] at gI
 obtain⟨⟨⟨⟨⟨⟨⟨⟨hlen,aL⟩,W2⟩,fB⟩,Nj⟩,jN⟩,G8⟩,tK⟩,oU⟩:=gI
 have hlen:fs.length=n:=by simpa using hlen
 have W3:(fs.map fun x=>x.map (·.1)).filterMap id=iq fs:=by
  unfold iq; rw [List.filterMap_map]; rfl
 rw [W3] at fB Nj
 obtain⟨Nk,fB⟩:=List.nodup_cons.1 fB
 have W4:∀ t,(E.map (·.1)).contains t=false→look E t=none:=fun t h=>Jy h
 have aw:∀ t∈lR :: iq fs,look E t=none∧Nat.blt t c.n=true:=fun t bI=>by
  have:=List.all_eq_true.1 Nj t bI
  simp only [Bool.and_eq_true,Bool.not_eq_true'] at this
  exact⟨W4 t this.1,this.2⟩
 have G9:∀ t∈iq fs,look E t=none:=fun t bI=>(aw t (List.mem_cons_of_mem _ bI)).1
 have qZ:∀ i o,i < n→l.toArray[i]? =some o→ (o.dst=if i=w then some lR else((fs[i]?).getD none).map (·.1))∧o.guard=none∧ (i=w∨ ∃ x,fs[i]? =some (some x))∧ (∀ e∈o.after,Region.binds .any e=true→e.on < i)∧ ∀ k∈ (oh[i]?).getD [],k≠w∧Region.waitsFor .any l.toArray i k=true:=fun i o aq a6=>by
  have J:=List.all_eq_true.1 jN i (List.mem_range.2 aq)
  simp only [Bool.and_eq_true] at J
  obtain⟨ad,ax⟩:=J
  simp only [a6,Option.map_some,Option.getD_some,Bool.and_eq_true,beq_iff_eq] at ad
  obtain⟨⟨⟨aR,aW⟩,bc⟩,cn⟩:=ad
  have C1:((fs.map fun x=>x.map (·.1))[i]?).getD none=((fs[i]?).getD none).map (·.1):=by
   rw [List.getElem?_map]
   cases fs[i]? with
   | none=>rfl
   | some x=>rfl
  rw [C1] at aR bc
  refine⟨aR,by simpa using aW,?_,fun e he hb=> ?_,fun k au=> ?_⟩
  ·simp only [Bool.or_eq_true,decide_eq_true_eq] at bc
   rcases bc with bc | bc
   ·exact .inl bc
   ·right
    cases ak:fs[i]? with
    | none=>rw [ak] at bc; cases bc
    | some x=>
      cases x with
      | none=>rw [ak] at bc; cases bc
      | some x=>exact⟨x,rfl⟩
  ·have:=Array.all_eq_true_iff_forall_mem.1 cn e he
   simp [hb] at this
   exact this
  ·have:=List.all_eq_true.1 ax k au
   simpa using this
 have VW:fs[w]? =some none:=by
  have J:((fs.map fun x=>x.map (·.1))[w]?).getD none=none:=G8
  rw [List.getElem?_map] at J
  cases ak:fs[w]? with
  | none=>have:=List.getElem?_eq_none_iff.1 ak; omega
  | some x=>
    cases x with
    | none=>rfl
    | some x=>rw [ak] at J; cases J
 let S:Array Bool→Act→World→Prop:=fun aX a W=>(aX.getD w false=false→bs c (hg (fun i=>aX.getD i false) E 0 fs) L a W)∧ (aX.getD w false=true→ ∃ y,K y∧bs c ((lR,C0 y) :: hg (fun i=>aX.getD i false) E 0 fs) (gx y) a W)
 have h:=Rf (c:=c) (ops:=l.toArray) (Q:=Q) aL (fun i o aq a6=>(qZ i o aq a6).2.2.2.1) tK oU S ?_ ?_ n (Array.replicate l.toArray.size false) a W.drew (Nat.le_trans (List.length_filter_le _ _) (by simp)) ?_ ?_
 ·rw [show n + (l.toArray.size - n)=l.toArray.size by omega] at h
  exact h
 ·
  intro aX i o a W inv aq a6 hJ mx uU
  obtain⟨bS,bT,lP,Dd,pg⟩:=qZ i o aq a6
  have oW:i < aX.size:=by rw [inv.size]; omega
  have uF:(aX.setIfInBounds i true).getD i false=true:=by simp [oW]
  have fC:∀ j,j≠i→ (aX.setIfInBounds i true).getD j false=aX.getD j false:=fun j aC=>getD_set_ne false (fun e=>aC e.symm)
  have Ha:i < oh.length:=by omega
  have ud:∀ k∈oh[i],aX.getD k false=true:=fun k au=>by
   have:=pg k (by rw [List.getElem?_eq_getElem Ha]; exact au)
   obtain⟨jY,g8,e,he,hb,ky⟩:=Region.waitsFor_spec this.2
   rw [a6] at g8; cases g8
   rw [← ky]; exact mx e he hb
  have Nl:l[i]? =some o:=by simpa using a6
  have Gl:∀ {t τ},look (nH fs E oh[i]) t=some τ→look (hg (fun i=>aX.getD i false) E 0 fs) t=some τ:=fun {t τ} h=>Ur fB G9 ud h
  by_cases C2:i=w
  ·subst C2
   rw [if_pos rfl] at bS
   have aE:sF=o:=Option.some.inj (WZ.symm.trans Nl)
   have bd:HP=oh[i]:=Option.some.inj (W0.symm.trans (List.getElem?_eq_getElem Ha))
   subst aE bd
   have zT:=hw (pn (fun fK W'=>S (aX.setIfInBounds i true) fK W') Q) (hg (fun i=>aX.getD i false) E 0 fs) Gl fun y a7 fK W' st=> ?_
   ·exact xO a6 (zT a W (uU.1 hJ))
   ·refine⟨fun h=>(by rw [uF] at h; cases h),fun _=>⟨y,a7,?_⟩⟩
    have:hg (fun j=>(aX.setIfInBounds i true).getD j false) E 0 fs=hg (fun j=>aX.getD j false) E 0 fs:=by
     have key:∀ (gs:List (Option (Nat × I))) (k:Nat),(∀ j,gs[j]? ≠none→gs[j]? =fs[k + j]?)→hg (fun j=>(aX.setIfInBounds i true).getD j false) E k gs=hg (fun j=>aX.getD j false) E k gs:=by
      intro gs
      induction gs with
      | nil=>intro k _; rfl
      | cons x r bz=>
        intro k au
        have aQ:=bz (k + 1) fun j aC=>by
         have:=au (j + 1) (by simpa using aC)
         rw [List.getElem?_cons_succ] at this
         rw [this]; congr 1; omega
        cases x with
        | none=>exact aQ
        | some x=>
          have bB:=au 0 (by simp)
          have od:k≠i:=fun e=>by
           rw [e,Nat.add_zero,VW] at bB
           simp at bB
          unfold hg
          simp only [fC k od,aQ]
     exact key fs 0 fun j _=>by rw [Nat.zero_add]
    rw [this]; exact st
  ·obtain⟨x,ak⟩:=lP.resolve_left C2
   rw [if_neg C2,ak] at bS
   have CP:(aX.setIfInBounds i true).getD w false=aX.getD w false:=fC w fun e=>C2 e.symm
   have bx:=qu.get b3 (i:=i) (by rw [List.getElem?_take,if_pos aq]; exact Nl) ak (List.getElem?_eq_getElem Ha)
   have Hb:=Bl ak
   have X6:∀ (iD:List (Nat × I)),(∀ t τ,look ((x.1,x.2) :: iD) t=some τ→True):=fun _ _ _ _=>trivial
   have LW:∀ t τ,look (hg (fun j=>(aX.setIfInBounds i true).getD j false) E 0 fs) t=some τ→look ((x.1,x.2) :: hg (fun j=>aX.getD j false) E 0 fs) t=some τ:=fun t τ ar=>by
    rcases Fm ar with⟨j,HQ,Dn⟩ | J
    ·rw [Nat.zero_add] at HQ
     by_cases hx:j=i
     ·subst hx
      rw [ak] at Dn; cases Dn
      simp only [look,Nat.beq_refl,cond_true]
     ·rw [fC j hx] at HQ
      have ad:=BR (E:=E) (ls:=fun j=>aX.getD j false) (k:=0) fB Dn (by rw [Nat.zero_add]; exact HQ)
      cases hb:Nat.beq x.1 t with
      | false=>simp only [look,hb,cond_false]; exact ad
      | true=>
        exfalso
        have aE:=dX.1 hb
        have uniq:∀ (gs:List (Option (Nat × I))) (p q:Nat) (u v:Nat × I),(iq gs).Nodup→gs[p]? =some (some u)→gs[q]? =some (some v)→u.1=v.1→p=q:=by
         intro gs
         induction gs with
         | nil=>intro p q u v _ hp; simp at hp
         | cons z r bz=>
           intro p q u v aL hp hq e
           have aQ:(iq r).Nodup:=by
            cases z with
            | none=>exact aL
            | some z=>exact(show z.1 ∉ iq r∧ (iq r).Nodup by simpa [iq] using aL).2
           cases p with
           | zero=>
             have dg:z=some u:=by simpa using hp
             subst dg
             cases q with
             | zero=>rfl
             | succ q=>exact absurd (by rw [e]; exact Bl (by simpa using hq)) (show u.1 ∉ iq r∧ (iq r).Nodup by simpa [iq] using aL).1
           | succ p=>
             cases q with
             | zero=>
               have dg:z=some v:=by simpa using hq
               subst dg
               exact absurd (by rw [← e]; exact Bl (by simpa using hp)) (show v.1 ∉ iq r∧ (iq r).Nodup by simpa [iq] using aL).1
             | succ q=>rw [bz p q u v aQ (by simpa using hp) (by simpa using hq) e]
        exact hx (uniq fs j i _ _ fB Dn ak aE.symm)
    ·have hb:Nat.beq x.1 t=false:=by
      cases hb:Nat.beq x.1 t with
      | false=>rfl
      | true=>
        have aE:=dX.1 hb
        rw [← aE,G9 x.1 Hb] at J; cases J
     simp only [look,hb,cond_false]
     rw [vI fun ad=>by rw [G9 t ad] at J; cases J]; exact J
   have o5:=(aw x.1 (List.mem_cons_of_mem _ Hb)).2
   refine xO a6 ?_
   cases C3:aX.getD w false with
   | false=>
     refine ag.v (τ:=x.2) (d:=x.1) (fun a W st=>bx.1 a W (st.less fun t τ h=>⟨τ,Gl h,fun _ _ _ h=>h⟩)) bT bS o5 (ag.nil fun fK W' st=>⟨fun _=>st.less fun t τ h=>⟨τ,LW t τ h,fun _ _ _ h=>h⟩,fun h=> ?_⟩) a W (uU.1 C3)
     rw [CP,C3] at h; cases h
   | true=>
     obtain⟨y,a7,W5⟩:=uU.2 C3
     have W6:∀ {t τ},look (nH fs E oh[i]) t=some τ→look ((lR,C0 y) :: hg (fun i=>aX.getD i false) E 0 fs) t=some τ:=fun {t τ} h=>by
      have J:=Gl h
      cases hb:Nat.beq lR t with
      | false=>simp only [look,hb,cond_false]; exact J
      | true=>
        exfalso
        have aE:=dX.1 hb
        subst aE
        rw [vI Nk,(aw lR (by simp)).1] at J; cases J
     refine ag.v (τ:=x.2) (d:=x.1) (fun a W st=>bx.2 y a7 a W (st.less fun t τ h=>⟨τ,W6 h,fun _ _ _ h=>h⟩)) bT bS o5 (ag.nil fun fK W' st=>⟨fun h=> ?_,fun _=>⟨y,a7,st.less fun t τ h=>⟨τ,?_,fun _ _ _ h=>h⟩⟩⟩) a W W5
     ·rw [CP,C3] at h; cases h
     ·cases hb:Nat.beq lR t with
      | true=>
        have aE:=dX.1 hb
        subst aE
        have mb:Nat.beq x.1 lR=false:=by
         cases mb:Nat.beq x.1 lR with
         | false=>rfl
         | true=>exact absurd (by rw [← dX.1 mb]; exact Hb) Nk
        simp only [look,hb,cond_true] at h ⊢
        simp only [mb,cond_false]; exact h
      | false=>
        simp only [look,hb,cond_false] at h ⊢
        have:=LW t τ h
        simp only [look] at this
        exact this
 ·intro aX a W oK uU
  obtain⟨y,a7,st⟩:=uU.2 (oK w W2)
  refine bI y a7 a W (st.less fun t τ h=>⟨τ,?_,fun _ _ _ h=>h⟩)
  have key:∀ (gs:List (Option (Nat × I))) (k:Nat),k + gs.length≤n→hg (fun j=>aX.getD j false) E k gs=hg (fun _=>true) E k gs:=by
   intro gs
   induction gs with
   | nil=>intro k _; rfl
   | cons x r bz=>
     intro k au
     have aQ:=bz (k + 1) (by simp only [List.length_cons] at au; omega)
     cases x with
     | none=>exact aQ
     | some x=>
       unfold hg
       simp only [oK k (by simp only [List.length_cons] at au; omega),aQ]
  rw [key fs 0 (by omega)]; exact h
 ·exact
  {size:=by simp
   closed:=fun j jY _ ar=>by rw [getD_replicate_false] at ar; cases ar
   tail:=fun t _ bI=>by simp at bI; simp [bI] }
 ·refine⟨fun _=> ?_,fun h=>by rw [getD_replicate_false] at h; cases h⟩
  have key:∀ (gs:List (Option (Nat × I))) (k:Nat),hg (fun j=>(Array.replicate l.toArray.size false).getD j false) E k gs=E:=by
   intro gs
   induction gs with
   | nil=>intro k; rfl
   | cons x r bz=>
     intro k
     have aQ:=bz (k + 1)
     cases x with
     | none=>exact aQ
     | some x=>
       unfold hg
       simp only [getD_replicate_false,cond_false] at aQ ⊢
       exact aQ
  show bs c (hg (fun j=>(Array.replicate l.toArray.size false).getD j false) E 0 fs) L a W.drew
  rw [key]
  exact s.world (Fr.drew W)
end
end Gv
