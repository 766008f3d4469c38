/-
  The library of the decompiler, as far as it is needed here. Conditions: none.
-/
import Derived.Test.YtmnggbjcnoffeaaGreatMl1
namespace Gv
open Go
set_option linter.unusedVariables false
set_option linter.unusedSimpArgs false
def D2 (P:Program) (u:Value) {α σ ε γ:Type} (τ:α→I) (Ls:σ→γ→List aO) (Lx:ε→γ→List aO) (step:α→σ→aM (σ ⊕ ε)) (ZZ:List Nat→World→Prop):Prop:=
 ∃ l,u= .func (.yield l) #[] #[]∧ ∀ x s R,step x s R→ ∀ g A W v,ZZ (aP (Ls s g) ++ A) W→w1 A W (Ls s g)→ (τ x).holds (aP (Ls s g) ++ A) W v→
   YieldAt Fence.wide 8 P l #[v] W (fun e W'=>(∃ ca,R (.inl ca)∧jD (aP (Ls s g)) A W (fun _:γ=>I.of true) (fun g=>Ls ca g) e W')∨ ∃ q,R (.inr q)∧jD (aP (Ls s g)) A W (fun _:γ=>I.of false) (fun g=>Lx q g) e W')
structure zk (P:Program) (f:FuncId) (τs:List I) {b9:Type} [fx b9] {α:Type} (τ:α→I) (run:∀ {σ ε:Type},(σ→a9 b9)→ (α→σ→aM (σ ⊕ ε))→σ→aM (σ ⊕ ε)):Prop where
 go:∀ {σ ε γ:Type} (Ls:σ→γ→List aO) (Lx:ε→γ→List aO) (hq:σ→a9 b9) (jw:σ→γ→List aO),(∀ s g,Ls s g=jw s g ++ ba (hq s))→ ∀ (step:α→σ→aM (σ ⊕ ε)) (cd:σ) (g0:γ) (R:σ ⊕ ε→Prop),run hq step cd R→
  ∀ (A:List Nat) (W:World) (u:Value) (vs:List Value),w1 A W (Ls cd g0)→gq (aP (Ls cd g0) ++ A) W τs vs→
    D2 P u τ Ls Lx step (fun c7 W'=>Ext (aP (Ls cd g0) ++ A) W c7 W')→
    Calls P f (u :: vs).toArray W (jD (aP (Ls cd g0)) A W (δ:= {r // R r} × γ) (fun _=> .cN []) (fun d=>Lr Ls Lx d.1.1 d.2))
theorem zk.of {P:Program} {f:FuncId} {fn:Func} {code:Code} {n:Nat} {τs:List I} {b9:Type} [fx b9] {α:Type} {τ:α→I} {run:∀ {σ ε:Type},(σ→a9 b9)→ (α→σ→aM (σ ⊕ ε))→σ→aM (σ ⊕ ε)}
 (a8:P.funcs[f]? =some fn) (hb:fn.body=some code) (aR:fn.ntmps=n) (hlen:Nat.ble (τs.length + 1) n=true)
 (h:∀ {σ ε γ:Type} (Ls:σ→γ→List aO) (Lx:ε→γ→List aO) (hq:σ→a9 b9) (jw:σ→γ→List aO),(∀ s g,Ls s g=jw s g ++ ba (hq s))→ ∀ (step:α→σ→aM (σ ⊕ ε)) (cd:σ) (g0:γ) (R:σ ⊕ ε→Prop),run hq step cd R→
  ∀ W A u,D2 P u τ Ls Lx step (fun c7 W'=>Ext (aP (Ls cd g0) ++ A) W c7 W')→
    ah ⟨P,n,W,aP (Ls cd g0),A,none,[]⟩ (bodyPost P fn (jD (aP (Ls cd g0)) A W (δ:= {r // R r} × γ) (fun _=> .cN []) (fun d=>Lr Ls Lx d.1.1 d.2))) code (params 0 (.eq u :: τs)) (Ls cd g0)):zk P f τs τ run:=by
 refine⟨?_⟩
 intro σ ε γ Ls Lx hq jw mL step cd g0 R aQ A W u vs ao aX a6
 refine calls_of_wp a8 hb (wpIn_wide.1 (h Ls Lx hq jw mL step cd g0 R aQ W A u a6 _ _ ?_))
 have ml:gq (aP (Ls cd g0) ++ A) W (.eq u :: τs) (u :: vs):= .cons rfl aX
 have ld:=ml.length
 have hle:τs.length + 1≤n:=Nat.le_of_ble_eq_true hlen
 exact
 {defers:=rfl
  size:=by simp at ld; simp [aR,ld]; omega
  env:=fun t τ ej=>by
   obtain⟨_,v,ae,aD⟩:=tE ml 0 t τ ej
   refine⟨v,?_,aD⟩
   have cw:t < (u :: vs).length:=(List.getElem?_eq_some_iff.1 ae).1
   rw [Array.getElem?_append_left (by simpa using cw)]
   simpa using ae
  dD:= .refl _ _
  own:=ao.ok
  nodup:=ao.nodup
  lt:=ao.lt
  fY:=fun k av _=>av
  eU:=ao.eU }
section
variable {c:dh} {E:List (Nat × I)} {L:List aO} {ops:Array Oper} {Q:Exit→Act→World→Prop}
variable {d:Option Tmp} {ty:TypeId} {pos:String} {af:Array Edge} {g:Option (Nat × Bool)} {x y:Operand} {t t2:TypeId}
theorem Nr {b9:Type} [fx b9] {σ γ:Type} {Ls jw:σ→γ→List aO} {hq:σ→a9 b9} {s:σ} {g:γ} {p:Nat} {k:b9} {e:aO} (n:Nat) (au:L.drop n=Ls s g) (mL:∀ s g,Ls s g=jw s g ++ ba (hq s)) (h:pat (hq s) p=some k) (av:fx.im p k= [e]):e∈L:=by
 obtain⟨R,aa,_⟩:=vT h
 rw [av] at aa
 have:e∈L.drop n:=by rw [au,mL]; exact List.mem_append.2 (.inr (aa.mem_iff.2 (by simp)))
 exact List.mem_of_mem_drop this
theorem aj.Ux {rest:List Oper} {bb kD:Nat} {ats:Array TypeId} {u:Value} {α σ ε γ:Type} {τ:α→I} {Ls:σ→γ→List aO} {Lx:ε→γ→List aO} {step:α→σ→aM (σ ⊕ ε)} {Lin:List aO} {x:Operand} {v:α} {s:σ} {gg:γ} {R:σ ⊕ ε→Prop}
 (ar:c.rd=none) (a6:D2 c.P u τ Ls Lx step (fun c7 W'=>Ext (c.X ++ c.b5) c.iw c7 W')) (a8:look E kD=some (.eq u)) (aq:bc c E (Lin ++ Ls s gg) x (τ v)) (aQ:step v s R) (aR:Nat.blt bb c.n=true)
 (aZ:∀ ca,R (.inl ca)→ ∀ fw,aj c ops Q rest ((bb,.of true) :: E) (Lin ++ Ls ca fw)) (b0:∀ q,R (.inr q)→ ∀ fw,aj c ops Q rest ((bb,.of false) :: E) (Lin ++ Lx q fw)):
 aj c ops Q (⟨some bb,.call ⟨.value (.tmp kD),#[x],ats⟩,ty,pos,af,none⟩ :: rest) E (Lin ++ Ls s gg):=fun a W st=>by
 obtain⟨l,rfl,a6⟩:=a6
 obtain⟨JA,aa,ae⟩:=st.env kD _ a8
 have hu:JA= .func (.yield l) #[] #[]:=ae
 subst hu
 have px:bS c E (Ls s gg ++ Lin) a W:=st.perm List.perm_append_comm
 have aX:=aq a W st
 have ml:(τ v).holds (aP (Ls s gg) ++ (aP Lin ++ c.b5)) W (a.eval x):=(τ v).mono (.drop fun k hm=>by
  rw [e6]
  simp only [List.mem_append] at hm ⊢
  rcases hm with hm | hm | hm
  ·exact .inl (.inr hm)
  ·exact .inl (.inl hm)
  ·exact .inr hm) aX
 obtain⟨fn,tmps,assign,body,kK,iT⟩:=a6 v s R aQ gg (aP Lin ++ c.b5) W (a.eval x) (px.NU.trans za) px.D1 ml
 have Ho:(execOp a.eval ⟨some bb,.call ⟨.value (.tmp kD),#[x],ats⟩,ty,pos,af,none⟩).run c.P W= .ok (.round l fn tmps assign body) W:=by
  rw [← kK]
  simp [execOp,resolve,Deferred.ofValue,Act.eval,aa,invoke,Sem.run_bind,Sem.run_pure,Result.andThen]
 refine wpListIn_plain rfl fun K tf=> ?_
 refine⟨fun _ _=>trivial,?_⟩
 rw [Oper.semAt_eq _ _ _ (fun _ h=>by cases h),Ho,Oper.uponIn_round]
 refine⟨fun h=>by simp at h,?_⟩
 have IK:RoundIn c.F (9 - 1) c.P l fn tmps assign body W _:=iT
 refine IK.mono fun e W' he=> ?_
 rcases he with⟨ca,hs,w,fw,rfl,pz,aD,aV,a1,bo⟩ | ⟨q,hs,w,fw,rfl,pz,aD,aV,a1,bo⟩
 ·obtain rfl:=of_bool.1 bo
  refine tf _ _ (aZ ca hs fw _ _ ?_)
  exact(((px.after pz aD aV a1).perm List.perm_append_comm).put (by simpa using aR) (of_bool.2 rfl))
 ·obtain rfl:=of_bool.1 bo
  refine tf _ _ (b0 q hs fw _ _ ?_)
  exact(((px.after pz aD aV a1).perm List.perm_append_comm).put (by simpa using aR) (of_bool.2 rfl))
def Pa {σ ε γ:Type} (c:dh) (eZ:ε→Code) (l D:Nat) (rec:Loop) (Ls:σ→γ→List aO) (Lx:ε→γ→List aO) (R:σ ⊕ ε→Prop):Exit→Act→World→Prop:=fun x a W=>
 (∃ ca,R (.inl ca)∧x= .normal∧ ∃ g,bS c [] (⟨some l,.is (.loop rec)⟩ :: ⟨some D,.dn⟩ :: Ls ca g) a W)∨
 ∃ q,R (.inr q)∧ub (eZ q)=true∧x=zz (eZ q)∧ ∃ g,bS c [] (⟨some l,.is (.loop rec)⟩ :: ⟨some D,.dn⟩ :: Lx q g) a W
theorem ad.XF {σ ε γ:Type} {eZ:ε→Code} {l D:Nat} {rec:Loop} {Ls:σ→γ→List aO} {Lx:ε→γ→List aO} {R:σ ⊕ ε→Prop} {ca:σ} (iT:R (.inl ca)) (g:γ) (n:Nat) (au:L.drop n=⟨some l,.is (.loop rec)⟩ :: ⟨some D,.dn⟩ :: Ls ca g):
 ad c (Pa c eZ l D rec Ls Lx R) .normal E L:=fun a W s=> .inl ⟨ca,iT,rfl,g,by rw [← au]; exact(s.nX n).less (fun t τ h=>by simp [look] at h)⟩
theorem Sp {gt p:Nat} {assign body:Code} {f:FuncId} {mb:List I} {b9:Type} [fx b9] {α σ ε γ ρ:Type} {τ:α→I} {run:∀ {σ ε:Type},(σ→a9 b9)→ (α→σ→aM (σ ⊕ ε))→σ→aM (σ ⊕ ε)}
 {Ls:σ→γ→List aO} {Lx:ε→γ→List aO} {hq:σ→a9 b9} {step:α→σ→aM (σ ⊕ ε)} {cd:σ} {g0:γ} {k:σ ⊕ ε→aM ρ} {mU:ρ→Prop} (jw:σ→γ→List aO) (eZ:ε→Code)
 (ar:c.rd=none) (ea:bT c.P f) (bP:look E gt=some (.gW f mb)) (kA:zk c.P f mb τ run) (aQ:aM.bind (run hq step cd) k mU) (mL:∀ s g,Ls s g=jw s g ++ ba (hq s)) (au:L=Ls cd g0) (hp:Nat.blt p c.n=true)
 (ot:∀ x s R,step x s R→ ∀ g (kr:World) (kz ks:List Nat) (l D:Nat) (rec:Loop),rec.state= .ready→
  ah ⟨c.P,c.n,kr,kz,ks,some l,[]⟩ (Exit.then (BF ⟨c.P,c.n,kr,kz,ks,some l,[]⟩ l body (Pa ⟨c.P,c.n,kr,kz,ks,some l,[]⟩ eZ l D { rec with state:= .busy } Ls Lx R)) (fun _ _ _=>False)) assign ((p,τ x) :: E) (⟨some l,.is (.loop rec)⟩ :: ⟨some D,.dn⟩ :: Ls s g))
 (p5:∀ ca,k (.inl ca) mU→ ∀ g D,ad { c with ds:=D :: c.ds } Q .normal E (⟨some D,.dn⟩ :: Ls ca g))
 (um:∀ q,k (.inr q) mU→ ∀ g D,ah { c with ds:=D :: c.ds } Q (eZ q) E (⟨some D,.dn⟩ :: Lx q g)):
 ah c Q (.rangeFunc (.tmp gt) #[p] assign body) E L:=fun a W st=>by
 subst au
 refine wpIn_rangeFunc fun fn Zc=> ?_
 show ∃ l mark Yj d WJ xv args Yk,(Instr.enterLoop fn a.tmps #[p] assign body c.rd).run c.P W=_∧_
 rw [ar]
 obtain⟨rec,j2⟩:∃ rec:Loop,rec= { state:= .ready,pending:=none,fn,tmps:=a.tmps,params:= #[p],assign,body,defers:=W.heap.size } :=⟨_,rfl⟩
 obtain⟨v,A8,hN,u2,Zd⟩:=st.env gt _ bP
 obtain⟨hH,A9⟩:∃ hH,(W.alloc (.deferred (some []))).alloc (.loop rec)=hH:=⟨_,rfl⟩
 have s1:=(st.alloc (o:= .deferred (some [])) (cp:= .dn) rfl).alloc (o:= .loop rec) (cp:= .is (.loop rec)) rfl
 rw [A9,World.size_alloc] at s1
 obtain⟨D,kB⟩:∃ D,D=W.heap.size:=⟨_,rfl⟩
 obtain⟨l,ao⟩:∃ l,l=W.heap.size + 1:=⟨_,rfl⟩
 have Ba:=run_enterLoop_outer (P:=c.P) (w:=W) fn a.tmps #[p] assign body
 rw [← j2,A9,← ao,← kB] at Ba
 rw [← ao,← kB] at s1
 obtain⟨kS,pA⟩:∃ kS:σ→γ→List aO,kS=fun s g=>⟨some l,.is (.loop rec)⟩ :: ⟨some D,.dn⟩ :: Ls s g:=⟨_,rfl⟩
 obtain⟨mm,Bb⟩:∃ mm:ε→γ→List aO,mm=fun q g=>⟨some l,.is (.loop { rec with state:= .done,pending:=some (eZ q) })⟩ :: ⟨some D,.dn⟩ :: Lx q g:=⟨_,rfl⟩
 have s2:bS c E (kS cd g0) a hH:=by rw [pA]; exact s1
 have IM:gq (aP (kS cd g0) ++ c.b5) hH mb hN:=by
  have aa:(I.gW f mb).holds (aP (kS cd g0) ++ c.b5) hH v:=by
   obtain⟨vb,aa,ae⟩:=s2.env gt _ bP
   rw [A8] at aa
   cases aa
   exact ae
  obtain⟨IN,aA,aU⟩:=aa
  rw [u2] at aA
  have:IN=hN:=by injection aA with _ _ aA; injection aA with aA; exact aA.symm
  rw [← this]; exact aU
 have Bc:bS c E ((kS cd g0) ++ []) a hH:=by rw [List.append_nil]; exact s2
 have z7:=Bc.D1
 simp only [aP,List.nil_append] at z7
 have HT:D2 c.P (.func (.yield l) #[] #[]) τ kS mm step (fun c7 W'=>Ext (aP (kS cd g0) ++ c.b5) hH c7 W'):=by
  refine⟨l,rfl,fun x s EH hs g A nA v2 g1 hle aX=> ?_⟩
  have AE:=hle
  rw [pA] at AE
  obtain⟨o,e7,gi⟩:=AE.ok ⟨some l,.is (.loop rec)⟩ (by simp)
  have pd:o= .loop rec:=gi
  subst pd
  have a6:=run_yield (P:=c.P) (args:= #[v2]) e7 (by rw [j2]; rfl)
  refine⟨_,_,_,_,a6,roundIn_of_wpIn trivial ?_⟩
  have aA:rec.assign=assign:=by rw [j2]
  have aU:rec.body=body:=by rw [j2]
  have cL:rec.params= #[p]:=by rw [j2]
  have eO:rec.tmps=a.tmps:=by rw [j2]
  rw [aA,aU,cL,eO]
  refine CK (n:=9) rfl ?_
  have Hp:((#[p]:Array Tmp).zip #[v2]).foldl (fun tmps (t,a)=>tmps.setIfInBounds t a) a.tmps=a.tmps.setIfInBounds p v2:=by simp
  rw [Hp]
  subst pA Bb
  refine wpIn_mono ((ot x s EH hs g nA (aP (⟨some l,.is (.loop rec)⟩ :: ⟨some D,.dn⟩ :: Ls s g)) A l D rec (by rw [j2])) { tmps:=a.tmps.setIfInBounds p v2,defers:= [] } nA ?_) ?_
  ·have mn:p < c.n:=by simpa using hp
   exact
   {defers:=rfl
    size:=by simp [s2.size]
    env:=fun t mh ej=>by
     simp only [look] at ej
     by_cases e:Nat.beq p t=true
     ·rw [e] at ej
      simp only [cond_true,Option.some.injEq] at ej
      subst ej
      have:=fc.1 e
      subst this
      exact⟨v2,by simp [s2.size,mn],aX⟩
     ·simp only [Bool.not_eq_true] at e
      rw [e] at ej
      simp only [cond_false] at ej
      obtain⟨u,aa,ae⟩:=s2.env t mh ej
      have dz:p≠t:=fun h=>by rw [fc.2 h] at e; cases e
      exact⟨u,by rw [Array.getElem?_setIfInBounds_ne dz]; exact aa,mh.mono g1 ae⟩
    dD:= .refl _ _
    own:=hle.ok
    nodup:=hle.nodup
    lt:=hle.lt
    fY:=fun k av _=>av
    eU:=hle.eU }
  ·intro e jM ZW hq
   cases e with
   | normal=>
     obtain⟨JB,IP,hb⟩:=hq
     refine⟨JB,IP,CK (n:=9) rfl (wpIn_mono hb ?_)⟩
     intro e rT BG Ep
     have fin:∀ (jump:Option Code) {Lr:List aO},bS ⟨c.P,c.n,nA,aP (⟨some l,.is (.loop rec)⟩ :: ⟨some D,.dn⟩ :: Ls s g),A,some l,[]⟩ [] (⟨some l,.is (.loop { rec with state:= .busy })⟩ :: ⟨some D,.dn⟩ :: Lr) rT BG→
      ∃ oa,(Instr.endRound l jump).run c.P BG= .ok (.bool jump.isNone) oa∧bS ⟨c.P,c.n,nA,aP (⟨some l,.is (.loop rec)⟩ :: ⟨some D,.dn⟩ :: Ls s g),A,some l,[]⟩ [] (⟨some l,.is (.loop { rec with state:=if jump.isNone then .ready else .done,pending:=jump })⟩ :: ⟨some D,.dn⟩ :: Lr) rT oa:=fun jump Lr hM=>by
      obtain⟨o,aa,ae⟩:=hM.own ⟨some l,.is (.loop { rec with state:= .busy })⟩ (by simp)
      have kt:o= .loop { rec with state:= .busy } :=ae
      subst kt
      exact⟨_,run_endRound jump aa,hM.rq (i:=0) rfl rfl⟩
     rcases Ep with⟨ca,fr,rfl,fw,hM⟩ | ⟨q,fr,aE,rfl,fw,hM⟩
     ·obtain⟨oa,bo,iv⟩:=fin none hM
      refine⟨_,oa,bo,.inl ⟨ca,fr,?_⟩⟩
      have IQ:({ rec with state:=if (none:Option Code).isNone then .ready else .done,pending:=none } :Loop)=rec:=by rw [j2]; rfl
      rw [IQ] at iv
      exact iv.ends (ρ:=fun _:γ=>I.of true) (Lo:=fun g=>⟨some l,.is (.loop rec)⟩ :: ⟨some D,.dn⟩ :: Ls ca g) fw (List.Sublist.refl _) (of_bool.2 rfl)
     ·obtain⟨oa,bo,iv⟩:=fin (some (eZ q)) hM
      have key:jD (aP (⟨some l,.is (.loop rec)⟩ :: ⟨some D,.dn⟩ :: Ls s g)) A nA (fun _:γ=>I.of false) (fun g=>⟨some l,.is (.loop { rec with state:= .done,pending:=some (eZ q) })⟩ :: ⟨some D,.dn⟩ :: Lx q g) (.returned (.bool false)) oa:=
       iv.ends (ρ:=fun _:γ=>I.of false) (Lo:=fun g=>⟨some l,.is (.loop { rec with state:= .done,pending:=some (eZ q) })⟩ :: ⟨some D,.dn⟩ :: Lx q g) fw (List.Sublist.refl _) (of_bool.2 rfl)
      exact Ki aE bo (.inr ⟨q,fr,key⟩)
   | exit id=>exact hq.elim
   | goto t=>exact hq.elim
   | ret=>exact hq.elim
   | panic Jp=>exact hq.elim
   | outgrown=>exact hq.elim
 have z8:=kA.go kS mm hq (fun s g=>⟨some l,.is (.loop rec)⟩ :: ⟨some D,.dn⟩ :: jw s g) (fun s g=>by rw [pA]; simp only [mL,List.cons_append]) step cd g0 (fun r=>k r mU) aQ c.b5 hH (.func (.yield l) #[] #[]) hN z7 IM HT
 have lO:a.eval (.tmp gt)= .func (.func f) #[] hN.toArray:=by simp [Act.eval,A8,u2]
 refine⟨l,[DT D],hH,{ target:= .fn (.func f) hN.toArray,args:= #[.func (.yield l) #[] #[]] },hH,f,#[.func (.yield l) #[] #[]] ++ hN.toArray,hH,Ba,?_,fun _ _=>trivial,?_,fun h=>by simp at h,?_⟩
 ·simp only [resolve,lO]
  simp [go_sem]
 ·simp [invoke,go_sem,ea.run]
 ·refine CallsIn.Gi ?_
  have Hq:(#[.func (.yield l) #[] #[]] ++ hN.toArray:Array Value)=(.func (.yield l) #[] #[] :: hN).toArray:=by simp
  rw [Hq]
  refine z8.mono fun e JC ⟨ZX,⟨⟨r,Pb⟩,fw⟩,he,a8,aD,aV,a1,bo⟩=> ?_
  subst he
  have ob:=Bc.after a8 aD (by simpa [aP] using aV) (by simpa [aP] using a1)
  rw [List.append_nil] at ob
  cases r with
  | inl ca=>
    simp only [Lr] at ob
    subst pA
    obtain⟨o,e7,gi⟩:=ob.own ⟨some l,.is (.loop rec)⟩ (by simp)
    have pd:o= .loop rec:=gi
    subst pd
    have oB:=run_endLoop (P:=c.P) e7 (by rw [j2]; simp)
    have mn:rec.pending=none:=by rw [j2]
    rw [mn] at oB
    refine⟨none,_,oB,?_⟩
    have rU:=(ob.rq (i:=0) (cp':= .is (.loop { rec with state:= .exhausted })) (o':= .loop { rec with state:= .exhausted }) rfl rfl).nX 1
    rw [mn] at rU
    exact p5 ca Pb fw D _ _ (rU.mark D)
  | inr q=>
    simp only [Lr] at ob
    subst Bb
    obtain⟨o,e7,gi⟩:=ob.own ⟨some l,.is (.loop { rec with state:= .done,pending:=some (eZ q) })⟩ (by simp)
    have pd:o= .loop { rec with state:= .done,pending:=some (eZ q) } :=gi
    subst pd
    have oB:=run_endLoop (P:=c.P) e7 (by simp)
    refine⟨some (eZ q),_,oB,?_⟩
    have rU:=(ob.rq (i:=0) (cp':= .is (.loop { rec with state:= .exhausted,pending:=some (eZ q) })) (o':= .loop { rec with state:= .exhausted,pending:=some (eZ q) }) rfl rfl).nX 1
    exact um q Pb fw D _ _ (rU.mark D)
end
end Gv
namespace Gv
open Go
set_option linter.unusedVariables false
set_option linter.unusedSimpArgs false
def aM.any (α:Type):aM α:=fun Q=> ∀ x,Q x
theorem aM.any_bind {α β:Type} {k:α→aM β} {R:β→Prop} (h:aM.bind (aM.any α) k R) (x:α):k x R:=h x
theorem gq.append {A:List Nat} {W:World} :∀ {τs σs:List I} {vs us:List Value},gq A W τs vs→gq A W σs us→gq A W (τs ++ σs) (vs ++ us)
 | _,_,_,_,.nil,h=>h
 | _,_,_,_,.cons h r,ae=> .cons h (r.append ae)
section
variable {c:dh} {E:List (Nat × I)} {L:List aO} {ops:Array Oper} {Q:Exit→Act→World→Prop}
variable {d:Option Tmp} {ty:TypeId} {pos:String} {af:Array Edge} {g:Option (Nat × Bool)} {x y:Operand} {t t2:TypeId}
def gk (c:dh) (E:List (Nat × I)) (L:List aO) (o:Oper) {δ:Type} (ρ:δ→I) (ay:δ→List aO):Prop:=
 ∀ a W,bS c E L a W→gw c.P o a W fun v W'=> ∃ q,bS c E (ay q) a W'∧ (ρ q).holds (aP (ay q) ++ c.b5) W' v
theorem aj.EG {o:Oper} {rest:List Oper} {bb:Nat} {δ:Type} {ρ:δ→I} {ay:δ→List aO} (h:gk c E L o ρ ay) (bP:o.guard=none) (hd:o.dst=some bb) (aR:Nat.blt bb c.n=true)
 (k:∀ q,aj c ops Q rest ((bb,ρ q) :: E) (ay q)):aj c ops Q (o :: rest) E L:=fun a W s=>
 h6 bP (h a W s) fun v W' ⟨q,f,aX⟩=>by
  rw [hd]
  exact k q _ _ (f.put (by simpa using aR) aX)
theorem gk.perm {jA:List aO} {o:Oper} {δ:Type} {ρ:δ→I} {ay L2:δ→List aO} (p:L.Perm jA) (xw:∀ q,(ay q).Perm (L2 q)) (h:gk c E jA o ρ ay):gk c E L o ρ L2:=fun a W s=>by
 have:=h a W (s.perm p)
 unfold gw at this ⊢
 exact Oper.wp_mono (fun ie W' ⟨v,aa,q,ae,aD⟩=>⟨v,aa,q,ae.perm (xw q),(ρ q).mono (m3 (xw q)) aD⟩) this
theorem gk.to {o:Oper} {δ:Type} {ρ:δ→I} {ay L2:δ→List aO} (e:∀ q,ay q=L2 q) (h:gk c E L o ρ ay):gk c E L o ρ L2:=by
 have:ay=L2:=funext e
 subst this; exact h
theorem gk.Yl {o:Oper} {δ:Type} {τ:I} (h:gk c E L o (fun _:δ=>τ) (fun _=>L)):hX c E L o τ:=fun a W s=>by
 have:=h a W s
 unfold gw at this ⊢
 exact Oper.wp_mono (fun ie W' ⟨v,aa,q,ae,aD⟩=>⟨v,aa,ae,aD⟩) this
theorem gk.call {o:Oper} {f:FuncId} {as:Act→List Value} {τs:List I} {Lin Lr:List aO} {δ:Type} {ρ:δ→I} {Lo:δ→List aO} (h:cy c.P f τs Lin ρ Lo)
 (ar:∀ a W,bS c E (Lin ++ Lr) a W→ (execOp a.eval o).run c.P W= .ok (.enter f (as a).toArray) W∧gq (aP (Lin ++ Lr) ++ c.b5) W τs (as a)):gk c E (Lin ++ Lr) o ρ (fun q=>Lo q ++ Lr):=fun a W s=>by
 obtain⟨kK,aq⟩:=ar a W s
 have lE:=s.nodup
 rw [e6] at lE
 obtain⟨mQ,qn,pw⟩:=List.nodup_append.1 lE
 have lF:Ext (aP (Lin ++ Lr) ++ c.b5) W (aP Lin ++ (aP Lr ++ c.b5)) W:=za
 have fV:∀ k∈aP Lr ++ c.b5,k < W.heap.size∧k ∉ aP Lin:=fun k hm=>by
  rcases List.mem_append.1 hm with hm | hm
  ·exact⟨s.lt k (by rw [e6]; exact List.mem_append.2 (.inr hm)),fun h=>pw k h k hm rfl⟩
  ·obtain⟨aa,ae⟩:=s.eU k hm
   exact⟨aa,fun h=>ae (by rw [e6]; exact List.mem_append.2 (.inl h))⟩
 have cw:∀ k∈aP Lin,k < W.heap.size:=fun k hm=>s.lt k (by rw [e6]; exact List.mem_append.2 (.inl hm))
 refine .tN (f:=f) (args:=(as a).toArray) (W':=W) kK ?_
 refine(h (aP Lr ++ c.b5) W (as a) fV mQ cw (fun e he=>aO.sr (s.own e (List.mem_append.2 (.inl he))) lF fun _ _=>rfl) (aq.mono lF)).mono fun e W' ⟨v,bb,he,a8,aa,ae,aD,aV⟩=> ?_
 exact⟨v,he,bb,s.after a8 aa ae aD,(ρ bb).mono F0 aV⟩
theorem gk.NX {o:Oper} {b9:Type} [fx b9] {hp:a9 b9} {Lin Lr:List aO} {δ:Type} {ρ:δ→I} {Lo:δ→List aO} {hq:δ→a9 b9} (n m:Nat) (au:L.drop n=ba hp) (aa:(L.take n).take m=Lin) (ae:(L.take n).drop m=Lr)
 (h:gk c E ((Lin ++ ba hp) ++ Lr) o ρ (fun q=>(Lo q ++ ba (hq q)) ++ Lr)):gk c E L o ρ (fun q=>(Lo q ++ Lr) ++ ba (hq q)):=by
 have e:L=(Lin ++ Lr) ++ ba hp:=by rw [← aa,← ae,List.take_append_drop,← au,List.take_append_drop]
 clear au aa ae
 subst e
 exact h.perm m4 fun q=>m4
theorem gk.nS {f:FuncId} {xs:List Operand} {ats:Array TypeId} {b9:Type} [fx b9] {hp:a9 b9} {τs:List I} {Lin Lr:List aO} {δ:Type} {ρ:δ→I} {Lo:δ→List aO} {hq:δ→a9 b9} (n m:Nat) (au:L.drop n=ba hp) (ea:bT c.P f) (h:cy c.P f τs (Lin ++ ba hp) ρ (fun d=>Lo d ++ ba (hq d)))
 (aa:(L.take n).take m=Lin) (ae:(L.take n).drop m=Lr) (aq:hA c E L xs τs):gk c E L ⟨d,.call ⟨.value (.func f),xs.toArray,ats⟩,ty,pos,af,g⟩ ρ (fun q=>(Lo q ++ Lr) ++ ba (hq q)):=by
 have e:L=(Lin ++ Lr) ++ ba hp:=by rw [← aa,← ae,List.take_append_drop,← au,List.take_append_drop]
 refine gk.NX n m au aa ae (gk.call (as:=fun a=>xs.map a.eval) h fun a W s=>⟨by simp [execOp,resolve,Deferred.ofValue,Act.eval,invoke,ea.run],?_⟩)
 subst e
 exact(aq.holds a W (s.perm m4.symm)).mono (m3 m4)
theorem gk.l6 {f:FuncId} {xs:List Operand} {ats:Array TypeId} {τs:List I} {Lin Lr:List aO} {δ:Type} {ρ:δ→I} {Lo:δ→List aO} (m:Nat) (ea:bT c.P f) (h:cy c.P f τs Lin ρ Lo)
 (aa:L.take m=Lin) (ae:L.drop m=Lr) (aq:hA c E L xs τs):gk c E L ⟨d,.call ⟨.value (.func f),xs.toArray,ats⟩,ty,pos,af,g⟩ ρ (fun q=>Lo q ++ Lr):=by
 have e:L=Lin ++ Lr:=by rw [← aa,← ae,List.take_append_drop]
 clear aa ae
 subst e
 exact gk.call (as:=fun a=>xs.map a.eval) h fun a W s=>⟨by simp [execOp,resolve,Deferred.ofValue,Act.eval,invoke,ea.run],aq.holds a W s⟩
theorem bc.Ub {ny:Operand} {f:FuncId} {sR τs:List I} {xs:List Operand} {ats:Array TypeId} (ea:bT c.P f) (a8:bc c E L ny (.gW f sR)) (aq:hA c E L xs τs) {a:Act} {W:World} (s:bS c E L a W):
 ∃ hN:List Value,(execOp a.eval ⟨d,.call ⟨.value ny,xs.toArray,ats⟩,ty,pos,af,g⟩).run c.P W= .ok (.enter f (xs.map a.eval ++ hN).toArray) W∧gq (aP L ++ c.b5) W (τs ++ sR) (xs.map a.eval ++ hN):=by
 obtain⟨hN,aa,ae⟩:=a8 a W s
 exact⟨hN,by simp [execOp,resolve,Deferred.ofValue,aa,invoke,ea.run],(aq.holds a W s).append ae⟩
theorem gk.gW {ny:Operand} {f:FuncId} {sR τs:List I} {xs:List Operand} {ats:Array TypeId} {Lin Lr:List aO} {δ:Type} {ρ:δ→I} {Lo:δ→List aO} (m:Nat) (ea:bT c.P f) (a8:bc c E L ny (.gW f sR)) (h:cy c.P f (τs ++ sR) Lin ρ Lo)
 (aa:L.take m=Lin) (ae:L.drop m=Lr) (aq:hA c E L xs τs):gk c E L ⟨d,.call ⟨.value ny,xs.toArray,ats⟩,ty,pos,af,g⟩ ρ (fun q=>Lo q ++ Lr):=by
 have e:L=Lin ++ Lr:=by rw [← aa,← ae,List.take_append_drop]
 clear aa ae
 subst e
 intro a W s
 obtain⟨hN,aD,aV⟩:=bc.Ub (d:=d) (ty:=ty) (pos:=pos) (af:=af) (g:=g) (ats:=ats) ea a8 aq s
 have lE:=s.nodup
 rw [e6] at lE
 obtain⟨mQ,qn,pw⟩:=List.nodup_append.1 lE
 have lF:Ext (aP (Lin ++ Lr) ++ c.b5) W (aP Lin ++ (aP Lr ++ c.b5)) W:=za
 have fV:∀ k∈aP Lr ++ c.b5,k < W.heap.size∧k ∉ aP Lin:=fun k hm=>by
  rcases List.mem_append.1 hm with hm | hm
  ·exact⟨s.lt k (by rw [e6]; exact List.mem_append.2 (.inr hm)),fun h=>pw k h k hm rfl⟩
  ·obtain⟨aa,ae⟩:=s.eU k hm
   exact⟨aa,fun h=>ae (by rw [e6]; exact List.mem_append.2 (.inl h))⟩
 have cw:∀ k∈aP Lin,k < W.heap.size:=fun k hm=>s.lt k (by rw [e6]; exact List.mem_append.2 (.inl hm))
 refine .tN (f:=f) (W':=W) aD ?_
 refine(h (aP Lr ++ c.b5) W _ fV mQ cw (fun e he=>aO.sr (s.own e (List.mem_append.2 (.inl he))) lF fun _ _=>rfl) (aV.mono lF)).mono fun e W' ⟨v,bb,he,a8,aa,ae,aD,aV⟩=> ?_
 exact⟨v,he,bb,s.after a8 aa ae aD,(ρ bb).mono F0 aV⟩
theorem hA.perm {jA:List aO} (p:L.Perm jA):∀ {xs:List Operand} {τs:List I},hA c E L xs τs→hA c E jA xs τs
 | [],[],h=>h
 | _ :: _,_ :: _,h=>⟨h.1.perm p,hA.perm p h.2⟩
 | [],_ :: _,h=>h.elim
 | _ :: _,[],h=>h.elim
theorem gk.Oh {ny:Operand} {f:FuncId} {sR τs:List I} {xs:List Operand} {ats:Array TypeId} {b9:Type} [fx b9] {hp:a9 b9} {Lin Lr:List aO} {δ:Type} {ρ:δ→I} {Lo:δ→List aO} {hq:δ→a9 b9} (n m:Nat) (au:L.drop n=ba hp) (ea:bT c.P f) (a8:bc c E L ny (.gW f sR)) (h:cy c.P f (τs ++ sR) (Lin ++ ba hp) ρ (fun d=>Lo d ++ ba (hq d)))
 (aa:(L.take n).take m=Lin) (ae:(L.take n).drop m=Lr) (aq:hA c E L xs τs):gk c E L ⟨d,.call ⟨.value ny,xs.toArray,ats⟩,ty,pos,af,g⟩ ρ (fun q=>(Lo q ++ Lr) ++ ba (hq q)):=by
 have e:L=(Lin ++ Lr) ++ ba hp:=by rw [← aa,← ae,List.take_append_drop,← au,List.take_append_drop]
 refine gk.NX n m au aa ae ?_
 subst e
 refine gk.to (fun q=>rfl) (gk.gW (Lin ++ ba hp).length ea (a8.perm m4) h List.take_left List.drop_left (aq.perm m4))
theorem gk.obj {f:FuncId} {xs:List Operand} {ats:Array TypeId} {b9:Type} [fx b9] {hp:a9 b9} {p:Nat} {k:b9} {τs:List I} {Lin:List aO} {δ:Type} {ρ:δ→I} {Lo:δ→List aO} (n:Nat) (k':δ→b9) (au:L.drop n=ba hp) (hp':pat hp p=some k) (ea:bT c.P f) (h:cy c.P f τs Lin ρ Lo)
 (av:fx.im p k=Lin) (j5:∀ q,fx.im p (k' q)=Lo q) (aq:hA c E L xs τs):gk c E L ⟨d,.call ⟨.value (.func f),xs.toArray,ats⟩,ty,pos,af,g⟩ ρ (fun q=>L.take n ++ ba (dW hp p (k' q))):=by
 obtain⟨R,aS,a3⟩:=vT hp'
 have e:L=L.take n ++ ba hp:=by rw [← au,List.take_append_drop]
 have dZ:∀ {M X:List aO},M.Perm (X ++ R)→ (L.take n ++ M).Perm (X ++ (R ++ L.take n)):=fun h=>List.perm_append_comm.trans ((h.append_right _).trans (by rw [List.append_assoc]))
 have IY:L.Perm (Lin ++ (R ++ L.take n)):=by
  conv=>lhs; rw [e]
  exact dZ (by rw [← av]; exact aS)
 refine gk.perm IY (fun q=>(dZ (a3 (k' q))).symm) ?_
 refine gk.to (fun q=>by rw [j5]) (gk.call (Lr:=R ++ L.take n) (as:=fun a=>xs.map a.eval) h fun a W s=>⟨by simp [execOp,resolve,Deferred.ofValue,Act.eval,invoke,ea.run],?_⟩)
 exact(aq.holds a W (s.perm IY.symm)).mono (m3 IY)
theorem hX.obj {f:FuncId} {xs:List Operand} {ats:Array TypeId} {b9:Type} [fx b9] {hp:a9 b9} {p:Nat} {k:b9} {τs:List I} {Lin:List aO} {δ:Type} {τ:I} (n:Nat) (au:L.drop n=ba hp) (hp':pat hp p=some k) (ea:bT c.P f) (h:cy c.P f τs Lin (fun _:δ=>τ) (fun _=>Lin))
 (av:fx.im p k=Lin) (aq:hA c E L xs τs):hX c E L ⟨d,.call ⟨.value (.func f),xs.toArray,ats⟩,ty,pos,af,g⟩ τ:=by
 have e:L=L.take n ++ ba hp:=by rw [← au,List.take_append_drop]
 have Zi:dW hp p k=hp:=by
  clear e au h av
  induction hp with
  | nil=>rfl
  | cons z r b1=>
    obtain⟨q,aaV⟩:=z
    simp only [pat] at hp'
    simp only [dW]
    split at hp'
    ·rename_i e; simp only [Option.some.injEq] at hp'; rw [if_pos e,hp']
    ·rename_i e; rw [if_neg e,b1 hp']
 refine gk.Yl (gk.to (fun q=> ?_) (gk.obj (d:=d) (ty:=ty) (pos:=pos) (af:=af) (g:=g) (ats:=ats) n (fun _=>k) au hp' ea h av (fun _=>av) aq))
 rw [Zi,← e]
theorem aj.Wq {l:List Oper} {b9:Type} [fx b9] {hp:a9 b9} {p:Nat} {Lin Lr:List aO} (n m:Nat) (mk:b9) (au:L.drop n=ba hp) (aa:(L.take n).take m=Lin) (ae:(L.take n).drop m=Lr) (av:fx.im p mk=Lin) (hm:p∈aP Lin)
 (k:∀ a:Nat × a9 b9,a.1 ∉ hp.map (·.1)∧a.2=(a.1,mk) :: hp→a.1=p→aj c ops Q l E (Lr ++ ba a.2)):aj c ops Q l E L:=fun a W s=>by
 have e:L=(Lin ++ Lr) ++ ba hp:=by rw [← aa,← ae,List.take_append_drop,← au,List.take_append_drop]
 have dZ:L.Perm (Lr ++ ba ((p,mk) :: hp)):=by
  rw [e,ba,av,← List.append_assoc]
  exact List.perm_append_comm.append_right _
 refine k (p,(p,mk) :: hp) ⟨fun Zj=> ?_,rfl⟩ rfl _ _ (s.perm dZ)
 have iM:=s.nodup
 rw [e,e6,e6] at iM
 exact(List.nodup_append.1 iM).2.2 p (List.mem_append.2 (.inl hm)) p (MU Zj) rfl
end
end Gv
namespace Gv
open Go
set_option linter.unusedVariables false
section
variable {c:dh} {E:List (Nat × I)} {L:List aO} {ops:Array Oper} {Q:Exit→Act→World→Prop}
theorem df.q {hs:List ec} {i np:Nat} {o:Oper} {h:ec} (cC:df c ops Q hs E L i o h):GQ c ops Q hs E L np i o h:=fun hd E' ay aa ae _=>cC hd E' ay aa ae
structure zl (P:Program) (f:FuncId) (τs:List I) {b9:Type} [fx b9] (hp:a9 b9) {α:Type} (τ:α→I) (run:∀ {σ ε:Type},(α→σ→Option (σ ⊕ ε))→σ→Option (σ ⊕ ε)):Prop where
 go:∀ {σ ε γ:Type} (Ls:σ→γ→List aO) (Lx:ε→γ→List aO) (jw:σ→γ→List aO),(∀ s g,Ls s g=jw s g ++ ba hp)→IL P f τs [] τ (run (σ:=σ) (ε:=ε)) Ls Lx
theorem zl.of {P:Program} {f:FuncId} {fn:Func} {code:Code} {n:Nat} {τs:List I} {b9:Type} [fx b9] {hp:a9 b9} {α:Type} {τ:α→I} {run:∀ {σ ε:Type},(α→σ→Option (σ ⊕ ε))→σ→Option (σ ⊕ ε)}
 (a8:P.funcs[f]? =some fn) (hb:fn.body=some code) (aR:fn.ntmps=n) (hlen:Nat.ble (τs.length + 1) n=true)
 (h:∀ {σ ε γ:Type} (Ls:σ→γ→List aO) (Lx:ε→γ→List aO) (jw:σ→γ→List aO),(∀ s g,Ls s g=jw s g ++ ba hp)→ ∀ (step:α→σ→Option (σ ⊕ ε)) (cd:σ) (g0:γ) (r:σ ⊕ ε),run step cd=some r→
  ∀ W A u,u1 P u τ Ls Lx step (fun c7 W'=>Ext (aP (Ls cd g0) ++ A) W c7 W')→
    ah ⟨P,n,W,aP (Ls cd g0),A,none,[]⟩ (bodyPost P fn (jD (aP (Ls cd g0)) A W (fun _:γ=> .cN []) (fun g=> [] ++ Lr Ls Lx r g))) code (params 0 (.eq u :: τs)) (Ls cd g0)):zl P f τs hp τ run:=by
 refine⟨?_⟩
 intro σ ε γ Ls Lx jw mL step cd g0 r aQ A W u vs ao aX a6
 refine calls_of_wp a8 hb (wpIn_wide.1 (h Ls Lx jw mL step cd g0 r aQ W A u a6 _ _ ?_))
 have ml:gq (aP (Ls cd g0) ++ A) W (.eq u :: τs) (u :: vs):= .cons rfl aX
 have ld:=ml.length
 have hle:τs.length + 1≤n:=Nat.le_of_ble_eq_true hlen
 exact
 {defers:=rfl
  size:=by simp at ld; simp [aR,ld]; omega
  env:=fun t τ ej=>by
   obtain⟨_,v,ae,aD⟩:=tE ml 0 t τ ej
   refine⟨v,?_,aD⟩
   have cw:t < (u :: vs).length:=(List.getElem?_eq_some_iff.1 ae).1
   rw [Array.getElem?_append_left (by simpa using cw)]
   simpa using ae
  dD:= .refl _ _
  own:=ao.ok
  nodup:=ao.nodup
  lt:=ao.lt
  fY:=fun k av _=>av
  eU:=ao.eU }
theorem Vw {b9:Type} [fx b9] {σ γ:Type} {Ls jw:σ→γ→List aO} {hp:a9 b9} {s:σ} {g:γ} {p:Nat} {k:b9} {e:aO} (n:Nat) (au:L.drop n=Ls s g) (mL:∀ s g,Ls s g=jw s g ++ ba hp) (h:pat hp p=some k) (av:fx.im p k= [e]):e∈L:=
 Nr (hq:=fun _=>hp) n au mL h av
theorem K0 {gt p:Nat} {assign body:Code} {f:FuncId} {mb:List I} {b9:Type} [fx b9] {hp:a9 b9} {α σ ε γ:Type} {τ:α→I} {run:∀ {σ ε:Type},(α→σ→Option (σ ⊕ ε))→σ→Option (σ ⊕ ε)}
 {Ls:σ→γ→List aO} {Lx:ε→γ→List aO} {step:α→σ→Option (σ ⊕ ε)} {cd:σ} {g0:γ} {r:σ ⊕ ε} (jw:σ→γ→List aO) (eZ:ε→Code)
 (ar:c.rd=none) (ea:bT c.P f) (bP:look E gt=some (.gW f mb)) (kA:zl c.P f mb hp τ run) (aQ:run step cd=some r) (mL:∀ s g,Ls s g=jw s g ++ ba hp) (au:L=Ls cd g0) (hp':Nat.blt p c.n=true)
 (ot:∀ x s r,step x s=some r→ ∀ g (kr:World) (kz ks:List Nat) (l D:Nat) (rec:Loop),rec.state= .ready→
  ah ⟨c.P,c.n,kr,kz,ks,some l,[]⟩ (Exit.then (BF ⟨c.P,c.n,kr,kz,ks,some l,[]⟩ l body (BE ⟨c.P,c.n,kr,kz,ks,some l,[]⟩ eZ l D { rec with state:= .busy } Ls Lx r)) (fun _ _ _=>False)) assign ((p,τ x) :: E) (⟨some l,.is (.loop rec)⟩ :: ⟨some D,.dn⟩ :: Ls s g))
 (p5:∀ ca,r= .inl ca→ ∀ g D,ad { c with ds:=D :: c.ds } Q .normal E (⟨some D,.dn⟩ :: Ls ca g))
 (um:∀ q,r= .inr q→ ∀ g D,ah { c with ds:=D :: c.ds } Q (eZ q) E (⟨some D,.dn⟩ :: Lx q g)):
 ah c Q (.rangeFunc (.tmp gt) #[p] assign body) E L:=
 Lc (Lin:= []) (run:=run) eZ ar ea bP (fun aA aU mm=>kA.go (fun s g=>aA :: aU :: Ls s g) mm (fun s g=>aA :: aU :: jw s g) (fun s g=>by rw [mL]; rfl)) aQ au hp' ot p5 um
end
end Gv
namespace Gv
open Go
set_option linter.unusedVariables false
structure Raw where
 f:FuncId
 us:Option (List Value)
instance:Inhabited Raw:=⟨⟨0,none⟩⟩
def Raw.val:Raw→Value
 | ⟨f,some us⟩=> .func (.func f) #[] us.toArray
 | ⟨_,none⟩=> .nilFunc
instance:ai Raw where
 size:=1
 agg:=false
 rep _ _ cs x:=cs= [x.val]
 len h:=by rw [h]; rfl
 one h:=by
  intro v aX
  rw [h,List.mem_singleton] at aX
  subst aX
  rename_i x
  obtain⟨f,us⟩:=x
  cases us <;> rfl
 flat _:=rfl
 mono _ h:=h
instance:bd Raw:=⟨[.nilFunc],fun _ _=>rfl⟩
theorem MX {A W v} {x:Raw} :(I.of x).holds A W v↔v=x.val:=by
 constructor
 ·intro h
  exact nF (by have:=h.1; exact this) h.2
 ·intro h
  subst h
  obtain⟨f,us⟩:=x
  cases us <;> exact⟨rfl,rfl⟩
section
variable {c:dh} {E:List (Nat × I)} {L:List aO} {ops:Array Oper} {Q:Exit→Act→World→Prop}
variable {d:Option Tmp} {ty:TypeId} {pos:String} {af:Array Edge} {g:Option (Nat × Bool)} {x y:Operand} {t t2:TypeId}
theorem gq.eqs {A:List Nat} {W:World} :∀ {us vs:List Value},gq A W (us.map I.eq) vs→vs=us
 | [],_,.nil=>rfl
 | _ :: _,_,.cons h r=>by rw [r.eqs]; congr 1
theorem gq.NY {A:List Nat} {W:World} :∀ {us:List Value},gq A W (us.map I.eq) us
 | []=> .nil
 | _ :: _=> .cons rfl .NY
theorem VB {f:FuncId} {xs:List Operand} {us:List Value} (aq:hA c E L xs (us.map I.eq)):b7 c E L ⟨d,.makeFunc (.func f) #[] xs.toArray,ty,pos,af,g⟩ (.of (⟨f,some us⟩:Raw)):= .pure fun a W s=>
 ⟨.func (.func f) #[] us.toArray,by
   have h:=(aq.holds a W s).eqs
   simp [execOp,Instr.makeFunc,h],MX.2 rfl⟩
theorem Lm {f:FuncId} {us:List Value} (aq:bc c E L x (.of (⟨f,some us⟩:Raw))):bc c E L x (.gW f (us.map I.eq)):=fun a W s=>
 ⟨us,MX.1 (aq a W s),.NY⟩
end
end Gv
namespace Gv
open Go
set_option linter.unusedVariables false
section
variable {c:dh} {E:List (Nat × I)} {L:List aO} {ops:Array Oper} {Q:Exit→Act→World→Prop}
theorem aj.Wr {l:List Oper} {p q:Nat} (fo:Nat) (ao:look E fo=some (.eq (.pointer (some ⟨p,0,none⟩)))) (he:q=p) (k:aj c ops Q l ((fo,.of (some q:Ref)) :: E) L):aj c ops Q l E L:=fun a W s=>by
 subst he
 refine k a W (s.less fun t τ h=> ?_)
 simp only [look] at h
 by_cases e:Nat.beq fo t=true
 ·rw [e] at h
  simp only [cond_true,Option.some.injEq] at h
  have:=fc.1 e
  subst this
  subst h
  exact⟨_,ao,fun A W v aX=>wk.2 aX⟩
 ·simp only [Bool.not_eq_true] at e
  rw [e] at h
  exact⟨τ,h,fun _ _ _ h=>h⟩
end
end Gv
namespace Gv
open Go
set_option linter.unusedVariables false
set_option linter.unusedSimpArgs false
section
variable {c:dh} {E:List (Nat × I)} {L:List aO} {ops:Array Oper} {Q:Exit→Act→World→Prop}
theorem bB.tail {l:List Oper} {f:Nat} {b4:Array Bool} (n:Nat) (a8:(l.drop n).length=f) (hs:Region.seqB .any l.toArray f n b4=true) (h:aj c l.toArray Q (l.drop n) E L):bB c l.toArray Q f b4 E L:=fun a W s=>by
 subst a8
 exact Fg (l.drop n) n b4 a W (fun j=>by simp) hs (h a W s)
theorem aM.ex {α β:Type} {m:aM α} {k:α→aM β} {R:β→Prop} (h:aM.bind m k R):∃ K:α→Prop,m K∧ ∀ r,K r→k r R:=⟨_,h,fun _ h=>h⟩
end
end Gv
namespace Gv
open Go
set_option linter.unusedVariables false
theorem cy.law {P:Program} {f:FuncId} {τs:List I} {b9:Type} [fx b9] {R:Bool × a9 b9→Prop} {Lo: {r:Bool × a9 b9 // R r} × Unit→List aO} (h:cy P f τs ([] ++ ba ([]:a9 b9)) (fun d: {r:Bool × a9 b9 // R r} × Unit=>I.of d.1.1.1) Lo) (iT:∀ r,R r→r.1=true):bw P f τs (I.of true):=by
 intro A W vs fV aX
 refine(h A W vs (fun k av=>⟨fV k av,by simp [ba,aP]⟩) (by simp [ba,aP]) (fun k av=>by simp [ba,aP] at av) (fun e he=>by simp [ba] at he) (by simpa [ba,aP] using aX)).mono ?_
 intro e W' ⟨v,d,aa,ae,_,_,_,aD⟩
 refine⟨v,aa,by simpa [ba,aP] using ae,?_⟩
 have aV:=iT d.1.1 d.1.2
 rw [of_bool] at aD ⊢
 rw [aD,aV]
end Gv
