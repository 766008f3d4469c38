/-
  The library of the decompiler, as far as it is needed here. Conditions: none.
-/
import Derived.Maps.RangeRun
import Derived.Test.YthkfkliknjiecaaGreatMl1
namespace Gv
open Go
def FY (P:Program) (u:Value) {α σ ε γ:Type} (τ:α→I) (Ls:σ→γ→List aT) (Lx:ε→γ→List aT) (step:α→σ→aI (σ ⊕ ε)) (adZ:List Nat→World→Prop):Prop:=
 ∃ l,u= .func (.yield l) #[] #[]∧ ∀ x s R,step x s R→ ∀ g A W v,adZ (aV (Ls s g)++A) W→yT A W (Ls s g)→ (τ x).holds (aV (Ls s g)++A) W v→
   YieldAt Fence.wide 8 P l #[v] W (fun e W'=>(∃ cl,R (.inl cl)∧ky (aV (Ls s g)) A W (fun _:γ=>I.of true) (fun g=>Ls cl g) e W')∨ ∃ q,R (.inr q)∧ky (aV (Ls s g)) A W (fun _:γ=>I.of false) (fun g=>Lx q g) e W')
structure Bf (P:Program) (f:FuncId) (τs:List I) {cd:Type} [fr cd] {α:Type} (τ:α→I) (run:∀ {σ ε:Type},(σ→a1 cd)→ (α→σ→aI (σ ⊕ ε))→σ→aI (σ ⊕ ε)):Prop where
 go:∀ {σ ε γ:Type} (Ls:σ→γ→List aT) (Lx:ε→γ→List aT) (hq:σ→a1 cd) (kr:σ→γ→List aT),(∀ s g,Ls s g=kr s g++a8 (hq s))→ ∀ (step:α→σ→aI (σ ⊕ ε)) (cw:σ) (g0:γ) (R:σ ⊕ ε→Prop),run hq step cw R→
  ∀ (A:List Nat) (W:World) (u:Value) (vs:List Value),yT A W (Ls cw g0)→g2 (aV (Ls cw g0)++A) W τs vs→
    FY P u τ Ls Lx step (fun dh W'=>Ext (aV (Ls cw g0)++A) W dh W')→
    Calls P f (u::vs).toArray W (ky (aV (Ls cw g0)) A W (δ:= {r // R r}×γ) (fun _=>.ep []) (fun d=>Lr Ls Lx d.1.1 d.2))
theorem Bf.of {P:Program} {f:FuncId} {fn:Func} {code:Code} {n:Nat} {τs:List I} {cd:Type} [fr cd] {α:Type} {τ:α→I} {run:∀ {σ ε:Type},(σ→a1 cd)→ (α→σ→aI (σ ⊕ ε))→σ→aI (σ ⊕ ε)}
 (a7:P.funcs[f]? =some fn) (hb:fn.body=some code) (aR:fn.ntmps=n) (hlen:Nat.ble (τs.length+1) n=true)
 (h:∀ {σ ε γ:Type} (Ls:σ→γ→List aT) (Lx:ε→γ→List aT) (hq:σ→a1 cd) (kr:σ→γ→List aT),(∀ s g,Ls s g=kr s g++a8 (hq s))→ ∀ (step:α→σ→aI (σ ⊕ ε)) (cw:σ) (g0:γ) (R:σ ⊕ ε→Prop),run hq step cw R→
  ∀ W A u,FY P u τ Ls Lx step (fun dh W'=>Ext (aV (Ls cw g0)++A) W dh W')→
    ag ⟨P,n,W,aV (Ls cw g0),A,none,[]⟩ (bodyPost P fn (ky (aV (Ls cw g0)) A W (δ:= {r // R r}×γ) (fun _=>.ep []) (fun d=>Lr Ls Lx d.1.1 d.2))) code (params 0 (.eq u::τs)) (Ls cw g0)):Bf P f τs τ run:=by
 refine⟨?_⟩
 intro σ ε γ Ls Lx hq kr nE step cw g0 R aQ A W u vs ao a2 a6
 refine calls_of_wp a7 hb (wpIn_wide.1 (h Ls Lx hq kr nE step cw g0 R aQ W A u a6 _ _ ?_))
 have nj:g2 (aV (Ls cw g0)++A) W (.eq u::τs) (u::vs):= .cons rfl a2
 have ln:=nj.length
 have hle:τs.length+1≤n:=Nat.le_of_ble_eq_true hlen
 exact
 {defers:=rfl
  size:=by simp at ln; simp [aR,ln]; omega
  env:=fun t τ eU=>by
   obtain⟨_,v,ad,aF⟩:=vB nj 0 t τ eU
   refine⟨v,?_,aF⟩
   have cD:t<(u::vs).length:=(List.getElem?_eq_some_iff.1 ad).1
   rw [Array.getElem?_append_left (by simpa using cD)]
   simpa using ad
  dQ:= .refl _ _
  own:=ao.ok
  nodup:=ao.nodup
  lt:=ao.lt
  gl:=fun k aw _=>aw
  fg:=ao.fg }
section
variable {c:dp} {E:List (Nat×I)} {L:List aT} {ops:Array Oper} {Q:Exit→Act→World→Prop}
variable {d:Option Tmp} {ty:TypeId} {pos:String} {af:Array Edge} {g:Option (Nat×Bool)} {x y:Operand} {t t2:TypeId}
theorem PX {cd:Type} [fr cd] {σ γ:Type} {Ls kr:σ→γ→List aT} {hq:σ→a1 cd} {s:σ} {g:γ} {p:Nat} {k:cd} {e:aT} (n:Nat) (ar:L.drop n=Ls s g) (nE:∀ s g,Ls s g=kr s g++a8 (hq s)) (h:pat (hq s) p=some k) (aw:fr.iv p k= [e]):e∈L:=by
 obtain⟨R,aa,_⟩:=vI h
 rw [aw] at aa
 have:e∈L.drop n:=by rw [ar,nE]; exact List.mem_append.2 (.inr (aa.mem_iff.2 (by simp)))
 exact List.mem_of_mem_drop this
theorem ai.XR {rest:List Oper} {bf lu:Nat} {ats:Array TypeId} {u:Value} {α σ ε γ:Type} {τ:α→I} {Ls:σ→γ→List aT} {Lx:ε→γ→List aT} {step:α→σ→aI (σ ⊕ ε)} {Lin:List aT} {x:Operand} {v:α} {s:σ} {gg:γ} {R:σ ⊕ ε→Prop}
 (al:c.rd=none) (a6:FY c.P u τ Ls Lx step (fun dh W'=>Ext (c.X++c.ca) c.jr dh W')) (a7:look E lu=some (.eq u)) (aq:bd c E (Lin++Ls s gg) x (τ v)) (aQ:step v s R) (aR:Nat.blt bf c.n=true)
 (aZ:∀ cl,R (.inl cl)→ ∀ eZ,ai c ops Q rest ((bf,.of true)::E) (Lin++Ls cl eZ)) (bP:∀ q,R (.inr q)→ ∀ eZ,ai c ops Q rest ((bf,.of false)::E) (Lin++Lx q eZ)):
 ai c ops Q (⟨some bf,.call ⟨.value (.tmp lu),#[x],ats⟩,ty,pos,af,none⟩::rest) E (Lin++Ls s gg):=fun a W st=>by
 obtain⟨l,rfl,a6⟩:=a6
 obtain⟨LH,aa,ad⟩:=st.env lu _ a7
 have hu:LH= .func (.yield l) #[] #[]:=ad
 subst hu
 have nI:bV c E (Ls s gg++Lin) a W:=st.perm List.perm_append_comm
 have a2:=aq a W st
 have nj:(τ v).holds (aV (Ls s gg)++(aV Lin++c.ca)) W (a.eval x):=(τ v).mono (.drop fun k hm=>by
  rw [fv]
  simp only [List.mem_append] at hm ⊢
  rcases hm with hm | hm | hm
  ·exact .inl (.inr hm)
  ·exact .inl (.inl hm)
  exact .inr hm) a2
 obtain⟨fn,tmps,assign,body,kl,jX⟩:=a6 v s R aQ gg (aV Lin++c.ca) W (a.eval x) (nI.Qz.trans Ba) nI.FX nj
 have Jz:(execOp a.eval ⟨some bf,.call ⟨.value (.tmp lu),#[x],ats⟩,ty,pos,af,none⟩).run c.P W= .ok (.round l fn tmps assign body) W:=by
  rw [← kl]
  simp [execOp,resolve,Deferred.ofValue,Act.eval,aa,invoke,Sem.run_bind,Sem.run_pure,Result.andThen]
 refine wpListIn_plain rfl fun K vb=>?_
 refine⟨fun _ _=>trivial,?_⟩
 rw [Oper.semAt_eq _ _ _ (fun _ h=>by cases h),Jz,Oper.uponIn_round]
 refine⟨fun h=>by simp at h,?_⟩
 have KL:RoundIn c.F (9 - 1) c.P l fn tmps assign body W _:=jX
 refine KL.mono fun e W' he=>?_
 rcases he with⟨cl,hs,w,eZ,rfl,qS,aF,aX,a0,bn⟩ | ⟨q,hs,w,eZ,rfl,qS,aF,aX,a0,bn⟩
 ·obtain rfl:=of_bool.1 bn
  refine vb _ _ (aZ cl hs eZ _ _ ?_)
  exact(((nI.after qS aF aX a0).perm List.perm_append_comm).put (by simpa using aR) (of_bool.2 rfl))
 obtain rfl:=of_bool.1 bn
 refine vb _ _ (bP q hs eZ _ _ ?_)
 exact(((nI.after qS aF aX a0).perm List.perm_append_comm).put (by simpa using aR) (of_bool.2 rfl))
def RP {σ ε γ:Type} (c:dp) (fo:ε→Code) (l D:Nat) (rec:Loop) (Ls:σ→γ→List aT) (Lx:ε→γ→List aT) (R:σ ⊕ ε→Prop):Exit→Act→World→Prop:=fun x a W=>
 (∃ cl,R (.inl cl)∧x= .normal∧ ∃ g,bV c [] (⟨some l,.is (.loop rec)⟩::⟨some D,.dx⟩::Ls cl g) a W)∨
 ∃ q,R (.inr q)∧wa (fo q)=true∧x=Bo (fo q)∧ ∃ g,bV c [] (⟨some l,.is (.loop rec)⟩::⟨some D,.dx⟩::Lx q g) a W
theorem ae.abh {σ ε γ:Type} {fo:ε→Code} {l D:Nat} {rec:Loop} {Ls:σ→γ→List aT} {Lx:ε→γ→List aT} {R:σ ⊕ ε→Prop} {cl:σ} (jX:R (.inl cl)) (g:γ) (n:Nat) (ar:L.drop n=⟨some l,.is (.loop rec)⟩::⟨some D,.dx⟩::Ls cl g):
 ae c (RP c fo l D rec Ls Lx R) .normal E L:=fun a W s=>.inl ⟨cl,jX,rfl,g,by rw [← ar]; exact(s.o1 n).less (fun t τ h=>by simp [look] at h)⟩
theorem VB {gt p:Nat} {assign body:Code} {f:FuncId} {na:List I} {cd:Type} [fr cd] {α σ ε γ ρ:Type} {τ:α→I} {run:∀ {σ ε:Type},(σ→a1 cd)→ (α→σ→aI (σ ⊕ ε))→σ→aI (σ ⊕ ε)}
 {Ls:σ→γ→List aT} {Lx:ε→γ→List aT} {hq:σ→a1 cd} {step:α→σ→aI (σ ⊕ ε)} {cw:σ} {g0:γ} {k:σ ⊕ ε→aI ρ} {nM:ρ→Prop} (kr:σ→γ→List aT) (fo:ε→Code)
 (al:c.rd=none) (eR:bM c.P f) (bQ:look E gt=some (.gU f na)) (ml:Bf c.P f na τ run) (aQ:aI.bind (run hq step cw) k nM) (nE:∀ s g,Ls s g=kr s g++a8 (hq s)) (ar:L=Ls cw g0) (hp:Nat.blt p c.n=true)
 (pE:∀ x s R,step x s R→ ∀ g (kY:World) (k2 kZ:List Nat) (l D:Nat) (rec:Loop),rec.state= .ready→
  ag ⟨c.P,c.n,kY,k2,kZ,some l,[]⟩ (Exit.then (Di ⟨c.P,c.n,kY,k2,kZ,some l,[]⟩ l body (RP ⟨c.P,c.n,kY,k2,kZ,some l,[]⟩ fo l D { rec with state:= .busy } Ls Lx R)) (fun _ _ _=>False)) assign ((p,τ x)::E) (⟨some l,.is (.loop rec)⟩::⟨some D,.dx⟩::Ls s g))
 (m7:∀ cl,k (.inl cl) nM→ ∀ g D,ae { c with ds:=D::c.ds } Q .normal E (⟨some D,.dx⟩::Ls cl g))
 (wA:∀ q,k (.inr q) nM→ ∀ g D,ag { c with ds:=D::c.ds } Q (fo q) E (⟨some D,.dx⟩::Lx q g)):
 ag c Q (.rangeFunc (.tmp gt) #[p] assign body) E L:=fun a W st=>by
 subst ar
 refine wpIn_rangeFunc fun fn acQ=>?_
 show ∃ l mark abY d Z2 zj args abZ,(Instr.enterLoop fn a.tmps #[p] assign body c.rd).run c.P W=_∧_
 rw [al]
 obtain⟨rec,kV⟩:∃ rec:Loop,rec= { state:= .ready,pending:=none,fn,tmps:=a.tmps,params:= #[p],assign,body,defers:=W.heap.size } :=⟨_,rfl⟩
 obtain⟨v,CQ,iA,xa,acR⟩:=st.env gt _ bQ
 obtain⟨hW,CR⟩:∃ hW,(W.alloc (.deferred (some []))).alloc (.loop rec)=hW:=⟨_,rfl⟩
 have s1:=(st.alloc (o:= .deferred (some [])) (cp:= .dx) rfl).alloc (o:= .loop rec) (cp:= .is (.loop rec)) rfl
 rw [CR,World.size_alloc] at s1
 obtain⟨D,lr⟩:∃ D,D=W.heap.size:=⟨_,rfl⟩
 obtain⟨l,ao⟩:∃ l,l=W.heap.size+1:=⟨_,rfl⟩
 have CS:=run_enterLoop_outer (P:=c.P) (w:=W) fn a.tmps #[p] assign body
 rw [← kV,CR,← ao,← lr] at CS
 rw [← ao,← lr] at s1
 obtain⟨lN,qT⟩:∃ lN:σ→γ→List aT,lN=fun s g=>⟨some l,.is (.loop rec)⟩::⟨some D,.dx⟩::Ls s g:=⟨_,rfl⟩
 obtain⟨nk,CT⟩:∃ nk:ε→γ→List aT,nk=fun q g=>⟨some l,.is (.loop { rec with state:= .done,pending:=some (fo q) })⟩::⟨some D,.dx⟩::Lx q g:=⟨_,rfl⟩
 have s2:bV c E (lN cw g0) a hW:=by rw [qT]; exact s1
 have KO:g2 (aV (lN cw g0)++c.ca) hW na iA:=by
  have aa:(I.gU f na).holds (aV (lN cw g0)++c.ca) hW v:=by
   obtain⟨xk,aa,ad⟩:=s2.env gt _ bQ
   rw [CQ] at aa
   cases aa
   exact ad
  obtain⟨KP,ay,aO⟩:=aa
  rw [xa] at ay
  have:KP=iA:=by injection ay with _ _ ay; injection ay with ay; exact ay.symm
  rw [← this]; exact aO
 have CU:bV c E ((lN cw g0)++[]) a hW:=by rw [List.append_nil]; exact s2
 have BL:=CU.FX
 simp only [aV,List.nil_append] at BL
 have J4:FY c.P (.func (.yield l) #[] #[]) τ lN nk step (fun dh W'=>Ext (aV (lN cw g0)++c.ca) hW dh W'):=by
  refine⟨l,rfl,fun x s GN hs g A oI v2 hP hle a2=>?_⟩
  have Ce:=hle
  rw [qT] at Ce
  obtain⟨o,dF,fx⟩:=Ce.ok ⟨some l,.is (.loop rec)⟩ (by simp)
  have qz:o= .loop rec:=fx
  subst qz
  have a6:=run_yield (P:=c.P) (args:= #[v2]) dF (by rw [kV]; rfl)
  refine⟨_,_,_,_,a6,roundIn_of_wpIn trivial ?_⟩
  have ay:rec.assign=assign:=by rw [kV]
  have aO:rec.body=body:=by rw [kV]
  have cK:rec.params= #[p]:=by rw [kV]
  have di:rec.tmps=a.tmps:=by rw [kV]
  rw [ay,aO,cK,di]
  refine Ew (n:=9) rfl ?_
  have JA:((#[p]:Array Tmp).zip #[v2]).foldl (fun tmps (t,a)=>tmps.setIfInBounds t a) a.tmps=a.tmps.setIfInBounds p v2:=by simp
  rw [JA]
  subst qT CT
  refine wpIn_mono ((pE x s GN hs g oI (aV (⟨some l,.is (.loop rec)⟩::⟨some D,.dx⟩::Ls s g)) A l D rec (by rw [kV])) { tmps:=a.tmps.setIfInBounds p v2,defers:= [] } oI ?_) ?_
  ·have jz:p<c.n:=by simpa using hp
   exact
   {defers:=rfl
    size:=by simp [s2.size]
    env:=fun t ng eU=>by
     simp only [look] at eU
     by_cases e:Nat.beq p t=true
     ·rw [e] at eU
      simp only [cond_true,Option.some.injEq] at eU
      subst eU
      have:=eD.1 e
      subst this
      exact⟨v2,by simp [s2.size,jz],a2⟩
     simp only [Bool.not_eq_true] at e
     rw [e] at eU
     simp only [cond_false] at eU
     obtain⟨u,aa,ad⟩:=s2.env t ng eU
     have dm:p≠t:=fun h=>by rw [eD.2 h] at e; cases e
     exact⟨u,by rw [Array.getElem?_setIfInBounds_ne dm]; exact aa,ng.mono hP ad⟩
    dQ:= .refl _ _
    own:=hle.ok
    nodup:=hle.nodup
    lt:=hle.lt
    gl:=fun k aw _=>aw
    fg:=hle.fg }
  intro e hH adV hq
  cases e with
  | normal=>
    obtain⟨LI,KQ,hb⟩:=hq
    refine⟨LI,KQ,Ew (n:=9) rfl (wpIn_mono hb ?_)⟩
    intro e pq Dj Gr
    have fin:∀ (jump:Option Code) {Lr:List aT},bV ⟨c.P,c.n,oI,aV (⟨some l,.is (.loop rec)⟩::⟨some D,.dx⟩::Ls s g),A,some l,[]⟩ [] (⟨some l,.is (.loop { rec with state:= .busy })⟩::⟨some D,.dx⟩::Lr) pq Dj→
     ∃ pr,(Instr.endRound l jump).run c.P Dj= .ok (.bool jump.isNone) pr∧bV ⟨c.P,c.n,oI,aV (⟨some l,.is (.loop rec)⟩::⟨some D,.dx⟩::Ls s g),A,some l,[]⟩ [] (⟨some l,.is (.loop { rec with state:=if jump.isNone then .ready else .done,pending:=jump })⟩::⟨some D,.dx⟩::Lr) pq pr:=fun jump Lr fY=>by
     obtain⟨o,aa,ad⟩:=fY.own ⟨some l,.is (.loop { rec with state:= .busy })⟩ (by simp)
     have kn:o= .loop { rec with state:= .busy } :=ad
     subst kn
     exact⟨_,run_endRound jump aa,fY.rT (i:=0) rfl rfl⟩
    rcases Gr with⟨cl,fl,rfl,eZ,fY⟩ | ⟨q,fl,aE,rfl,eZ,fY⟩
    ·obtain⟨pr,bn,jq⟩:=fin none fY
     refine⟨_,pr,bn,.inl ⟨cl,fl,?_⟩⟩
     have KR:({ rec with state:=if (none:Option Code).isNone then .ready else .done,pending:=none } :Loop)=rec:=by rw [kV]; rfl
     rw [KR] at jq
     exact jq.ends (ρ:=fun _:γ=>I.of true) (Lo:=fun g=>⟨some l,.is (.loop rec)⟩::⟨some D,.dx⟩::Ls cl g) eZ (List.Sublist.refl _) (of_bool.2 rfl)
    obtain⟨pr,bn,jq⟩:=fin (some (fo q)) fY
    have key:ky (aV (⟨some l,.is (.loop rec)⟩::⟨some D,.dx⟩::Ls s g)) A oI (fun _:γ=>I.of false) (fun g=>⟨some l,.is (.loop { rec with state:= .done,pending:=some (fo q) })⟩::⟨some D,.dx⟩::Lx q g) (.returned (.bool false)) pr:=
     jq.ends (ρ:=fun _:γ=>I.of false) (Lo:=fun g=>⟨some l,.is (.loop { rec with state:= .done,pending:=some (fo q) })⟩::⟨some D,.dx⟩::Lx q g) eZ (List.Sublist.refl _) (of_bool.2 rfl)
    exact My aE bn (.inr ⟨q,fl,key⟩)
  | exit id=>exact hq.elim
  | goto t=>exact hq.elim
  | ret=>exact hq.elim
  | panic Lv=>exact hq.elim
  | outgrown=>exact hq.elim
 have BM:=ml.go lN nk hq (fun s g=>⟨some l,.is (.loop rec)⟩::⟨some D,.dx⟩::kr s g) (fun s g=>by rw [qT]; simp only [nE,List.cons_append]) step cw g0 (fun r=>k r nM) aQ c.ca hW (.func (.yield l) #[] #[]) iA BL KO J4
 have lp:a.eval (.tmp gt)= .func (.func f) #[] iA.toArray:=by simp [Act.eval,CQ,xa]
 refine⟨l,[FP D],hW,{ target:= .fn (.func f) iA.toArray,args:= #[.func (.yield l) #[] #[]] },hW,f,#[.func (.yield l) #[] #[]]++iA.toArray,hW,CS,?_,fun _ _=>trivial,?_,fun h=>by simp at h,?_⟩
 ·simp only [resolve,lp]
  simp [go_sem]
 ·simp [invoke,go_sem,eR.run]
 refine CallsIn.Il ?_
 have JB:(#[.func (.yield l) #[] #[]]++iA.toArray:Array Value)=(.func (.yield l) #[] #[]::iA).toArray:=by simp
 rw [JB]
 refine BM.mono fun e LJ ⟨adW,⟨⟨r,RQ⟩,eZ⟩,he,a7,aF,aX,a0,bn⟩=>?_
 subst he
 have ps:=CU.after a7 aF (by simpa [aV] using aX) (by simpa [aV] using a0)
 rw [List.append_nil] at ps
 cases r with
 | inl cl=>
   simp only [Lr] at ps
   subst qT
   obtain⟨o,dF,fx⟩:=ps.own ⟨some l,.is (.loop rec)⟩ (by simp)
   have qz:o= .loop rec:=fx
   subst qz
   have ox:=run_endLoop (P:=c.P) dF (by rw [kV]; simp)
   have jz:rec.pending=none:=by rw [kV]
   rw [jz] at ox
   refine⟨none,_,ox,?_⟩
   have tI:=(ps.rT (i:=0) (cp':= .is (.loop { rec with state:= .exhausted })) (o':= .loop { rec with state:= .exhausted }) rfl rfl).o1 1
   rw [jz] at tI
   exact m7 cl RQ eZ D _ _ (tI.mark D)
 | inr q=>
   simp only [Lr] at ps
   subst CT
   obtain⟨o,dF,fx⟩:=ps.own ⟨some l,.is (.loop { rec with state:= .done,pending:=some (fo q) })⟩ (by simp)
   have qz:o= .loop { rec with state:= .done,pending:=some (fo q) } :=fx
   subst qz
   have ox:=run_endLoop (P:=c.P) dF (by simp)
   refine⟨some (fo q),_,ox,?_⟩
   have tI:=(ps.rT (i:=0) (cp':= .is (.loop { rec with state:= .exhausted,pending:=some (fo q) })) (o':= .loop { rec with state:= .exhausted,pending:=some (fo q) }) rfl rfl).o1 1
   exact wA q RQ eZ D _ _ (tI.mark D)
end
def aI.any (α:Type):aI α:=fun Q=> ∀ x,Q x
theorem aI.any_bind {α β:Type} {k:α→aI β} {R:β→Prop} (h:aI.bind (aI.any α) k R) (x:α):k x R:=h x
theorem g2.append {A:List Nat} {W:World} :∀ {τs σs:List I} {vs us:List Value},g2 A W τs vs→g2 A W σs us→g2 A W (τs++σs) (vs++us)
 | _,_,_,_,.nil,h=>h
 | _,_,_,_,.cons h r,ad=>.cons h (r.append ad)
section
variable {c:dp} {E:List (Nat×I)} {L:List aT} {ops:Array Oper} {Q:Exit→Act→World→Prop}
variable {d:Option Tmp} {ty:TypeId} {pos:String} {af:Array Edge} {g:Option (Nat×Bool)} {x y:Operand} {t t2:TypeId}
def gn (c:dp) (E:List (Nat×I)) (L:List aT) (o:Oper) {δ:Type} (ρ:δ→I) (ax:δ→List aT):Prop:=
 ∀ a W,bV c E L a W→ht c.P o a W fun v W'=> ∃ q,bV c E (ax q) a W'∧ (ρ q).holds (aV (ax q)++c.ca) W' v
theorem ai.sa {o:Oper} {rest:List Oper} {bf:Nat} {δ:Type} {ρ:δ→I} {ax:δ→List aT} (h:gn c E L o ρ ax) (bQ:o.guard=none) (hd:o.dst=some bf) (aR:Nat.blt bf c.n=true)
 (k:∀ q,ai c ops Q rest ((bf,ρ q)::E) (ax q)):ai c ops Q (o::rest) E L:=fun a W s=>
 iD bQ (h a W s) fun v W' ⟨q,f,a2⟩=>by
  rw [hd]
  exact k q _ _ (f.put (by simpa using aR) a2)
theorem gn.perm {hJ:List aT} {o:Oper} {δ:Type} {ρ:δ→I} {ax L2:δ→List aT} (p:L.Perm hJ) (p5:∀ q,(ax q).Perm (L2 q)) (h:gn c E hJ o ρ ax):gn c E L o ρ L2:=fun a W s=>by
 have:=h a W (s.perm p)
 unfold ht at this ⊢
 exact Oper.wp_mono (fun gz W' ⟨v,aa,q,ad,aF⟩=>⟨v,aa,q,ad.perm (p5 q),(ρ q).mono (n0 (p5 q)) aF⟩) this
theorem gn.to {o:Oper} {δ:Type} {ρ:δ→I} {ax L2:δ→List aT} (e:∀ q,ax q=L2 q) (h:gn c E L o ρ ax):gn c E L o ρ L2:=by
 have:ax=L2:=funext e
 subst this; exact h
theorem gn.ab1 {o:Oper} {δ:Type} {τ:I} (h:gn c E L o (fun _:δ=>τ) (fun _=>L)):gJ c E L o τ:=fun a W s=>by
 have:=h a W s
 unfold ht at this ⊢
 exact Oper.wp_mono (fun gz W' ⟨v,aa,q,ad,aF⟩=>⟨v,aa,ad,aF⟩) this
theorem gn.call {o:Oper} {f:FuncId} {as:Act→List Value} {τs:List I} {Lin Lr:List aT} {δ:Type} {ρ:δ→I} {Lo:δ→List aT} (h:b9 c.P f τs Lin ρ Lo)
 (al:∀ a W,bV c E (Lin++Lr) a W→ (execOp a.eval o).run c.P W= .ok (.enter f (as a).toArray) W∧g2 (aV (Lin++Lr)++c.ca) W τs (as a)):gn c E (Lin++Lr) o ρ (fun q=>Lo q++Lr):=fun a W s=>by
 obtain⟨kl,aq⟩:=al a W s
 have mD:=s.nodup
 rw [fv] at mD
 obtain⟨nH,pf,qP⟩:=List.nodup_append.1 mD
 have l8:Ext (aV (Lin++Lr)++c.ca) W (aV Lin++(aV Lr++c.ca)) W:=Ba
 have gA:∀ k∈aV Lr++c.ca,k<W.heap.size∧k ∉ aV Lin:=fun k hm=>by
  rcases List.mem_append.1 hm with hm | hm
  ·exact⟨s.lt k (by rw [fv]; exact List.mem_append.2 (.inr hm)),fun h=>qP k h k hm rfl⟩
  obtain⟨aa,ad⟩:=s.fg k hm
  exact⟨aa,fun h=>ad (by rw [fv]; exact List.mem_append.2 (.inl h))⟩
 have cD:∀ k∈aV Lin,k<W.heap.size:=fun k hm=>s.lt k (by rw [fv]; exact List.mem_append.2 (.inl hm))
 refine .vM (f:=f) (args:=(as a).toArray) (W':=W) kl ?_
 refine(h (aV Lr++c.ca) W (as a) gA nH cD (fun e he=>aT.uk (s.own e (List.mem_append.2 (.inl he))) l8 fun _ _=>rfl) (aq.mono l8)).mono fun e W' ⟨v,bf,he,a7,aa,ad,aF,aX⟩=>?_
 exact⟨v,he,bf,s.after a7 aa ad aF,(ρ bf).mono H0 aX⟩
theorem gn.QC {o:Oper} {cd:Type} [fr cd] {hp:a1 cd} {Lin Lr:List aT} {δ:Type} {ρ:δ→I} {Lo:δ→List aT} {hq:δ→a1 cd} (n m:Nat) (ar:L.drop n=a8 hp) (aa:(L.take n).take m=Lin) (ad:(L.take n).drop m=Lr)
 (h:gn c E ((Lin++a8 hp)++Lr) o ρ (fun q=>(Lo q++a8 (hq q))++Lr)):gn c E L o ρ (fun q=>(Lo q++Lr)++a8 (hq q)):=by
 have e:L=(Lin++Lr)++a8 hp:=by rw [← aa,← ad,List.take_append_drop,← ar,List.take_append_drop]
 clear ar aa ad
 subst e
 exact h.perm n1 fun q=>n1
theorem gn.m1 {f:FuncId} {xs:List Operand} {ats:Array TypeId} {cd:Type} [fr cd] {hp:a1 cd} {τs:List I} {Lin Lr:List aT} {δ:Type} {ρ:δ→I} {Lo:δ→List aT} {hq:δ→a1 cd} (n m:Nat) (ar:L.drop n=a8 hp) (eR:bM c.P f) (h:b9 c.P f τs (Lin++a8 hp) ρ (fun d=>Lo d++a8 (hq d)))
 (aa:(L.take n).take m=Lin) (ad:(L.take n).drop m=Lr) (aq:iq c E L xs τs):gn c E L ⟨d,.call ⟨.value (.func f),xs.toArray,ats⟩,ty,pos,af,g⟩ ρ (fun q=>(Lo q++Lr)++a8 (hq q)):=by
 have e:L=(Lin++Lr)++a8 hp:=by rw [← aa,← ad,List.take_append_drop,← ar,List.take_append_drop]
 refine gn.QC n m ar aa ad (gn.call (as:=fun a=>xs.map a.eval) h fun a W s=>⟨by simp [execOp,resolve,Deferred.ofValue,Act.eval,invoke,eR.run],?_⟩)
 subst e
 exact(aq.holds a W (s.perm n1.symm)).mono (n0 n1)
theorem bd.Xs {oH:Operand} {f:FuncId} {uP τs:List I} {xs:List Operand} {ats:Array TypeId} (eR:bM c.P f) (a7:bd c E L oH (.gU f uP)) (aq:iq c E L xs τs) {a:Act} {W:World} (s:bV c E L a W):
 ∃ iA:List Value,(execOp a.eval ⟨d,.call ⟨.value oH,xs.toArray,ats⟩,ty,pos,af,g⟩).run c.P W= .ok (.enter f (xs.map a.eval++iA).toArray) W∧g2 (aV L++c.ca) W (τs++uP) (xs.map a.eval++iA):=by
 obtain⟨iA,aa,ad⟩:=a7 a W s
 exact⟨iA,by simp [execOp,resolve,Deferred.ofValue,aa,invoke,eR.run],(aq.holds a W s).append ad⟩
theorem gn.gU {oH:Operand} {f:FuncId} {uP τs:List I} {xs:List Operand} {ats:Array TypeId} {Lin Lr:List aT} {δ:Type} {ρ:δ→I} {Lo:δ→List aT} (m:Nat) (eR:bM c.P f) (a7:bd c E L oH (.gU f uP)) (h:b9 c.P f (τs++uP) Lin ρ Lo)
 (aa:L.take m=Lin) (ad:L.drop m=Lr) (aq:iq c E L xs τs):gn c E L ⟨d,.call ⟨.value oH,xs.toArray,ats⟩,ty,pos,af,g⟩ ρ (fun q=>Lo q++Lr):=by
 have e:L=Lin++Lr:=by rw [← aa,← ad,List.take_append_drop]
 clear aa ad
 subst e
 intro a W s
 obtain⟨iA,aF,aX⟩:=bd.Xs (d:=d) (ty:=ty) (pos:=pos) (af:=af) (g:=g) (ats:=ats) eR a7 aq s
 have mD:=s.nodup
 rw [fv] at mD
 obtain⟨nH,pf,qP⟩:=List.nodup_append.1 mD
 have l8:Ext (aV (Lin++Lr)++c.ca) W (aV Lin++(aV Lr++c.ca)) W:=Ba
 have gA:∀ k∈aV Lr++c.ca,k<W.heap.size∧k ∉ aV Lin:=fun k hm=>by
  rcases List.mem_append.1 hm with hm | hm
  ·exact⟨s.lt k (by rw [fv]; exact List.mem_append.2 (.inr hm)),fun h=>qP k h k hm rfl⟩
  obtain⟨aa,ad⟩:=s.fg k hm
  exact⟨aa,fun h=>ad (by rw [fv]; exact List.mem_append.2 (.inl h))⟩
 have cD:∀ k∈aV Lin,k<W.heap.size:=fun k hm=>s.lt k (by rw [fv]; exact List.mem_append.2 (.inl hm))
 refine .vM (f:=f) (W':=W) aF ?_
 refine(h (aV Lr++c.ca) W _ gA nH cD (fun e he=>aT.uk (s.own e (List.mem_append.2 (.inl he))) l8 fun _ _=>rfl) (aX.mono l8)).mono fun e W' ⟨v,bf,he,a7,aa,ad,aF,aX⟩=>?_
 exact⟨v,he,bf,s.after a7 aa ad aF,(ρ bf).mono H0 aX⟩
theorem iq.perm {hJ:List aT} (p:L.Perm hJ):∀ {xs:List Operand} {τs:List I},iq c E L xs τs→iq c E hJ xs τs
 | [],[],h=>h
 | _::_,_::_,h=>⟨h.1.perm p,iq.perm p h.2⟩
 | [],_::_,h=>h.elim
 | _::_,[],h=>h.elim
theorem gn.JN {oH:Operand} {f:FuncId} {uP τs:List I} {xs:List Operand} {ats:Array TypeId} {cd:Type} [fr cd] {hp:a1 cd} {Lin Lr:List aT} {δ:Type} {ρ:δ→I} {Lo:δ→List aT} {hq:δ→a1 cd} (n m:Nat) (ar:L.drop n=a8 hp) (eR:bM c.P f) (a7:bd c E L oH (.gU f uP)) (h:b9 c.P f (τs++uP) (Lin++a8 hp) ρ (fun d=>Lo d++a8 (hq d)))
 (aa:(L.take n).take m=Lin) (ad:(L.take n).drop m=Lr) (aq:iq c E L xs τs):gn c E L ⟨d,.call ⟨.value oH,xs.toArray,ats⟩,ty,pos,af,g⟩ ρ (fun q=>(Lo q++Lr)++a8 (hq q)):=by
 have e:L=(Lin++Lr)++a8 hp:=by rw [← aa,← ad,List.take_append_drop,← ar,List.take_append_drop]
 refine gn.QC n m ar aa ad ?_
 subst e
 refine gn.to (fun q=>rfl) (gn.gU (Lin++a8 hp).length eR (a7.perm n1) h List.take_left List.drop_left (aq.perm n1))
theorem gn.obj {f:FuncId} {xs:List Operand} {ats:Array TypeId} {cd:Type} [fr cd] {hp:a1 cd} {p:Nat} {k:cd} {τs:List I} {Lin:List aT} {δ:Type} {ρ:δ→I} {Lo:δ→List aT} (n:Nat) (k':δ→cd) (ar:L.drop n=a8 hp) (hp':pat hp p=some k) (eR:bM c.P f) (h:b9 c.P f τs Lin ρ Lo)
 (aw:fr.iv p k=Lin) (jL:∀ q,fr.iv p (k' q)=Lo q) (aq:iq c E L xs τs):gn c E L ⟨d,.call ⟨.value (.func f),xs.toArray,ats⟩,ty,pos,af,g⟩ ρ (fun q=>L.take n++a8 (dr hp p (k' q))):=by
 obtain⟨R,a4,ba⟩:=vI hp'
 have e:L=L.take n++a8 hp:=by rw [← ar,List.take_append_drop]
 have dw:∀ {M X:List aT},M.Perm (X++R)→ (L.take n++M).Perm (X++(R++L.take n)):=fun h=>List.perm_append_comm.trans ((h.append_right _).trans (by rw [List.append_assoc]))
 have KX:L.Perm (Lin++(R++L.take n)):=by
  conv=>lhs; rw [e]
  exact dw (by rw [← aw]; exact a4)
 refine gn.perm KX (fun q=>(dw (ba (k' q))).symm) ?_
 refine gn.to (fun q=>by rw [jL]) (gn.call (Lr:=R++L.take n) (as:=fun a=>xs.map a.eval) h fun a W s=>⟨by simp [execOp,resolve,Deferred.ofValue,Act.eval,invoke,eR.run],?_⟩)
 exact(aq.holds a W (s.perm KX.symm)).mono (n0 KX)
theorem gJ.obj {f:FuncId} {xs:List Operand} {ats:Array TypeId} {cd:Type} [fr cd] {hp:a1 cd} {p:Nat} {k:cd} {τs:List I} {Lin:List aT} {δ:Type} {τ:I} (n:Nat) (ar:L.drop n=a8 hp) (hp':pat hp p=some k) (eR:bM c.P f) (h:b9 c.P f τs Lin (fun _:δ=>τ) (fun _=>Lin))
 (aw:fr.iv p k=Lin) (aq:iq c E L xs τs):gJ c E L ⟨d,.call ⟨.value (.func f),xs.toArray,ats⟩,ty,pos,af,g⟩ τ:=by
 have e:L=L.take n++a8 hp:=by rw [← ar,List.take_append_drop]
 have ac4:dr hp p k=hp:=by
  clear e ar h aw
  induction hp with
  | nil=>rfl
  | cons z r bR=>
    obtain⟨q,aeT⟩:=z
    simp only [pat] at hp'
    simp only [dr]
    split at hp'
    ·rename_i e; simp only [Option.some.injEq] at hp'; rw [if_pos e,hp']
    rename_i e; rw [if_neg e,bR hp']
 refine gn.ab1 (gn.to (fun q=>?_) (gn.obj (d:=d) (ty:=ty) (pos:=pos) (af:=af) (g:=g) (ats:=ats) n (fun _=>k) ar hp' eR h aw (fun _=>aw) aq))
 rw [ac4,← e]
theorem ai.ZR {l:List Oper} {cd:Type} [fr cd] {hp:a1 cd} {p:Nat} {Lin Lr:List aT} (n m:Nat) (mk:cd) (ar:L.drop n=a8 hp) (aa:(L.take n).take m=Lin) (ad:(L.take n).drop m=Lr) (aw:fr.iv p mk=Lin) (hm:p∈aV Lin)
 (k:∀ a:Nat×a1 cd,a.1 ∉ hp.map (·.1)∧a.2=(a.1,mk)::hp→a.1=p→ai c ops Q l E (Lr++a8 a.2)):ai c ops Q l E L:=fun a W s=>by
 have e:L=(Lin++Lr)++a8 hp:=by rw [← aa,← ad,List.take_append_drop,← ar,List.take_append_drop]
 have dw:L.Perm (Lr++a8 ((p,mk)::hp)):=by
  rw [e,a8,aw,← List.append_assoc]
  exact List.perm_append_comm.append_right _
 refine k (p,(p,mk)::hp) ⟨fun ac5=>?_,rfl⟩ rfl _ _ (s.perm dw)
 have gW:=s.nodup
 rw [e,fv,fv] at gW
 exact(List.nodup_append.1 gW).2.2 p (List.mem_append.2 (.inl hm)) p (Pj ac5) rfl
end
section
variable {c:dp} {E:List (Nat×I)} {L:List aT} {ops:Array Oper} {Q:Exit→Act→World→Prop}
theorem cI.q {hs:List dO} {i np:Nat} {o:Oper} {h:dO} (cE:cI c ops Q hs E L i o h):IU c ops Q hs E L np i o h:=fun hd E' ax aa ad _=>cE hd E' ax aa ad
structure Bg (P:Program) (f:FuncId) (τs:List I) {cd:Type} [fr cd] (hp:a1 cd) {α:Type} (τ:α→I) (run:∀ {σ ε:Type},(α→σ→Option (σ ⊕ ε))→σ→Option (σ ⊕ ε)):Prop where
 go:∀ {σ ε γ:Type} (Ls:σ→γ→List aT) (Lx:ε→γ→List aT) (kr:σ→γ→List aT),(∀ s g,Ls s g=kr s g++a8 hp)→KN P f τs [] τ (run (σ:=σ) (ε:=ε)) Ls Lx
theorem Bg.of {P:Program} {f:FuncId} {fn:Func} {code:Code} {n:Nat} {τs:List I} {cd:Type} [fr cd] {hp:a1 cd} {α:Type} {τ:α→I} {run:∀ {σ ε:Type},(α→σ→Option (σ ⊕ ε))→σ→Option (σ ⊕ ε)}
 (a7:P.funcs[f]? =some fn) (hb:fn.body=some code) (aR:fn.ntmps=n) (hlen:Nat.ble (τs.length+1) n=true)
 (h:∀ {σ ε γ:Type} (Ls:σ→γ→List aT) (Lx:ε→γ→List aT) (kr:σ→γ→List aT),(∀ s g,Ls s g=kr s g++a8 hp)→ ∀ (step:α→σ→Option (σ ⊕ ε)) (cw:σ) (g0:γ) (r:σ ⊕ ε),run step cw=some r→
  ∀ W A u,w9 P u τ Ls Lx step (fun dh W'=>Ext (aV (Ls cw g0)++A) W dh W')→
    ag ⟨P,n,W,aV (Ls cw g0),A,none,[]⟩ (bodyPost P fn (ky (aV (Ls cw g0)) A W (fun _:γ=>.ep []) (fun g=>[]++Lr Ls Lx r g))) code (params 0 (.eq u::τs)) (Ls cw g0)):Bg P f τs hp τ run:=by
 refine⟨?_⟩
 intro σ ε γ Ls Lx kr nE step cw g0 r aQ A W u vs ao a2 a6
 refine calls_of_wp a7 hb (wpIn_wide.1 (h Ls Lx kr nE step cw g0 r aQ W A u a6 _ _ ?_))
 have nj:g2 (aV (Ls cw g0)++A) W (.eq u::τs) (u::vs):= .cons rfl a2
 have ln:=nj.length
 have hle:τs.length+1≤n:=Nat.le_of_ble_eq_true hlen
 exact
 {defers:=rfl
  size:=by simp at ln; simp [aR,ln]; omega
  env:=fun t τ eU=>by
   obtain⟨_,v,ad,aF⟩:=vB nj 0 t τ eU
   refine⟨v,?_,aF⟩
   have cD:t<(u::vs).length:=(List.getElem?_eq_some_iff.1 ad).1
   rw [Array.getElem?_append_left (by simpa using cD)]
   simpa using ad
  dQ:= .refl _ _
  own:=ao.ok
  nodup:=ao.nodup
  lt:=ao.lt
  gl:=fun k aw _=>aw
  fg:=ao.fg }
theorem YX {cd:Type} [fr cd] {σ γ:Type} {Ls kr:σ→γ→List aT} {hp:a1 cd} {s:σ} {g:γ} {p:Nat} {k:cd} {e:aT} (n:Nat) (ar:L.drop n=Ls s g) (nE:∀ s g,Ls s g=kr s g++a8 hp) (h:pat hp p=some k) (aw:fr.iv p k= [e]):e∈L:=
 PX (hq:=fun _=>hp) n ar nE h aw
theorem HJ {gt p:Nat} {assign body:Code} {f:FuncId} {na:List I} {cd:Type} [fr cd] {hp:a1 cd} {α σ ε γ:Type} {τ:α→I} {run:∀ {σ ε:Type},(α→σ→Option (σ ⊕ ε))→σ→Option (σ ⊕ ε)}
 {Ls:σ→γ→List aT} {Lx:ε→γ→List aT} {step:α→σ→Option (σ ⊕ ε)} {cw:σ} {g0:γ} {r:σ ⊕ ε} (kr:σ→γ→List aT) (fo:ε→Code)
 (al:c.rd=none) (eR:bM c.P f) (bQ:look E gt=some (.gU f na)) (ml:Bg c.P f na hp τ run) (aQ:run step cw=some r) (nE:∀ s g,Ls s g=kr s g++a8 hp) (ar:L=Ls cw g0) (hp':Nat.blt p c.n=true)
 (pE:∀ x s r,step x s=some r→ ∀ g (kY:World) (k2 kZ:List Nat) (l D:Nat) (rec:Loop),rec.state= .ready→
  ag ⟨c.P,c.n,kY,k2,kZ,some l,[]⟩ (Exit.then (Di ⟨c.P,c.n,kY,k2,kZ,some l,[]⟩ l body (Dh ⟨c.P,c.n,kY,k2,kZ,some l,[]⟩ fo l D { rec with state:= .busy } Ls Lx r)) (fun _ _ _=>False)) assign ((p,τ x)::E) (⟨some l,.is (.loop rec)⟩::⟨some D,.dx⟩::Ls s g))
 (m7:∀ cl,r= .inl cl→ ∀ g D,ae { c with ds:=D::c.ds } Q .normal E (⟨some D,.dx⟩::Ls cl g))
 (wA:∀ q,r= .inr q→ ∀ g D,ag { c with ds:=D::c.ds } Q (fo q) E (⟨some D,.dx⟩::Lx q g)):
 ag c Q (.rangeFunc (.tmp gt) #[p] assign body) E L:=
 Nr (Lin:= []) (run:=run) fo al eR bQ (fun ay aO nk=>ml.go (fun s g=>ay::aO::Ls s g) nk (fun s g=>ay::aO::kr s g) (fun s g=>by rw [nE]; rfl)) aQ ar hp' pE m7 wA
end
structure Raw where
 f:FuncId
 us:Option (List Value)
instance:Inhabited Raw:=⟨⟨0,none⟩⟩
def Raw.val:Raw→Value
 | ⟨f,some us⟩=>.func (.func f) #[] us.toArray
 | ⟨_,none⟩=>.nilFunc
instance:aj Raw where
 size:=1
 agg:=false
 rep _ _ cs x:=cs= [x.val]
 len h:=by rw [h]; rfl
 one h:=by
  intro v a2
  rw [h,List.mem_singleton] at a2
  subst a2
  rename_i x
  obtain⟨f,us⟩:=x
  cases us <;> rfl
 flat _:=rfl
 mono _ h:=h
instance:bk Raw:=⟨[.nilFunc],fun _ _=>rfl⟩
theorem Pm {A W v} {x:Raw} :(I.of x).holds A W v↔v=x.val:=by
 constructor
 ·intro h
  exact oO (by have:=h.1; exact this) h.2
 intro h
 subst h
 obtain⟨f,us⟩:=x
 cases us <;> exact⟨rfl,rfl⟩
section
variable {c:dp} {E:List (Nat×I)} {L:List aT} {ops:Array Oper} {Q:Exit→Act→World→Prop}
variable {d:Option Tmp} {ty:TypeId} {pos:String} {af:Array Edge} {g:Option (Nat×Bool)} {x y:Operand} {t t2:TypeId}
theorem g2.eqs {A:List Nat} {W:World} :∀ {us vs:List Value},g2 A W (us.map I.eq) vs→vs=us
 | [],_,.nil=>rfl
 | _::_,_,.cons h r=>by rw [r.eqs]; congr 1
theorem g2.QD {A:List Nat} {W:World} :∀ {us:List Value},g2 A W (us.map I.eq) us
 | []=>.nil
 | _::_=>.cons rfl .QD
theorem PY {f:FuncId} {xs:List Operand} {us:List Value} (aq:iq c E L xs (us.map I.eq)):cf c E L ⟨d,.makeFunc (.func f) #[] xs.toArray,ty,pos,af,g⟩ (.of (⟨f,some us⟩:Raw)):= .pure fun a W s=>
 ⟨.func (.func f) #[] us.toArray,by
   have h:=(aq.holds a W s).eqs
   simp [execOp,Instr.makeFunc,h],Pm.2 rfl⟩
theorem HT {f:FuncId} {us:List Value} (aq:bd c E L x (.of (⟨f,some us⟩:Raw))):bd c E L x (.gU f (us.map I.eq)):=fun a W s=>
 ⟨us,Pm.1 (aq a W s),.QD⟩
end
section
variable {c:dp} {E:List (Nat×I)} {L:List aT} {ops:Array Oper} {Q:Exit→Act→World→Prop}
theorem ai.ZS {l:List Oper} {p q:Nat} (gK:Nat) (ao:look E gK=some (.eq (.pointer (some ⟨p,0,none⟩)))) (he:q=p) (k:ai c ops Q l ((gK,.of (some q:Ref))::E) L):ai c ops Q l E L:=fun a W s=>by
 subst he
 refine k a W (s.less fun t τ h=>?_)
 simp only [look] at h
 by_cases e:Nat.beq gK t=true
 ·rw [e] at h
  simp only [cond_true,Option.some.injEq] at h
  have:=eD.1 e
  subst this
  subst h
  exact⟨_,ao,fun A W v a2=>uy.2 a2⟩
 simp only [Bool.not_eq_true] at e
 rw [e] at h
 exact⟨τ,h,fun _ _ _ h=>h⟩
end
section
variable {c:dp} {E:List (Nat×I)} {L:List aT} {ops:Array Oper} {Q:Exit→Act→World→Prop}
def yF (ops:Array Oper) (n:Nat) (hs:List (Option Nat×List Nat×List Nat×List Nat)) (E:List Nat):Bool:=
 decide (hs.length=n)&&decide (n≤ops.size)&&decide (hs.filterMap (·.1)).Nodup&&((List.range n).all fun m=>match hs[m]? with | some (some s,up,_)=> !E.contains s||(List.range n).all fun k=>decide (k=m)||up.contains k | _=>true)&&
 ((List.range n).all fun i=>match hs[i]? with
   | none=>false
   | some (_,up,rd,wr)=>
     (((ops[i]?).map fun o=>(o.dst==(hs[i]?).bind (·.1))&&o.after.all fun e=> !Region.binds .any e||decide (e.on<i)).getD false)&&
     (up.all fun k=>Region.waitsFor .any ops i k||(List.range i).any fun m=>Region.waitsFor .any ops i m&&((hs[m]?).map fun h=>h.2.1.contains k).getD false)&&
     ((List.range n).all fun k=>match hs[k]? with
       | none=>true
       | some (_,KH,_,CK)=>
         (!(decide (k<i)&&CK.any rd.contains)||up.contains k)&&(!(decide (i<k)&&CK.any fun j=>rd.contains j||wr.contains j)||KH.contains i)))&&
 (decide (n=ops.size)||(Region.sinkB .any ops n&&Region.chainB .any ops n))&&
 Region.seqB .any ops (ops.size - n) n ((List.range n).foldl (fun l i=>l.setIfInBounds i true) (Array.replicate ops.size false))
theorem Vf {n:Nat} {hs:List dO} {np:Nat} (hw:∀ h∈hs,∀ j∈h.wr,j<np∨L.length≤j) (h1:yF ops n (jM hs) (E.map (·.1))=true) (cE:pB c ops Q hs E L np 0 (ops.toList.take n) hs)
 (b1:∀ hd,ai c ops Q (ops.toList.drop n) (iu (fun _=>true) hd E 0 hs) (hB (fun _=>true) hd 0 hs L)):
 ∀ m (a9:Array Bool) (hd:Nat→Hid) (a:Act) (W:World),((List.range n).filter fun i=> !a9.getD i true).length≤m→HeadInv .any ops n a9→
   bV c (iu (fun i=>a9.getD i false) hd E 0 hs) (hB (fun i=>a9.getD i false) hd 0 hs L) a W→wpAnyIn c.F 9 c.P .any ops Q (m+(ops.size - n)) a9 a W:=by
 simp only [yF,Bool.and_eq_true,decide_eq_true_eq,Bool.or_eq_true] at h1
 obtain⟨⟨⟨⟨⟨⟨Jx,aR⟩,gW⟩,Cc⟩,jG⟩,wv⟩,qv⟩:=h1
 have hlen:hs.length=n:=by simpa [jM] using Jx
 have l9:∀ i,i<n→ ∃ h o,hs[i]? =some h∧ops[i]? =some o:=fun i ak=>⟨hs[i]'(by omega),ops[i],by simp,by simp⟩
 have qn:∀ (i:Nat) (h:dO) (o:Oper),hs[i]? =some h→ops[i]? =some o→
  o.dst=h.slot∧ (∀ e∈o.after,Region.binds .any e=true→e.on<i)∧
  (∀ k∈h.up,Region.waitsFor .any ops i k=true∨ ∃ m,m<i∧Region.waitsFor .any ops i m=true∧ ∃ x,hs[m]? =some x∧k∈x.up)∧
  (∀ (k:Nat) (x:dO),hs[k]? =some x→ (k<i→ (∃ j∈x.wr,h.rd.contains j=true)→k∈h.up)∧ (i<k→ (∃ j∈x.wr,h.rd.contains j=true∨h.wr.contains j=true)→i∈x.up)):=by
  intro i h o ak bm
  have cD:i<n:=by have:=(List.getElem?_eq_some_iff.1 ak).1; omega
  have aa:=List.all_eq_true.1 jG i (List.mem_range.2 cD)
  rw [yj ak] at aa
  simp only [Bool.and_eq_true] at aa
  obtain⟨⟨ad,aF⟩,aX⟩:=aa
  simp only [bm,Option.map_some,Option.getD_some,Bool.and_eq_true,Option.bind_some,beq_iff_eq] at ad
  refine⟨ad.1,fun e he hb=>?_,fun k aw=>?_,fun k x aq=>?_⟩
  ·have:=Array.all_eq_true_iff_forall_mem.1 ad.2 e he
   simp [hb] at this
   exact this
  ·have:=List.all_eq_true.1 aF k aw
   simp only [Bool.or_eq_true,List.any_eq_true,Bool.and_eq_true,List.mem_range] at this
   rcases this with a0 | ⟨m,a0,bn,cZ⟩
   ·exact .inl a0
   have hm:m<hs.length:=by omega
   rw [yj (List.getElem?_eq_getElem hm)] at cZ
   exact .inr ⟨m,a0,bn,hs[m],List.getElem?_eq_getElem hm,by simpa using cZ⟩
  have Cz:k<n:=by have:=(List.getElem?_eq_some_iff.1 aq).1; omega
  have:=List.all_eq_true.1 aX k (List.mem_range.2 Cz)
  rw [yj aq] at this
  simp only [Bool.and_eq_true,Bool.or_eq_true,Bool.not_eq_true',Bool.and_eq_false_iff,decide_eq_false_iff_not,List.contains_iff_mem] at this
  refine⟨fun pX ⟨j,aE,aQ⟩=>?_,fun iS ⟨j,aE,aQ⟩=>?_⟩
  ·rcases this.1 with(a0 | a0) | a0
   ·exact absurd pX a0
   ·have:=List.any_eq_false.1 a0 j aE
    exact absurd aQ this
   exact a0
  rcases this.2 with(a0 | a0) | a0
  ·exact absurd iS a0
  ·have:=List.any_eq_false.1 a0 j aE
   simp only [Bool.or_eq_true] at this
   exact absurd aQ this
  exact a0
 have wz:∀ (i j s:Nat) (x y:dO),hs[i]? =some x→hs[j]? =some y→x.slot=some s→y.slot=some s→i=j:=by
  have key:∀ (l:List dO),((jM l).filterMap (·.1)).Nodup→ ∀ (i j s:Nat) (x y:dO),l[i]? =some x→l[j]? =some y→x.slot=some s→y.slot=some s→i=j:=by
   intro l
   induction l with
   | nil=>intro _ i j s x y h; simp at h
   | cons z r bR=>
     intro gW i j s x y ak aE aq a6
     have aQ:((jM r).filterMap (·.1)).Nodup:=by
      cases df:z.slot with
      | none=>simpa [jM,df] using gW
      | some w=>
        simp only [jM,List.map_cons,List.filterMap_cons,df] at gW
        exact(List.nodup_cons.1 gW).2
     have qu:z.slot=some s→ ∀ (q:Nat) (v:dO),r[q]? =some v→v.slot≠some s:=fun df q v hq a2=>by
      simp only [jM,List.map_cons,List.filterMap_cons,df] at gW
      exact(List.nodup_cons.1 gW).1 (List.mem_filterMap.2 ⟨_,List.mem_map.2 ⟨v,List.mem_of_getElem? hq,rfl⟩,a2⟩)
     cases i with
     | zero=>
       simp only [List.getElem?_cons_zero,Option.some.injEq] at ak
       subst ak
       cases j with
       | zero=>rfl
       | succ j=>simp only [List.getElem?_cons_succ] at aE; exact absurd a6 (qu aq j y aE)
     | succ i=>
       simp only [List.getElem?_cons_succ] at ak
       cases j with
       | zero=>
         simp only [List.getElem?_cons_zero,Option.some.injEq] at aE
         subst aE
         exact absurd aq (qu a6 i x ak)
       | succ j=>simp only [List.getElem?_cons_succ] at aE; rw [bR aQ i j s x y ak aE aq a6]
  exact key hs gW
 have Jy:∀ (t:Nat) (τ:I),look E t=some τ→ ∀ (m:Nat) (h:dO),hs[m]? =some h→h.slot=some t→ ∀ k,k<n→k≠m→k∈h.up:=by
  intro t τ ao m h hm fl k aw tq
  have nd:m<n:=by have:=(List.getElem?_eq_some_iff.1 hm).1; omega
  have aa:=List.all_eq_true.1 Cc m (List.mem_range.2 nd)
  rw [show(jM hs)[m]? =some (h.slot,h.up,h.rd,h.wr) by simp [jM,hm],fl] at aa
  have uO:t∈E.map (·.1):=by
   clear Cc aa cE b1 hm fl
   induction E with
   | nil=>simp [look] at ao
   | cons x r bR=>
     obtain⟨s,σ⟩:=x
     simp only [look] at ao
     by_cases e:Nat.beq s t=true
     ·have:=eD.1 e; subst this; simp
     simp only [Bool.not_eq_true] at e
     rw [e] at ao
     simp only [List.map_cons,List.mem_cons]
     exact .inr (bR ao)
  replace aa:(!(E.map (·.1)).contains t||(List.range n).all fun k=>decide (k=m)||h.up.contains k)=true:=aa
  rw [show(E.map (·.1)).contains t=true by simpa using uO] at aa
  have ad:∀ x,x<n→x=m∨x∈h.up:=by simpa using aa
  exact(ad k aw).resolve_left tq
 have tr:∀ (a9:Array Bool),HeadInv .any ops n a9→ ∀ (d i:Nat),i≤d→ ∀ (h:dO) (o:Oper),hs[i]? =some h→ops[i]? =some o→ (∀ e∈o.after,Region.binds .any e=true→a9.getD e.on false=true)→ ∀ k∈h.up,a9.getD k false=true:=by
  intro a9 inv d
  induction d with
  | zero=>
    intro i ak h o dD oC hw k aw
    rcases (qn i h o dD oC).2.2.1 k aw with aa | ⟨m,hm,_⟩
    ·obtain⟨k3,ix,e,he,hb,lK⟩:=Region.waitsFor_spec aa
     rw [oC] at ix; cases ix
     rw [← lK]; exact hw e he hb
    omega
  | succ d bR=>
    intro i ak h o dD oC hw k aw
    rcases (qn i h o dD oC).2.2.1 k aw with aa | ⟨m,hm,aa,x,aq,KI⟩
    ·obtain⟨k3,ix,e,he,hb,lK⟩:=Region.waitsFor_spec aa
     rw [oC] at ix; cases ix
     rw [← lK]; exact hw e he hb
    obtain⟨k3,ix,e,he,hb,lK⟩:=Region.waitsFor_spec aa
    rw [oC] at ix; cases ix
    have nd:=hw e he hb
    rw [lK] at nd
    obtain⟨aP,q8,acL,qQ⟩:=l9 m (by have:=(List.getElem?_eq_some_iff.1 dD).1; omega)
    exact bR m (by omega) x q8 aq qQ (fun e he hb=>inv.closed m q8 qQ nd e he hb) k KI
 have m7:∀ (a9:Array Bool) (hd:Nat→Hid) (a:Act) (W:World),(∀ i,i<n→a9.getD i true=true)→HeadInv .any ops n a9→
  bV c (iu (fun i=>a9.getD i false) hd E 0 hs) (hB (fun i=>a9.getD i false) hd 0 hs L) a W→wpAnyIn c.F 9 c.P .any ops Q (ops.size - n) a9 a W:=by
  intro a9 hd a W qo inv st
  have ao:=HD inv aR qo
  rw [← ao] at qv
  have m5:(ops.toList.drop n).length=ops.size - n:=by simp
  rw [← m5]
  rw [← m5] at qv
  refine An (ops.toList.drop n) n a9 a W (fun j=>by simp) qv (b1 hd a W ?_)
  have y8:∀ m,m<hs.length→a9.getD (0+m) false=true:=fun m hm=>by
   have aa:=qo m (by omega)
   have ad:m<a9.size:=by rw [inv.size]; omega
   simpa [ad] using aa
  rw [HG (ls':=fun _=>true) y8,HZ (ls':=fun _=>true) y8] at st
  exact st
 have more:∀ f (a9:Array Bool) a W,wpAnyIn c.F 9 c.P .any ops Q f a9 a W→wpAnyIn c.F 9 c.P .any ops Q (f+1) a9 a W:=by
  intro f
  induction f with
  | zero=>intro a9 a W h; exact⟨fun _=>h.2,fun i ak=>by rw [h.1] at ak; cases ak⟩
  | succ f Cu=>intro a9 a W h; exact⟨h.1,fun i ak=>wpOpIn_mono (fun gz q6 dc=>Cu _ gz q6 dc) (h.2 i ak)⟩
 intro m
 induction m with
 | zero=>
   intro a9 hd a W hm inv st
   rw [Nat.zero_add]
   refine m7 a9 hd a W (fun i ak=>?_) inv st
   cases h:a9.getD i true with
   | true=>rfl
   | false=>
     have:i∈ (List.range n).filter fun i=> !a9.getD i true:=List.mem_filter.2 ⟨List.mem_range.2 ak,by rw [h]; rfl⟩
     rw [List.length_eq_zero_iff.1 (Nat.le_zero.1 hm)] at this
     cases this
 | succ m bR=>
   intro a9 hd a W hm inv st
   rw [show m+1+(ops.size - n)=(m+(ops.size - n))+1 by omega]
   by_cases BN:∀ i,i<n→a9.getD i true=true
   ·have aa:=m7 a9 hd a W BN inv st
    have key:∀ k,wpAnyIn c.F 9 c.P .any ops Q (k+(ops.size - n)) a9 a W:=by
     intro k
     induction k with
     | zero=>rw [Nat.zero_add]; exact aa
     | succ k Cv=>rw [show k+1+(ops.size - n)=(k+(ops.size - n))+1 by omega]; exact more _ _ _ _ Cv
    exact more _ _ _ _ (key m)
   have hex:∃ i,i<n∧a9.getD i true=false:=by
    false_or_by_contra
    rename_i ad
    exact BN fun i ak=>by
     cases h:a9.getD i true with
     | true=>rfl
     | false=>exact absurd ⟨i,ak,h⟩ ad
   have Bi:∀ t∈Region.ready .any ops a9,t<n:=by
    intro t qJ
    rcases Nat.lt_or_ge t n with h | h
    ·exact h
    obtain⟨i,ak,iT⟩:=hex
    have Re:n<ops.size∨n=ops.size:=by omega
    have ab2:t<ops.size:=by
     obtain⟨_,o,bm,_⟩:=mem_ready.1 qJ
     exact(Array.getElem?_eq_some_iff.1 bm).1
    rcases wv with aa | aa
    ·omega
    exact absurd qJ (tail_waits aa.1 aa.2 (by omega) inv _ i rfl ak iT t h)
   refine⟨fun bT=>?_,fun i ak=>?_⟩
   ·exfalso
    have key:∀ d i,i≤d→i<n→a9.getD i true=true:=by
     intro d
     induction d with
     | zero=>
       intro i w2 ak
       cases ao:a9.getD i true with
       | true=>rfl
       | false=>
         obtain⟨h,o,dD,bm⟩:=l9 i ak
         have:i∈Region.ready .any ops a9:=mem_ready.2 ⟨ao,o,bm,fun e he hb=>by have:=(qn i h o dD bm).2.1 e he hb; omega⟩
         rw [bT] at this; cases this
     | succ d CL=>
       intro i w2 ak
       cases ao:a9.getD i true with
       | true=>rfl
       | false=>
         obtain⟨h,o,dD,bm⟩:=l9 i ak
         have:i∈Region.ready .any ops a9:=mem_ready.2 ⟨ao,o,bm,fun e he hb=>by
          have aa:=(qn i h o dD bm).2.1 e he hb
          have ad:=CL e.on (by omega) (by omega)
          have aF:e.on<a9.size:=by rw [inv.size]; omega
          simpa [aF] using ad⟩
         rw [bT] at this; cases this
    obtain⟨i,ak,iT⟩:=hex
    have:=key i i (Nat.le_refl _) ak
    rw [iT] at this; cases this
   have eE:i<n:=Bi i ak
   obtain⟨iT,o,bm,n7⟩:=mem_ready.1 ak
   obtain⟨h,_,dD,_⟩:=l9 i eE
   have kk:a9.getD i false=false:=getD_both iT
   have qx:i<a9.size:=by rw [inv.size]; omega
   have qw:((List.range n).filter fun j=> !(a9.setIfInBounds i true).getD j true).length≤m:=by
    have:((List.range n).filter fun j=> !(a9.setIfInBounds i true).getD j true).length<((List.range n).filter fun j=> !a9.getD j true).length:=by
     refine Fe (fun j=> !a9.getD j true) (fun j=> !(a9.setIfInBounds i true).getD j true) i (by simp only [iT]; rfl) ?_ (fun j aE=>?_) n eE
     ·simp [qx]
     by_cases e:i=j
     ·subst e; simp only [iT]; rfl
     rw [getD_set_ne true e] at aE; exact aE
    omega
   have s9:=inv.set ak eE
   obtain⟨B9,Bj,Z0,uN⟩:=qn i h o dD bm
   have wS:=tr a9 inv i i (Nat.le_refl _) h o dD bm n7
   have Bm:∀ (k:Nat) (x:dO),hs[k]? =some x→i<k→ (∃ j∈x.wr,h.rd.contains j=true∨h.wr.contains j=true)→a9.getD k false=false:=fun k x aq iS aE=>by
    have aa:=(uN k x aq).2 iS aE
    cases aw:a9.getD k false with
    | false=>rfl
    | true=>
      obtain⟨_,ok,_,hS⟩:=l9 k (by have:=(List.getElem?_eq_some_iff.1 aq).1; omega)
      have:=tr a9 inv k k (Nat.le_refl _) x ok aq hS (fun e he hb=>inv.closed k ok hS aw e he hb) i aa
      rw [kk] at this; cases this
   have Bn:hs=hs.take i++h::hs.drop (i+1):=by
    have Gp:i<hs.length:=by omega
    rw [List.getElem?_eq_getElem Gp] at dD
    cases dD
    rw [List.getElem_cons_drop]
    exact(List.take_append_drop i hs).symm
   have CM:(hs.take i).length=i:=by rw [List.length_take]; omega
   have qO:∀ (t:Nat) (τ:I),look E t=some τ→ ∀ (m:Nat) (x:dO),hs[m]? =some x→a9.getD (0+m) false=true→x.slot≠some t:=fun t τ ao m x aq ts fl=>by
    rw [Nat.zero_add] at ts
    have CN:i≠m:=fun e=>by subst e; rw [kk] at ts; cases ts
    obtain⟨_,q8,_,qQ⟩:=l9 m (by have:=(List.getElem?_eq_some_iff.1 aq).1; omega)
    have:=tr a9 inv m m (Nat.le_refl _) x q8 aq qQ (fun e he hb=>inv.closed m q8 qQ ts e he hb) i (Jy t τ ao m x aq fl i eE CN)
    rw [kk] at this; cases this
   have BK:=(pB.get cE i h o dD (by rw [List.getElem?_take,if_pos eE,Array.getElem?_toList]; exact bm))
   rw [Nat.zero_add] at BK
   have CO:=BK hd (iu (fun i=>a9.getD i false) hd E 0 hs) (hB (fun i=>a9.getD i false) hd 0 hs L) (fun t τ ao=>?_) (fun j e aE aQ=>?_) (ET hw)
   ·have hw:=Ax (K:=fun a W=> ∃ x,bV c (ow h.slot (h.τ (gX h.up i (jy hd i x))) (iu (fun i=>a9.getD i false) hd E 0 hs)) (mE (hB (fun i=>a9.getD i false) hd 0 hs L) (h.eV (gX h.up i (jy hd i x))) h.wr) a W) bm (CO a W st)
    refine wpOpIn_mono (fun gz W' ⟨x,nI⟩=>?_) hw
    have CP:∀ j,j≠i→jy hd i x j=hd j:=fun j aE=>by
     have:Nat.beq j i=false:=by
      cases hb:Nat.beq j i
      ·rfl
      exact absurd (eD.1 hb) aE
     simp only [jy,this,cond_false]
    have w7:∀ (j:Nat) (y:dO),hs[j]? =some y→a9.getD j false=true→gX y.up j (jy hd i x)=gX y.up j hd:=fun j y a6 aE=>by
     obtain⟨_,k3,_,ix⟩:=l9 j (by have:=(List.getElem?_eq_some_iff.1 a6).1; omega)
     refine Np (CP j fun e=>by subst e; rw [kk] at aE; cases aE) fun k aw=>CP k fun e=>?_
     have:=tr a9 inv j j (Nat.le_refl _) y k3 a6 ix (fun e he hb=>inv.closed j k3 ix aE e he hb) k aw
     subst e
     rw [kk] at this; cases this
    have w8:(a9.setIfInBounds i true).getD i false=true:=by simp [qx]
    have fW:∀ j,j≠i→ (a9.setIfInBounds i true).getD j false=a9.getD j false:=fun j aE=>getD_set_ne false (fun e=>aE e.symm)
    refine bR _ (jy hd i x) gz W' qw s9 ?_
    have J2:hB (fun j=>(a9.setIfInBounds i true).getD j false) (jy hd i x) 0 hs L=mE (hB (fun i=>a9.getD i false) hd 0 hs L) (h.eV (gX h.up i (jy hd i x))) h.wr:=by
     apply List.ext_getElem?
     intro j
     rw [v9,EF,v9]
     by_cases aE:h.wr.contains j=true
     ·rw [if_pos aE]
      have ay:∀ (ls:Nat→Bool) (g:Nat→Hid) (v:Option aT),(∀ k x,hs[k]? =some x→i<k→x.wr.contains j=true→ls k=false)→kE ls g j 0 hs v=(bif ls i then(kE ls g j 0 (hs.take i) v).map (fun _=>h.eV (gX h.up i g) j) else kE ls g j 0 (hs.take i) v):=fun ls g v CJ=>by
       conv=>lhs; rw [Bn]
       rw [AA,CM,Nat.zero_add,kE,aE,Bool.and_true,AO]
       intro k x aq hw
       rw [List.getElem?_drop] at aq
       exact CJ (i+1+k) x aq (by omega) hw
      have fq:∀ k x,hs[k]? =some x→i<k→x.wr.contains j=true→a9.getD k false=false:=fun k x aq iS hw=>Bm k x aq iS ⟨j,by simpa using hw,.inr aE⟩
      rw [ay (fun j=>(a9.setIfInBounds i true).getD j false) (jy hd i x) _ (fun k x aq iS hw=>by rw [fW k (by omega)]; exact fq k x aq iS hw),ay (fun j=>a9.getD j false) hd _ fq]
      simp only [w8,kk,cond_true,cond_false]
      rw [vG (ls':=fun j=>a9.getD j false) (hd':=hd) fun q x aq _=>by
       have hq:q<i:=by have:=(List.getElem?_eq_some_iff.1 aq).1; omega
       rw [List.getElem?_take,if_pos hq] at aq
       rw [Nat.zero_add]
       exact⟨fW q (by omega),fun ao=>w7 q x aq (by rw [fW q (by omega)] at ao; exact ao)⟩]
     rw [if_neg aE]
     refine vG fun q x aq hw=>?_
     rw [Nat.zero_add]
     have hq:q≠i:=fun e=>by subst e; rw [dD] at aq; cases aq; exact aE hw
     exact⟨fW q hq,fun ao=>w7 q x aq (by rw [fW q hq] at ao; exact ao)⟩
    rw [J2]
    refine nI.less fun t τ ao=>?_
    rcases HY ao with⟨j,y,aa,ad,aF,aX⟩ | ⟨aa,fq⟩
    ·rw [Nat.zero_add] at ad aX
     by_cases hE:j=i
     ·subst hE
      rw [dD] at aa
      cases aa
      exact⟨τ,by rw [aF,aX]; simp [ow,look,Nat.beq_refl],fun _ _ _ h=>h⟩
     rw [fW j hE] at ad
     rw [w7 j y aa ad] at aX
     have a0:=A0 (ls:=fun i=>a9.getD i false) (hd:=hd) (E:=E) (k:=0) aa (by rw [Nat.zero_add]; exact ad) aF fun q z hq df=>wz q j t z y hq aa df aF
     rw [Nat.zero_add,← aX] at a0
     refine⟨τ,?_,fun _ _ _ h=>h⟩
     cases pa:h.slot with
     | none=>exact a0
     | some s=>
       have dm:Nat.beq s t=false:=by
        cases hb:Nat.beq s t
        ·rfl
        have:=eD.1 hb; subst this
        exact absurd (wz j i s y h aa dD aF pa) hE
       simp only [ow,look,dm,cond_false]
       exact a0
    have hb:=qO t τ aa
    have a0:=AP (ls:=fun i=>a9.getD i false) (hd:=hd) (E:=E) (k:=0) hb
    refine⟨τ,?_,fun _ _ _ h=>h⟩
    cases pa:h.slot with
    | none=>simp only [ow]; rw [a0]; exact aa
    | some s=>
      have dm:Nat.beq s t=false:=by
       cases mL:Nat.beq s t
       ·rfl
       have:=eD.1 mL; subst this
       exact absurd pa (fq i h dD (by rw [Nat.zero_add]; exact w8))
      simp only [ow,look,dm,cond_false]
      rw [a0]; exact aa
   ·rcases Is ao with⟨j,aE,y,aa,ad,aF⟩ | aa
    ·have a0:=A0 (ls:=fun i=>a9.getD i false) (hd:=hd) (E:=E) (k:=0) aa (by rw [Nat.zero_add]; exact wS j aE) ad fun q z hq df=>wz q j t z y hq aa df ad
     rw [Nat.zero_add,← aF] at a0
     exact a0
    rw [AP (qO t τ aa)]; exact aa
   rw [v9] at aE ⊢
   rw [← aE]
   conv=>lhs; rw [Bn]
   rw [AA,AO]
   ·refine vG fun q x aq hw=>?_
    rw [Nat.zero_add]
    have hq:q<i:=by have:=(List.getElem?_eq_some_iff.1 aq).1; omega
    rw [List.getElem?_take,if_pos hq] at aq
    exact⟨wS q ((uN q x aq).1 hq ⟨j,by simpa using hw,aQ⟩),fun _=>rfl⟩
   intro q x aq hw
   rw [CM,Nat.zero_add]
   cases q with
   | zero=>exact kk
   | succ q=>
     simp only [List.getElem?_cons_succ] at aq
     rw [List.getElem?_drop] at aq
     exact Bm (i+(q+1)) x (by rw [← aq]; congr 1; omega) (by omega) ⟨j,by simpa using hw,.inl aQ⟩
theorem ag.yF {pe:Nat} {l:List Oper} (n np:Nat) (hm:c.P.follows .mixedOrders=true) (hs:List dO) (ds:List (Option Nat×List Nat×List Nat×List Nat)) (es:List Nat) (ie:jM hs=ds) (tt:E.map (·.1)=es) (h1:Gv.yF l.toArray n ds es=true) (hw:(ds.all fun d=>d.2.2.2.all fun j=>Nat.blt j np)=true)
 (cE:pB c l.toArray Q hs E L np 0 (l.take n) hs) (b1:∀ hd,ai c l.toArray Q (l.drop n) (iu (fun _=>true) hd E 0 hs) (hB (fun _=>true) hd 0 hs L)):ag c Q (.region pe l.toArray true) E L:=fun a W s=>by
 subst ie tt
 have pV:=Qy (L:=L) (hs:=hs) rfl hw
 refine wpIn_region_any hm ?_
 have aR:n≤l.toArray.size:=by
  simp only [Gv.yF,Bool.and_eq_true,decide_eq_true_eq] at h1
  exact h1.1.1.1.1.1.2
 have Ca:HeadInv .any l.toArray n (Array.replicate l.toArray.size false):=
  {size:=by simp
   closed:=fun j k3 _ ao=>by rw [getD_replicate_false] at ao; cases ao
   tail:=fun t _ b1=>by simp at b1; simp [b1] }
 have h:=Vf pV (ops:=l.toArray) (Q:=Q) h1 (by simpa using cE) (by simpa using b1) n (Array.replicate l.toArray.size false) (fun _ _=>none) a W.drew (Nat.le_trans (List.length_filter_le _ _) (by simp)) Ca ?_
 ·rw [show n+(l.toArray.size - n)=l.toArray.size by omega] at h
  exact h
 have aa:∀ (hs:List dO) (k:Nat),iu (fun i=>(Array.replicate l.toArray.size false).getD i false) (fun _ _=>none) E k hs=E:=by
  intro hs
  induction hs with
  | nil=>intro k; rfl
  | cons h r bR=>
    intro k
    have ad:=bR (k+1)
    simp only [getD_replicate_false] at ad
    unfold iu
    simp only [getD_replicate_false]
    exact ad
 have ad:∀ (hs:List dO) (k:Nat) (L:List aT),hB (fun i=>(Array.replicate l.toArray.size false).getD i false) (fun _ _=>none) k hs L=L:=by
  intro hs
  induction hs with
  | nil=>intro k L; rfl
  | cons h r bR=>intro k L; rw [hB,bR]; simp only [getD_replicate_false,cond_false]
 rw [aa,ad]
 exact s.world (Fr.drew W)
theorem dj.tail {l:List Oper} {f:Nat} {a9:Array Bool} (n:Nat) (a7:(l.drop n).length=f) (hs:Region.seqB .any l.toArray f n a9=true) (h:ai c l.toArray Q (l.drop n) E L):dj c l.toArray Q f a9 E L:=fun a W s=>by
 subst a7
 exact An (l.drop n) n a9 a W (fun j=>by simp) hs (h a W s)
theorem aI.ex {α β:Type} {m:aI α} {k:α→aI β} {R:β→Prop} (h:aI.bind m k R):∃ K:α→Prop,m K∧ ∀ r,K r→k r R:=⟨_,h,fun _ h=>h⟩
end
theorem b9.law {P:Program} {f:FuncId} {τs:List I} {cd:Type} [fr cd] {R:Bool×a1 cd→Prop} {Lo: {r:Bool×a1 cd // R r}×Unit→List aT} (h:b9 P f τs ([]++a8 ([]:a1 cd)) (fun d: {r:Bool×a1 cd // R r}×Unit=>I.of d.1.1.1) Lo) (jX:∀ r,R r→r.1=true):bw P f τs (I.of true):=by
 intro A W vs gA a2
 refine(h A W vs (fun k aw=>⟨gA k aw,by simp [a8,aV]⟩) (by simp [a8,aV]) (fun k aw=>by simp [a8,aV] at aw) (fun e he=>by simp [a8] at he) (by simpa [a8,aV] using a2)).mono ?_
 intro e W' ⟨v,d,aa,ad,_,_,_,aF⟩
 refine⟨v,aa,by simpa [a8,aV] using ad,?_⟩
 have aX:=jX d.1.1 d.1.2
 rw [of_bool] at aF ⊢
 rw [aF,aX]
section
variable {c:dp} {E:List (Nat×I)} {L:List aT} {ops:Array Oper} {Q:Exit→Act→World→Prop}
theorem WC {n:Nat} (aR:n≤ops.size) (RR:∀ i o,i<n→ops[i]? =some o→ ∀ e∈o.after,Region.binds .any e=true→e.on<i)
 (wv:n=ops.size∨ (Region.sinkB .any ops n=true∧Region.chainB .any ops n=true))
 (qv:Region.seqB .any ops (ops.size - n) n ((List.range n).foldl (fun l i=>l.setIfInBounds i true) (Array.replicate ops.size false))=true)
 (S:Array Bool→Act→World→Prop)
 (sX:∀ (a9:Array Bool) (i:Nat) (o:Oper) (a:Act) (W:World),HeadInv .any ops n a9→i<n→ops[i]? =some o→a9.getD i false=false→ (∀ e∈o.after,Region.binds .any e=true→a9.getD e.on false=true)→S a9 a W→
  wpOpIn c.F 9 c.P ops Q i (fun gz W'=>S (a9.setIfInBounds i true) gz W') a W)
 (ox:∀ (a9:Array Bool) (a:Act) (W:World),(∀ i,i<n→a9.getD i false=true)→S a9 a W→c.qI ops Q (ops.toList.drop n) a W):
 ∀ m (a9:Array Bool) (a:Act) (W:World),((List.range n).filter fun i=> !a9.getD i true).length≤m→HeadInv .any ops n a9→S a9 a W→wpAnyIn c.F 9 c.P .any ops Q (m+(ops.size - n)) a9 a W:=by
 have l9:∀ i,i<n→ ∃ o,ops[i]? =some o:=fun i ak=>⟨ops[i],by simp⟩
 have m7:∀ (a9:Array Bool) (a:Act) (W:World),(∀ i,i<n→a9.getD i true=true)→HeadInv .any ops n a9→S a9 a W→wpAnyIn c.F 9 c.P .any ops Q (ops.size - n) a9 a W:=by
  intro a9 a W qo inv st
  have ao:=HD inv aR qo
  have pa:=qv
  rw [← ao] at pa
  have m5:(ops.toList.drop n).length=ops.size - n:=by simp
  rw [← m5] at pa ⊢
  exact An (ops.toList.drop n) n a9 a W (fun j=>by simp) pa (ox a9 a W (fun i ak=>by
   have aa:=qo i ak
   have ad:i<a9.size:=by rw [inv.size]; omega
   simpa [ad] using aa) st)
 have more:∀ f (a9:Array Bool) a W,wpAnyIn c.F 9 c.P .any ops Q f a9 a W→wpAnyIn c.F 9 c.P .any ops Q (f+1) a9 a W:=by
  intro f
  induction f with
  | zero=>intro a9 a W h; exact⟨fun _=>h.2,fun i ak=>by rw [h.1] at ak; cases ak⟩
  | succ f Cu=>intro a9 a W h; exact⟨h.1,fun i ak=>wpOpIn_mono (fun gz q6 dc=>Cu _ gz q6 dc) (h.2 i ak)⟩
 intro m
 induction m with
 | zero=>
   intro a9 a W hm inv st
   rw [Nat.zero_add]
   refine m7 a9 a W (fun i ak=>?_) inv st
   cases h:a9.getD i true with
   | true=>rfl
   | false=>
     have:i∈ (List.range n).filter fun i=> !a9.getD i true:=List.mem_filter.2 ⟨List.mem_range.2 ak,by rw [h]; rfl⟩
     rw [List.length_eq_zero_iff.1 (Nat.le_zero.1 hm)] at this
     cases this
 | succ m bR=>
   intro a9 a W hm inv st
   rw [show m+1+(ops.size - n)=(m+(ops.size - n))+1 by omega]
   by_cases BN:∀ i,i<n→a9.getD i true=true
   ·have aa:=m7 a9 a W BN inv st
    have key:∀ k,wpAnyIn c.F 9 c.P .any ops Q (k+(ops.size - n)) a9 a W:=by
     intro k
     induction k with
     | zero=>rw [Nat.zero_add]; exact aa
     | succ k Cv=>rw [show k+1+(ops.size - n)=(k+(ops.size - n))+1 by omega]; exact more _ _ _ _ Cv
    exact more _ _ _ _ (key m)
   have hex:∃ i,i<n∧a9.getD i true=false:=by
    false_or_by_contra
    rename_i ad
    exact BN fun i ak=>by
     cases h:a9.getD i true with
     | true=>rfl
     | false=>exact absurd ⟨i,ak,h⟩ ad
   have Bi:∀ t∈Region.ready .any ops a9,t<n:=by
    intro t qJ
    rcases Nat.lt_or_ge t n with h | h
    ·exact h
    obtain⟨i,ak,iT⟩:=hex
    have ab2:t<ops.size:=by
     obtain⟨_,o,bm,_⟩:=mem_ready.1 qJ
     exact(Array.getElem?_eq_some_iff.1 bm).1
    rcases wv with aa | aa
    ·omega
    exact absurd qJ (tail_waits aa.1 aa.2 (by omega) inv _ i rfl ak iT t h)
   refine⟨fun bT=>?_,fun i ak=>?_⟩
   ·exfalso
    have key:∀ d i,i≤d→i<n→a9.getD i true=true:=by
     intro d
     induction d with
     | zero=>
       intro i w2 ak
       cases ao:a9.getD i true with
       | true=>rfl
       | false=>
         obtain⟨o,bm⟩:=l9 i ak
         have:i∈Region.ready .any ops a9:=mem_ready.2 ⟨ao,o,bm,fun e he hb=>by have:=RR i o ak bm e he hb; omega⟩
         rw [bT] at this; cases this
     | succ d CL=>
       intro i w2 ak
       cases ao:a9.getD i true with
       | true=>rfl
       | false=>
         obtain⟨o,bm⟩:=l9 i ak
         have:i∈Region.ready .any ops a9:=mem_ready.2 ⟨ao,o,bm,fun e he hb=>by
          have aa:=RR i o ak bm e he hb
          have ad:=CL e.on (by omega) (by omega)
          have aF:e.on<a9.size:=by rw [inv.size]; omega
          simpa [aF] using ad⟩
         rw [bT] at this; cases this
    obtain⟨i,ak,iT⟩:=hex
    have:=key i i (Nat.le_refl _) ak
    rw [iT] at this; cases this
   have eE:i<n:=Bi i ak
   obtain⟨iT,o,bm,n7⟩:=mem_ready.1 ak
   have qx:i<a9.size:=by rw [inv.size]; omega
   have qw:((List.range n).filter fun j=> !(a9.setIfInBounds i true).getD j true).length≤m:=by
    have:((List.range n).filter fun j=> !(a9.setIfInBounds i true).getD j true).length<((List.range n).filter fun j=> !a9.getD j true).length:=by
     refine Fe (fun j=> !a9.getD j true) (fun j=> !(a9.setIfInBounds i true).getD j true) i (by simp only [iT]; rfl) ?_ (fun j aE=>?_) n eE
     ·simp [qx]
     by_cases e:i=j
     ·subst e; simp only [iT]; rfl
     rw [getD_set_ne true e] at aE; exact aE
    omega
   exact wpOpIn_mono (fun gz W' nI=>bR _ gz W' qw (inv.set ak eE) nI) (sX a9 i o a W inv eE bm (getD_both iT) n7 st)
def iB (ls:Nat→Bool) (E:List (Nat×I)):Nat→List (Option (Nat×I))→List (Nat×I)
 | _,[]=>E
 | k,none::r=>iB ls E (k+1) r
 | k,some x::r=>bif ls k then x::iB ls E (k+1) r else iB ls E (k+1) r
def pt (fs:List (Option (Nat×I))) (E:List (Nat×I)):List Nat→List (Nat×I)
 | []=>E
 | i::r=>match fs[i]? with
   | some (some x)=>x::pt fs E r
   | _=>pt fs E r
def jF (fs:List (Option (Nat×I))):List Nat:=fs.filterMap fun x=>x.map (·.1)
theorem IV {ls:Nat→Bool} {E:List (Nat×I)} {t:Nat} {τ:I} :∀ {fs:List (Option (Nat×I))} {k:Nat},look (iB ls E k fs) t=some τ→ (∃ j,ls (k+j)=true∧fs[j]? =some (some (t,τ)))∨look E t=some τ
 | [],k,h=>.inr h
 | none::r,k,h=>by
   rcases IV (fs:=r) (k:=k+1) h with⟨j,aa,ad⟩ | aa
   ·exact .inl ⟨j+1,by rw [← aa]; congr 1; omega,by simpa using ad⟩
   exact .inr aa
 | some x::r,k,h=>by
   have aQ:look (iB ls E (k+1) r) t=some τ→ (∃ j,ls (k+j)=true∧ (some x::r)[j]? =some (some (t,τ)))∨look E t=some τ:=fun h=>by
    rcases IV (fs:=r) (k:=k+1) h with⟨j,aa,ad⟩ | aa
    ·exact .inl ⟨j+1,by rw [← aa]; congr 1; omega,by simpa using ad⟩
    exact .inr aa
   unfold iB at h
   cases aw:ls k with
   | false=>rw [aw] at h; exact aQ h
   | true=>
     rw [aw] at h
     simp only [cond_true,look] at h
     cases hb:Nat.beq x.1 t with
     | true=>
       rw [hb] at h
       have aa:x.2=τ:=by simpa using h
       have ad:=eD.1 hb
       exact .inl ⟨0,aw,by rw [← aa,← ad]; rfl⟩
     | false=>rw [hb] at h; exact aQ h
theorem yl {ls:Nat→Bool} {E:List (Nat×I)} {t:Nat} :∀ {fs:List (Option (Nat×I))} {k:Nat},t ∉ jF fs→look (iB ls E k fs) t=look E t
 | [],k,h=>rfl
 | none::r,k,h=>yl (fs:=r) (k:=k+1) h
 | some x::r,k,h=>by
   have aa:t≠x.1∧t ∉ jF r:=by simpa [jF] using h
   unfold iB
   cases aw:ls k with
   | false=>exact yl aa.2
   | true=>
     have hb:Nat.beq x.1 t=false:=by
      cases hb:Nat.beq x.1 t with
      | false=>rfl
      | true=>exact absurd (eD.1 hb).symm aa.1
     simp only [cond_true,look,hb,cond_false]
     exact yl aa.2
theorem Ex {fs:List (Option (Nat×I))} {j:Nat} {x:Nat×I} (h:fs[j]? =some (some x)):x.1∈jF fs:=
 List.mem_filterMap.2 ⟨_,List.mem_of_getElem? h,rfl⟩
theorem Ff {ls:Nat→Bool} {E:List (Nat×I)} :∀ {fs:List (Option (Nat×I))} {k j:Nat} {x:Nat×I},(jF fs).Nodup→fs[j]? =some (some x)→ls (k+j)=true→look (iB ls E k fs) x.1=some x.2
 | [],k,j,x,_,h,_=>by simp at h
 | none::r,k,j,x,aR,h,ao=>by
   cases j with
   | zero=>simp at h
   | succ j=>exact Ff (fs:=r) (k:=k+1) (j:=j) aR (by simpa using h) (by rw [← ao]; congr 1; omega)
 | some y::r,k,j,x,aR,h,ao=>by
   have pf:y.1 ∉ jF r∧ (jF r).Nodup:=by simpa [jF] using aR
   cases j with
   | zero=>
     have:y=x:=by simpa using h
     subst this
     have ao:ls k=true:=ao
     unfold iB
     simp only [ao,cond_true,look,Nat.beq_refl]
   | succ j=>
     have dc:r[j]? =some (some x):=by simpa using h
     have ak:=Ff (fs:=r) (k:=k+1) (E:=E) (ls:=ls) pf.2 dc (by rw [← ao]; congr 1; omega)
     unfold iB
     cases aw:ls k with
     | false=>exact ak
     | true=>
       have hb:Nat.beq y.1 x.1=false:=by
        cases hb:Nat.beq y.1 x.1 with
        | false=>rfl
        | true=>exact absurd (by rw [eD.1 hb]; exact Ex dc) pf.1
       simp only [cond_true,look,hb,cond_false]
       exact ak
theorem Pn {fs:List (Option (Nat×I))} {E:List (Nat×I)} {t:Nat} {τ:I} :∀ {us:List Nat},look (pt fs E us) t=some τ→ (∃ j∈us,fs[j]? =some (some (t,τ)))∨look E t=some τ
 | [],h=>.inr h
 | i::r,h=>by
   have aQ:look (pt fs E r) t=some τ→ (∃ j∈i::r,fs[j]? =some (some (t,τ)))∨look E t=some τ:=fun h=>by
    rcases Pn h with⟨j,aa,ad⟩ | aa
    ·exact .inl ⟨j,List.mem_cons_of_mem _ aa,ad⟩
    exact .inr aa
   unfold pt at h
   split at h
   ·rename_i x aq
    simp only [look] at h
    cases hb:Nat.beq x.1 t with
    | true=>
      rw [hb] at h
      have aa:x.2=τ:=by simpa using h
      have ad:=eD.1 hb
      exact .inl ⟨i,by simp,by rw [aq,← aa,← ad]⟩
    | false=>rw [hb] at h; exact aQ h
   exact aQ h
theorem Z5 {fs:List (Option (Nat×I))} {E:List (Nat×I)} {ls:Nat→Bool} {us:List Nat} (aR:(jF fs).Nodup) (aG:∀ t∈jF fs,look E t=none) (hu:∀ j∈us,ls j=true) {t:Nat} {τ:I} (h:look (pt fs E us) t=some τ):look (iB ls E 0 fs) t=some τ:=by
 rcases Pn h with⟨j,aa,ad⟩ | aa
 ·exact Ff aR ad (by rw [Nat.zero_add]; exact hu j aa)
 rw [yl fun ad=>by rw [aG t ad] at aa; cases aa]; exact aa
theorem NR:∀ {E:List (Nat×I)} {t:Nat},(E.map (·.1)).contains t=false→look E t=none
 | [],t,_=>rfl
 | (s,σ)::r,t,h=>by
   have aa: ¬ t=s∧ (r.map (·.1)).contains t=false:=by simpa using h
   have hb:Nat.beq s t=false:=by
    cases hb:Nat.beq s t with
    | false=>rfl
    | true=>exact absurd (eD.1 hb).symm aa.1
   simp only [look,hb,cond_false]
   exact NR aa.2
def Po (ops:Array Oper) (n w nr ze:Nat) (hI:List (Option Nat)) (p0:List (List Nat)) (E:List Nat):Bool:=
 decide (hI.length=n)&&decide (n≤ops.size)&&decide (w<n)&&decide (nr::hI.filterMap id).Nodup&&((nr::hI.filterMap id).all fun s=> !E.contains s&&Nat.blt s ze)&&
 ((List.range n).all fun i=>((ops[i]?).map fun o=>(o.dst==if i=w then some nr else(hI[i]?).getD none)&&o.guard.isNone&&(decide (i=w)||((hI[i]?).getD none).isSome)&&o.after.all fun e=> !Region.binds .any e||decide (e.on<i)).getD false&&
   ((p0[i]?).getD []).all fun k=>decide (k≠w)&&Region.waitsFor .any ops i k)&&
 decide ((hI[w]?).getD none=none)&&
 (decide (n=ops.size)||(Region.sinkB .any ops n&&Region.chainB .any ops n))&&
 Region.seqB .any ops (ops.size - n) n ((List.range n).foldl (fun l i=>l.setIfInBounds i true) (Array.replicate ops.size false))
def sM (c:dp) (E:List (Nat×I)) (L:List aT) {γ:Type} (K:γ→Prop) (hJ:γ→List aT) (fs:List (Option (Nat×I))):List Oper→List (Option (Nat×I))→List (List Nat)→Prop
 | o::os,some x::r,u::us=>(cf c (pt fs E u) L o x.2∧ ∀ y,K y→cf c (pt fs E u) (hJ y) o x.2)∧sM c E L K hJ fs os r us
 | _::os,none::r,_::us=>sM c E L K hJ fs os r us
 | _,_,_=>True
theorem sM.get {γ:Type} {K:γ→Prop} {hJ:γ→List aT} {fs:List (Option (Nat×I))} :∀ {os:List Oper} {rs:List (Option (Nat×I))} {us:List (List Nat)},sM c E L K hJ fs os rs us→ ∀ {i:Nat} {o:Oper} {x:Nat×I} {u:List Nat},os[i]? =some o→rs[i]? =some (some x)→us[i]? =some u→
 cf c (pt fs E u) L o x.2∧ ∀ y,K y→cf c (pt fs E u) (hJ y) o x.2
 | o::os,some x::r,u::us,h,0,o',GO,GP,aa,ad,aF=>by
   have ay:o=o':=by simpa using aa
   have aO:x=GO:=by simpa using ad
   have cK:u=GP:=by simpa using aF
   subst ay aO cK
   exact h.1
 | o::os,some x::r,u::us,h,i+1,o',GO,GP,aa,ad,aF=>sM.get h.2 (i:=i) (by simpa using aa) (by simpa using ad) (by simpa using aF)
 | o::os,none::r,u::us,h,0,o',GO,GP,aa,ad,aF=>by simp at ad
 | o::os,none::r,u::us,h,i+1,o',GO,GP,aa,ad,aF=>by
   have h:sM c E L K hJ fs os r us:=h
   exact sM.get h (i:=i) (by simpa using aa) (by simpa using ad) (by simpa using aF)
 | [],_,_,_,i,_,_,_,aa,_,_=>by simp at aa
 | _::_,[],_,_,i,_,_,_,_,ad,_=>by simp at ad
 | _::_,_::_,[],_,i,_,_,_,_,_,aF=>by simp at aF
theorem XY {pe:Nat} {l:List Oper} (hm:c.P.follows .mixedOrders=true) (n w nr ze:Nat) {γ:Type} {K:γ→Prop} (fs:List (Option (Nat×I))) (hI:List (Option Nat)) (p0:List (List Nat)) (es:List Nat) (Gu:γ→I) (hJ:γ→List aT)
 {LM:Oper} {LN:List Nat} (ac6:l[w]? =some LM) (ac7:p0[w]? =some LN) (KY:c.n=ze) (ac8:(fs.map fun x=>x.map (·.1))=hI) (aey:p0.length=n) (tt:E.map (·.1)=es) (h1:Po l.toArray n w nr ze hI p0 es=true)
 (cE:sM c E L K hJ fs (l.take n) fs p0)
 (hw:∀ (tC:Exit→Act→World→Prop) (E':List (Nat×I)),(∀ {t τ},look (pt fs E LN) t=some τ→look E' t=some τ)→ (∀ y,K y→ae c tC .normal ((nr,Gu y)::E') (hJ y))→ai c l.toArray tC [LM] E' L)
 (b1:∀ y,K y→ai c l.toArray Q (l.drop n) ((nr,Gu y)::iB (fun _=>true) E 0 fs) (hJ y)):ag c Q (.region pe l.toArray true) E L:=fun a W s=>by
 subst KY ac8 tt
 refine wpIn_region_any hm ?_
 simp only [Po,Bool.and_eq_true,decide_eq_true_eq,Bool.or_eq_true] at h1
 obtain⟨⟨⟨⟨⟨⟨⟨⟨hlen,aR⟩,ac9⟩,gW⟩,RS⟩,jG⟩,KZ⟩,wv⟩,qv⟩:=h1
 have hlen:fs.length=n:=by simpa using hlen
 have ada:(fs.map fun x=>x.map (·.1)).filterMap id=jF fs:=by
  unfold jF; rw [List.filterMap_map]; rfl
 rw [ada] at gW RS
 obtain⟨RT,gW⟩:=List.nodup_cons.1 gW
 have adb:∀ t,(E.map (·.1)).contains t=false→look E t=none:=fun t h=>NR h
 have aG:∀ t∈nr::jF fs,look E t=none∧Nat.blt t c.n=true:=fun t b1=>by
  have:=List.all_eq_true.1 RS t b1
  simp only [Bool.and_eq_true,Bool.not_eq_true'] at this
  exact⟨adb t this.1,this.2⟩
 have K0:∀ t∈jF fs,look E t=none:=fun t b1=>(aG t (List.mem_cons_of_mem _ b1)).1
 have th:∀ i o,i<n→l.toArray[i]? =some o→ (o.dst=if i=w then some nr else((fs[i]?).getD none).map (·.1))∧o.guard=none∧ (i=w∨ ∃ x,fs[i]? =some (some x))∧ (∀ e∈o.after,Region.binds .any e=true→e.on<i)∧ ∀ k∈ (p0[i]?).getD [],k≠w∧Region.waitsFor .any l.toArray i k=true:=fun i o ak bm=>by
  have aa:=List.all_eq_true.1 jG i (List.mem_range.2 ak)
  simp only [Bool.and_eq_true] at aa
  obtain⟨ad,aF⟩:=aa
  simp only [bm,Option.map_some,Option.getD_some,Bool.and_eq_true,beq_iff_eq] at ad
  obtain⟨⟨⟨aX,a0⟩,bn⟩,cZ⟩:=ad
  have ade:((fs.map fun x=>x.map (·.1))[i]?).getD none=((fs[i]?).getD none).map (·.1):=by
   rw [List.getElem?_map]
   cases fs[i]? with
   | none=>rfl
   | some x=>rfl
  rw [ade] at aX bn
  refine⟨aX,by simpa using a0,?_,fun e he hb=>?_,fun k aw=>?_⟩
  ·simp only [Bool.or_eq_true,decide_eq_true_eq] at bn
   rcases bn with bn | bn
   ·exact .inl bn
   right
   cases aq:fs[i]? with
   | none=>rw [aq] at bn; cases bn
   | some x=>
     cases x with
     | none=>rw [aq] at bn; cases bn
     | some x=>exact⟨x,rfl⟩
  ·have:=Array.all_eq_true_iff_forall_mem.1 cZ e he
   simp [hb] at this
   exact this
  have:=List.all_eq_true.1 aF k aw
  simpa using this
 have ab3:fs[w]? =some none:=by
  have aa:((fs.map fun x=>x.map (·.1))[w]?).getD none=none:=KZ
  rw [List.getElem?_map] at aa
  cases aq:fs[w]? with
  | none=>have:=List.getElem?_eq_none_iff.1 aq; omega
  | some x=>
    cases x with
    | none=>rfl
    | some x=>rw [aq] at aa; cases aa
 let S:Array Bool→Act→World→Prop:=fun a9 a W=>(a9.getD w false=false→bV c (iB (fun i=>a9.getD i false) E 0 fs) L a W)∧ (a9.getD w false=true→ ∃ y,K y∧bV c ((nr,Gu y)::iB (fun i=>a9.getD i false) E 0 fs) (hJ y) a W)
 have h:=WC (c:=c) (ops:=l.toArray) (Q:=Q) aR (fun i o ak bm=>(th i o ak bm).2.2.2.1) wv qv S ?_ ?_ n (Array.replicate l.toArray.size false) a W.drew (Nat.le_trans (List.length_filter_le _ _) (by simp)) ?_ ?_
 ·rw [show n+(l.toArray.size - n)=l.toArray.size by omega] at h
  exact h
 ·
  intro a9 i o a W inv ak bm iT n7 xi
  obtain⟨cG,cv,lP,GK,q5⟩:=th i o ak bm
  have qx:i<a9.size:=by rw [inv.size]; omega
  have w8:(a9.setIfInBounds i true).getD i false=true:=by simp [qx]
  have fW:∀ j,j≠i→ (a9.setIfInBounds i true).getD j false=a9.getD j false:=fun j aE=>getD_set_ne false (fun e=>aE e.symm)
  have K1:i<p0.length:=by omega
  have wS:∀ k∈p0[i],a9.getD k false=true:=fun k aw=>by
   have:=q5 k (by rw [List.getElem?_eq_getElem K1]; exact aw)
   obtain⟨k3,ix,e,he,hb,lK⟩:=Region.waitsFor_spec this.2
   rw [bm] at ix; cases ix
   rw [← lK]; exact n7 e he hb
  have RU:l[i]? =some o:=by simpa using bm
  have J5:∀ {t τ},look (pt fs E p0[i]) t=some τ→look (iB (fun i=>a9.getD i false) E 0 fs) t=some τ:=fun {t τ} h=>Z5 gW K0 wS h
  by_cases Gw:i=w
  ·subst Gw
   rw [if_pos rfl] at cG
   have ay:LM=o:=Option.some.inj (ac6.symm.trans RU)
   have aO:LN=p0[i]:=Option.some.inj (ac7.symm.trans (List.getElem?_eq_getElem K1))
   subst ay aO
   have CO:=hw (tF (fun gz W'=>S (a9.setIfInBounds i true) gz W') Q) (iB (fun i=>a9.getD i false) E 0 fs) J5 fun y a6 gz W' st=>?_
   ·exact Ax bm (CO a W (xi.1 iT))
   refine⟨fun h=>(by rw [w8] at h; cases h),fun _=>⟨y,a6,?_⟩⟩
   have:iB (fun j=>(a9.setIfInBounds i true).getD j false) E 0 fs=iB (fun j=>a9.getD j false) E 0 fs:=by
    have key:∀ (gs:List (Option (Nat×I))) (k:Nat),(∀ j,gs[j]? ≠none→gs[j]? =fs[k+j]?)→iB (fun j=>(a9.setIfInBounds i true).getD j false) E k gs=iB (fun j=>a9.getD j false) E k gs:=by
     intro gs
     induction gs with
     | nil=>intro k _; rfl
     | cons x r bR=>
       intro k aw
       have aQ:=bR (k+1) fun j aE=>by
        have:=aw (j+1) (by simpa using aE)
        rw [List.getElem?_cons_succ] at this
        rw [this]; congr 1; omega
       cases x with
       | none=>exact aQ
       | some x=>
         have bT:=aw 0 (by simp)
         have pX:k≠i:=fun e=>by
          rw [e,Nat.add_zero,ab3] at bT
          simp at bT
         unfold iB
         simp only [fW k pX,aQ]
    exact key fs 0 fun j _=>by rw [Nat.zero_add]
   rw [this]; exact st
  obtain⟨x,aq⟩:=lP.resolve_left Gw
  rw [if_neg Gw,aq] at cG
  have Gj:(a9.setIfInBounds i true).getD w false=a9.getD w false:=fW w fun e=>Gw e.symm
  have bQ:=sM.get cE (i:=i) (by rw [List.getElem?_take,if_pos ak]; exact RU) aq (List.getElem?_eq_getElem K1)
  have K2:=Ex aq
  have aem:∀ (jW:List (Nat×I)),(∀ t τ,look ((x.1,x.2)::jW) t=some τ→True):=fun _ _ _ _=>trivial
  have QE:∀ t τ,look (iB (fun j=>(a9.setIfInBounds i true).getD j false) E 0 fs) t=some τ→look ((x.1,x.2)::iB (fun j=>a9.getD j false) E 0 fs) t=some τ:=fun t τ ao=>by
   rcases IV ao with⟨j,LO,GQ⟩ | aa
   ·rw [Nat.zero_add] at LO
    by_cases hE:j=i
    ·subst hE
     rw [aq] at GQ; cases GQ
     simp only [look,Nat.beq_refl,cond_true]
    rw [fW j hE] at LO
    have ad:=Ff (E:=E) (ls:=fun j=>a9.getD j false) (k:=0) gW GQ (by rw [Nat.zero_add]; exact LO)
    cases hb:Nat.beq x.1 t with
    | false=>simp only [look,hb,cond_false]; exact ad
    | true=>
      exfalso
      have ay:=eD.1 hb
      have uniq:∀ (gs:List (Option (Nat×I))) (p q:Nat) (u v:Nat×I),(jF gs).Nodup→gs[p]? =some (some u)→gs[q]? =some (some v)→u.1=v.1→p=q:=by
       intro gs
       induction gs with
       | nil=>intro p q u v _ hp; simp at hp
       | cons z r bR=>
         intro p q u v aR hp hq e
         have aQ:(jF r).Nodup:=by
          cases z with
          | none=>exact aR
          | some z=>exact(show z.1 ∉ jF r∧ (jF r).Nodup by simpa [jF] using aR).2
         cases p with
         | zero=>
           have df:z=some u:=by simpa using hp
           subst df
           cases q with
           | zero=>rfl
           | succ q=>exact absurd (by rw [e]; exact Ex (by simpa using hq)) (show u.1 ∉ jF r∧ (jF r).Nodup by simpa [jF] using aR).1
         | succ p=>
           cases q with
           | zero=>
             have df:z=some v:=by simpa using hq
             subst df
             exact absurd (by rw [← e]; exact Ex (by simpa using hp)) (show v.1 ∉ jF r∧ (jF r).Nodup by simpa [jF] using aR).1
           | succ q=>rw [bR p q u v aQ (by simpa using hp) (by simpa using hq) e]
      exact hE (uniq fs j i _ _ gW GQ aq ay.symm)
   have hb:Nat.beq x.1 t=false:=by
    cases hb:Nat.beq x.1 t with
    | false=>rfl
    | true=>
      have ay:=eD.1 hb
      rw [← ay,K0 x.1 K2] at aa; cases aa
   simp only [look,hb,cond_false]
   rw [yl fun ad=>by rw [K0 t ad] at aa; cases aa]; exact aa
  have qO:=(aG x.1 (List.mem_cons_of_mem _ K2)).2
  refine Ax bm ?_
  cases Gx:a9.getD w false with
  | false=>
    refine ai.v (τ:=x.2) (d:=x.1) (fun a W st=>bQ.1 a W (st.less fun t τ h=>⟨τ,J5 h,fun _ _ _ h=>h⟩)) cv cG qO (ai.nil fun gz W' st=>⟨fun _=>st.less fun t τ h=>⟨τ,QE t τ h,fun _ _ _ h=>h⟩,fun h=>?_⟩) a W (xi.1 Gx)
    rw [Gj,Gx] at h; cases h
  | true=>
    obtain⟨y,a6,KM⟩:=xi.2 Gx
    have adf:∀ {t τ},look (pt fs E p0[i]) t=some τ→look ((nr,Gu y)::iB (fun i=>a9.getD i false) E 0 fs) t=some τ:=fun {t τ} h=>by
     have aa:=J5 h
     cases hb:Nat.beq nr t with
     | false=>simp only [look,hb,cond_false]; exact aa
     | true=>
       exfalso
       have ay:=eD.1 hb
       subst ay
       rw [yl RT,(aG nr (by simp)).1] at aa; cases aa
    refine ai.v (τ:=x.2) (d:=x.1) (fun a W st=>bQ.2 y a6 a W (st.less fun t τ h=>⟨τ,adf h,fun _ _ _ h=>h⟩)) cv cG qO (ai.nil fun gz W' st=>⟨fun h=>?_,fun _=>⟨y,a6,st.less fun t τ h=>⟨τ,?_,fun _ _ _ h=>h⟩⟩⟩) a W KM
    ·rw [Gj,Gx] at h; cases h
    cases hb:Nat.beq nr t with
    | true=>
      have ay:=eD.1 hb
      subst ay
      have mL:Nat.beq x.1 nr=false:=by
       cases mL:Nat.beq x.1 nr with
       | false=>rfl
       | true=>exact absurd (by rw [← eD.1 mL]; exact K2) RT
      simp only [look,hb,cond_true] at h ⊢
      simp only [mL,cond_false]; exact h
    | false=>
      simp only [look,hb,cond_false] at h ⊢
      have:=QE t τ h
      simp only [look] at this
      exact this
 ·intro a9 a W qo xi
  obtain⟨y,a6,st⟩:=xi.2 (qo w ac9)
  refine b1 y a6 a W (st.less fun t τ h=>⟨τ,?_,fun _ _ _ h=>h⟩)
  have key:∀ (gs:List (Option (Nat×I))) (k:Nat),k+gs.length≤n→iB (fun j=>a9.getD j false) E k gs=iB (fun _=>true) E k gs:=by
   intro gs
   induction gs with
   | nil=>intro k _; rfl
   | cons x r bR=>
     intro k aw
     have aQ:=bR (k+1) (by simp only [List.length_cons] at aw; omega)
     cases x with
     | none=>exact aQ
     | some x=>
       unfold iB
       simp only [qo k (by simp only [List.length_cons] at aw; omega),aQ]
  rw [key fs 0 (by omega)]; exact h
 ·exact
  {size:=by simp
   closed:=fun j k3 _ ao=>by rw [getD_replicate_false] at ao; cases ao
   tail:=fun t _ b1=>by simp at b1; simp [b1] }
 refine⟨fun _=>?_,fun h=>by rw [getD_replicate_false] at h; cases h⟩
 have key:∀ (gs:List (Option (Nat×I))) (k:Nat),iB (fun j=>(Array.replicate l.toArray.size false).getD j false) E k gs=E:=by
  intro gs
  induction gs with
  | nil=>intro k; rfl
  | cons x r bR=>
    intro k
    have aQ:=bR (k+1)
    cases x with
    | none=>exact aQ
    | some x=>
      unfold iB
      simp only [getD_replicate_false,cond_false] at aQ ⊢
      exact aQ
 show bV c (iB (fun j=>(Array.replicate l.toArray.size false).getD j false) E 0 fs) L a W.drew
 rw [key]
 exact s.world (Fr.drew W)
end
structure aeU (es:Array MapEntry) (clock n:Nat):Prop where
 size:es.size=n
 born:∀ x∈es.toList,x.born<clock
 nodup:(es.toList.map MapEntry.born).Nodup
def dZ.and (cp:dZ) (o:Obj):dZ where
 holds A W x:=cp.holds A W x∧x=o
 m4:=cp.m4
 mono e h:=⟨cp.mono e h.1,h.2⟩
section
variable {c:dp} {E:List (Nat×I)} {L:List aT} {ops:Array Oper} {Q:Exit→Act→World→Prop}
variable {d:Option Tmp} {ty:TypeId} {pos:String} {af:Array Edge} {g:Option (Nat×Bool)} {x y z:Operand} {t t2:TypeId}
variable {cd:Type} [fr cd] {hp:a1 cd} {loc:List aT}
theorem bV.swap {ax:List aT} {a:Act} {W:World} (h:bV c E L a W) (aw:aV ax=aV L) (bm:∀ e∈ax,e.ok (aV L++c.ca) W):bV c E ax a W:=
 {defers:=h.defers
  size:=h.size
  env:=by rw [aw]; exact h.env
  dQ:=h.dQ
  own:=by rw [aw]; exact bm
  nodup:=by rw [aw]; exact h.nodup
  lt:=by rw [aw]; exact h.lt
  gl:=by rw [aw]; exact h.gl
  fg:=by rw [aw]; exact h.fg }
end
end Gv
