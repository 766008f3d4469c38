/-
  The library of the decompiler, as far as it is needed here. Conditions: none.
-/
import Derived.Maps.RangeRun
import Derived.Shelf.SlSortCmp.NoneTotal
import Derived.Lib.QuietBelow
import Derived.Test.YtelbhaohleeijaaGreatMl1
import Derived.Test.YtelbhaohleeijaaGreatMl0
set_option linter.unusedVariables false
set_option linter.unusedSimpArgs false
namespace Gv
open Go
def aA.any (α:Type):aA α:=fun Q=> ∀ x,Q x
theorem aA.any_bind {α β:Type}{k:α→aA β}{R:β→Prop}(h:aA.bind (aA.any α) k R)(x:α):k x R:=h x
theorem hc.append {A:List Nat}{W:World} :∀ {τs σs:List I} {vs us:List Value},hc A W τs vs→hc A W σs us→hc A W (τs++σs) (vs++us)
 | _,_,_,_,.nil,h=>h
 | _,_,_,_,.cons h r,ad=>.cons h (r.append ad)
section
variable {c:dt} {E:List (Nat×I)} {L:List aN} {ops:Array Oper} {Q:Exit→Act→World→Prop}
variable {d:Option Tmp} {ty:TypeId} {pos:String} {af:Array Edge} {g:Option (Nat×Bool)} {x y:Operand} {t t2:TypeId}
def ek (c:dt)(E:List (Nat×I))(L:List aN)(o:Oper){δ:Type}(ρ:δ→I)(L':δ→List aN):Prop:=
 ∀ a W,bM c E L a W→hv c.P o a W fun v W'=> ∃ q,bM c E (L' q) a W'∧ (ρ q).holds (aS (L' q)++c.b8) W' v
theorem ae.sc {o:Oper}{rest:List Oper}{bf:Nat}{δ:Type}{ρ:δ→I}{L':δ→List aN}(h:ek c E L o ρ L')(bH:o.guard=none)(hd:o.dst=some bf)(aO:Nat.blt bf c.n=true)
 (k:∀ q,ae c ops Q rest ((bf,ρ q)::E) (L' q)):ae c ops Q (o::rest) E L:=fun a W s=>
 h3 bH (h a W s) fun v W' ⟨q,f,a6⟩=>by
  rw [hd];exact k q _ _ (f.put (by simpa using aO) a6)
theorem ae.UF {o:Oper}{rest:List Oper}{bf j gs:Nat}{b want:Bool}{δ β:Type}{σ:β→I}{L2:β→List aN}{K:β→Prop}{val:δ→β}{ρ:δ→I}{L':δ→List aN}(bH:o.guard=some (j,want))(aF:(ops[j]?).bind (·.dst)=some gs)
 (al:look E gs=some (.of b)) (hd:o.dst=some bf) (aO:Nat.blt bf c.n=true) (h:b=want→ek c E L o ρ L')
 (h1:b=want→ ∀ q,K (val q)∧ρ q=σ (val q)∧L' q=L2 (val q)) (ad: ¬ b=want→ ∃ y,K y∧L=L2 y)
 (k:∀ y,K y→ae c ops Q rest ((bf,.cond (b=want) (σ y))::E) (L2 y)):ae c ops Q (o::rest) E L:=fun a W s=>by
 have a7:=yN aF al s
 unfold dt.qb wpListIn
 by_cases hb:b=want
 ·rw [if_pos (by simp [Region.wanted,bH,a7,hb])]
  refine((h hb a W s).wpIn fun v W' ⟨q,f,a6⟩=>?_)
  obtain⟨aw,aX,dc⟩:=h1 hb q
  rw [aX] at a6
  rw [dc] at f a6
  rw [hd]
  exact k _ aw _ _ (f.put (by simpa using aO) ⟨fun _=>a6,fun h=>absurd hb h⟩)
 rw [if_neg (by simp [Region.wanted,bH,a7,hb])]
 rw [hd]
 obtain⟨y,aw,aX⟩:=ad hb
 rw [aX] at s
 exact⟨fun _ _=>trivial,k y aw _ _ (s.put (by simpa using aO) ⟨fun h=>absurd h hb,fun _=>rfl⟩)⟩
theorem ek.perm {hJ:List aN}{o:Oper}{δ:Type}{ρ:δ→I}{L' L2:δ→List aN}(p:L.Perm hJ)(UG:∀ q,(L' q).Perm (L2 q))(h:ek c E hJ o ρ L'):ek c E L o ρ L2:=fun a W s=>by
 have:=h a W (s.perm p);unfold hv at this ⊢;exact Oper.wp_mono (fun gX W' ⟨v,h1,q,ad,aD⟩=>⟨v,h1,q,ad.perm (UG q),(ρ q).mono (ot (UG q)) aD⟩) this
theorem ek.to {o:Oper}{δ:Type}{ρ:δ→I}{L' L2:δ→List aN}(e:∀ q,L' q=L2 q)(h:ek c E L o ρ L'):ek c E L o ρ L2:=by
 have:L'=L2:=funext e;subst this;exact h
theorem ek.map {o:Oper}{δ xE:Type}{ρ:δ→I}{L':δ→List aN}{vt:xE→I}{L2:xE→List aN}(F:δ→xE)(aR:∀ d,vt (F d)=ρ d)(al:∀ d,L2 (F d)=L' d)(h:ek c E L o ρ L'):ek c E L o vt L2:=fun a W s=>by
 have:=h a W s;unfold hv at this ⊢;exact Oper.wp_mono (fun gX W' ⟨v,h1,q,ad,aD⟩=>⟨v,h1,F q,by rw [al];exact ad,by rw [al,aR];exact aD⟩) this
theorem ek.afd {o:Oper}{δ:Type}{τ:I}(h:ek c E L o (fun _:δ=>τ) (fun _=>L)):fi c E L o τ:=fun a W s=>by
 have:=h a W s;unfold hv at this ⊢;exact Oper.wp_mono (fun gX W' ⟨v,h1,q,ad,aD⟩=>⟨v,h1,ad,aD⟩) this
theorem ek.call {o:Oper}{f:FuncId}{hG:Act→List Value}{τs:List I}{Lin Lr:List aN}{δ:Type}{ρ:δ→I}{Lo:δ→List aN}(h:bZ c.P f τs Lin ρ Lo)
 (aj:∀ a W,bM c E (Lin++Lr) a W→ (execOp a.eval o).run c.P W= .ok (.enter f (hG a).toArray) W∧hc (aS (Lin++Lr)++c.b8) W τs (hG a)):ek c E (Lin++Lr) o ρ (fun q=>Lo q++Lr):=fun a W s=>by
 obtain⟨iP,ao⟩:=aj a W s
 have mN:=s.nodup
 rw [e5] at mN
 obtain⟨n9,px,q1⟩:=List.nodup_append.1 mN
 have kK:Ext (aS (Lin++Lr)++c.b8) W (aS Lin++(aS Lr++c.b8)) W:=B1
 have gk:∀ k∈aS Lr++c.b8,k<W.heap.size∧k ∉ aS Lin:=fun k hm=>by
  rcases List.mem_append.1 hm with hm | hm
  ·exact⟨s.lt k (by rw [e5];exact List.mem_append.2 (.inr hm)),fun h=>q1 k h k hm rfl⟩
  obtain⟨h1,ad⟩:=s.fb k hm;exact⟨h1,fun h=>ad (by rw [e5];exact List.mem_append.2 (.inl h))⟩
 have ct:∀ k∈aS Lin,k<W.heap.size:=fun k hm=>s.lt k (by rw [e5];exact List.mem_append.2 (.inl hm))
 refine .wm (f:=f) (args:=(hG a).toArray) (W':=W) iP ?_
 refine(h (aS Lr++c.b8) W (hG a) gk n9 ct (fun e he=>aN.uo (s.own e (List.mem_append.2 (.inl he))) kK fun _ _=>rfl) (ao.mono kK)).mono fun e W' ⟨v,bf,he,bb,h1,ad,aD,aZ⟩=>?_
 exact⟨v,he,bf,s.after bb h1 ad aD,(ρ bf).mono Jf aZ⟩
theorem ek.SF {o:Oper}{cb:Type}[fl cb]{hp:aY cb}{Lin Lr:List aN}{δ:Type}{ρ:δ→I}{Lo:δ→List aN}{hq:δ→aY cb}(n m:Nat)(ak:L.drop n=aT hp)(h1:(L.take n).take m=Lin)(ad:(L.take n).drop m=Lr)
 (h:ek c E ((Lin++aT hp)++Lr) o ρ (fun q=>(Lo q++aT (hq q))++Lr)):ek c E L o ρ (fun q=>(Lo q++Lr)++aT (hq q)):=by
 have e:L=(Lin++Lr)++aT hp:=by rw [← h1,← ad,List.take_append_drop,← ak,List.take_append_drop]
 clear ak h1 ad
 subst e
 exact h.perm ou fun q=>ou
theorem ek.jg {f:FuncId}{xs:List Operand}{ats:Array TypeId}{cb:Type}[fl cb]{hp:aY cb}{τs:List I}{Lin Lr:List aN}{δ:Type}{ρ:δ→I}{Lo:δ→List aN}{hq:δ→aY cb}(n m:Nat)(ak:L.drop n=aT hp)(ew:bL c.P f)(h:bZ c.P f τs (Lin++aT hp) ρ (fun d=>Lo d++aT (hq d)))
 (h1:(L.take n).take m=Lin) (ad:(L.take n).drop m=Lr) (ao:ik c E L xs τs):ek c E L ⟨d,.call ⟨.value (.func f),xs.toArray,ats⟩,ty,pos,af,g⟩ ρ (fun q=>(Lo q++Lr)++aT (hq q)):=by
 have e:L=(Lin++Lr)++aT hp:=by rw [← h1,← ad,List.take_append_drop,← ak,List.take_append_drop]
 refine ek.SF n m ak h1 ad (ek.call (hG:=fun a=>xs.map a.eval) h fun a W s=>⟨by simp [execOp,resolve,Deferred.ofValue,Act.eval,invoke,ew.run],?_⟩)
 subst e
 exact(ao.holds a W (s.perm ou.symm)).mono (ot ou)
theorem ek.kE {f:FuncId}{xs:List Operand}{ats:Array TypeId}{τs:List I}{Lin Lr:List aN}{δ:Type}{ρ:δ→I}{Lo:δ→List aN}(m:Nat)(ew:bL c.P f)(h:bZ c.P f τs Lin ρ Lo)
 (h1:L.take m=Lin) (ad:L.drop m=Lr) (ao:ik c E L xs τs):ek c E L ⟨d,.call ⟨.value (.func f),xs.toArray,ats⟩,ty,pos,af,g⟩ ρ (fun q=>Lo q++Lr):=by
 have e:L=Lin++Lr:=by rw [← h1,← ad,List.take_append_drop]
 clear h1 ad
 subst e
 exact ek.call (hG:=fun a=>xs.map a.eval) h fun a W s=>⟨by simp [execOp,resolve,Deferred.ofValue,Act.eval,invoke,ew.run],ao.holds a W s⟩
theorem bg.ZS {oY:Operand}{f:FuncId}{u6 τs:List I}{xs:List Operand}{ats:Array TypeId}(ew:bL c.P f)(bb:bg c E L oY (.ln f u6))(ao:ik c E L xs τs){a:Act}{W:World}(s:bM c E L a W):
 ∃ iH:List Value,(execOp a.eval ⟨d,.call ⟨.value oY,xs.toArray,ats⟩,ty,pos,af,g⟩).run c.P W= .ok (.enter f (xs.map a.eval++iH).toArray) W∧hc (aS L++c.b8) W (τs++u6) (xs.map a.eval++iH):=by
 obtain⟨iH,h1,ad⟩:=bb a W s
 exact⟨iH,by simp [execOp,resolve,Deferred.ofValue,h1,invoke,ew.run],(ao.holds a W s).append ad⟩
theorem ek.ln {oY:Operand}{f:FuncId}{u6 τs:List I}{xs:List Operand}{ats:Array TypeId}{Lin Lr:List aN}{δ:Type}{ρ:δ→I}{Lo:δ→List aN}(m:Nat)(ew:bL c.P f)(bb:bg c E L oY (.ln f u6))(h:bZ c.P f (τs++u6) Lin ρ Lo)
 (h1:L.take m=Lin) (ad:L.drop m=Lr) (ao:ik c E L xs τs):ek c E L ⟨d,.call ⟨.value oY,xs.toArray,ats⟩,ty,pos,af,g⟩ ρ (fun q=>Lo q++Lr):=by
 have e:L=Lin++Lr:=by rw [← h1,← ad,List.take_append_drop]
 clear h1 ad
 subst e
 intro a W s
 obtain⟨iH,aD,aZ⟩:=bg.ZS (d:=d) (ty:=ty) (pos:=pos) (af:=af) (g:=g) (ats:=ats) ew bb ao s
 have mN:=s.nodup
 rw [e5] at mN
 obtain⟨n9,px,q1⟩:=List.nodup_append.1 mN
 have kK:Ext (aS (Lin++Lr)++c.b8) W (aS Lin++(aS Lr++c.b8)) W:=B1
 have gk:∀ k∈aS Lr++c.b8,k<W.heap.size∧k ∉ aS Lin:=fun k hm=>by
  rcases List.mem_append.1 hm with hm | hm
  ·exact⟨s.lt k (by rw [e5];exact List.mem_append.2 (.inr hm)),fun h=>q1 k h k hm rfl⟩
  obtain⟨h1,ad⟩:=s.fb k hm;exact⟨h1,fun h=>ad (by rw [e5];exact List.mem_append.2 (.inl h))⟩
 have ct:∀ k∈aS Lin,k<W.heap.size:=fun k hm=>s.lt k (by rw [e5];exact List.mem_append.2 (.inl hm))
 refine .wm (f:=f) (W':=W) aD ?_
 refine(h (aS Lr++c.b8) W _ gk n9 ct (fun e he=>aN.uo (s.own e (List.mem_append.2 (.inl he))) kK fun _ _=>rfl) (aZ.mono kK)).mono fun e W' ⟨v,bf,he,bb,h1,ad,aD,aZ⟩=>?_
 exact⟨v,he,bf,s.after bb h1 ad aD,(ρ bf).mono Jf aZ⟩
theorem ik.perm {hJ:List aN}(p:L.Perm hJ):∀ {xs:List Operand} {τs:List I},ik c E L xs τs→ik c E hJ xs τs
 | [],[],h=>h
 | _::_,_::_,h=>⟨h.1.perm p,ik.perm p h.2⟩
 | [],_::_,h=>h.elim
 | _::_,[],h=>h.elim
theorem ek.KU {oY:Operand}{f:FuncId}{u6 τs:List I}{xs:List Operand}{ats:Array TypeId}{cb:Type}[fl cb]{hp:aY cb}{Lin Lr:List aN}{δ:Type}{ρ:δ→I}{Lo:δ→List aN}{hq:δ→aY cb}(n m:Nat)(ak:L.drop n=aT hp)(ew:bL c.P f)(bb:bg c E L oY (.ln f u6))(h:bZ c.P f (τs++u6) (Lin++aT hp) ρ (fun d=>Lo d++aT (hq d)))
 (h1:(L.take n).take m=Lin) (ad:(L.take n).drop m=Lr) (ao:ik c E L xs τs):ek c E L ⟨d,.call ⟨.value oY,xs.toArray,ats⟩,ty,pos,af,g⟩ ρ (fun q=>(Lo q++Lr)++aT (hq q)):=by
 have e:L=(Lin++Lr)++aT hp:=by rw [← h1,← ad,List.take_append_drop,← ak,List.take_append_drop]
 refine ek.SF n m ak h1 ad ?_
 subst e
 refine ek.to (fun q=>rfl) (ek.ln (Lin++aT hp).length ew (bb.perm ou) h List.take_left List.drop_left (ao.perm ou))
theorem ek.obj {f:FuncId}{xs:List Operand}{ats:Array TypeId}{cb:Type}[fl cb]{hp:aY cb}{p:Nat}{k:cb}{τs:List I}{Lin:List aN}{δ:Type}{ρ:δ→I}{Lo:δ→List aN}(n:Nat)(k':δ→cb)(ak:L.drop n=aT hp)(hp':pat hp p=some k)(ew:bL c.P f)(h:bZ c.P f τs Lin ρ Lo)
 (hk:fl.h4 p k=Lin) (jQ:∀ q,fl.h4 p (k' q)=Lo q) (ao:ik c E L xs τs):ek c E L ⟨d,.call ⟨.value (.func f),xs.toArray,ats⟩,ty,pos,af,g⟩ ρ (fun q=>L.take n++aT (dx hp p (k' q))):=by
 obtain⟨R,aK,aP⟩:=wg hp'
 have e:L=L.take n++aT hp:=by rw [← ak,List.take_append_drop]
 have dg:∀ {M X:List aN},M.Perm (X++R)→ (L.take n++M).Perm (X++(R++L.take n)):=fun h=>List.perm_append_comm.trans ((h.append_right _).trans (by rw [List.append_assoc]))
 have L6:L.Perm (Lin++(R++L.take n)):=by
  conv=>lhs;rw [e]
  exact dg (by rw [← hk];exact aK)
 refine ek.perm L6 (fun q=>(dg (aP (k' q))).symm) ?_
 refine ek.to (fun q=>by rw [jQ]) (ek.call (Lr:=R++L.take n) (hG:=fun a=>xs.map a.eval) h fun a W s=>⟨by simp [execOp,resolve,Deferred.ofValue,Act.eval,invoke,ew.run],?_⟩)
 exact(ao.holds a W (s.perm L6.symm)).mono (ot L6)
theorem fi.obj {f:FuncId}{xs:List Operand}{ats:Array TypeId}{cb:Type}[fl cb]{hp:aY cb}{p:Nat}{k:cb}{τs:List I}{Lin:List aN}{δ:Type}{τ:I}(n:Nat)(ak:L.drop n=aT hp)(hp':pat hp p=some k)(ew:bL c.P f)(h:bZ c.P f τs Lin (fun _:δ=>τ) (fun _=>Lin))
 (hk:fl.h4 p k=Lin) (ao:ik c E L xs τs):fi c E L ⟨d,.call ⟨.value (.func f),xs.toArray,ats⟩,ty,pos,af,g⟩ τ:=by
 have e:L=L.take n++aT hp:=by rw [← ak,List.take_append_drop]
 have agp:dx hp p k=hp:=by
  clear e ak h hk;induction hp with
  | nil=>rfl
  | cons z r b7=>
    obtain⟨q,aij⟩:=z
    simp only [pat] at hp'
    simp only [dx]
    split at hp'
    ·rename_i e;simp only [Option.some.injEq] at hp';rw [if_pos e,hp']
    rename_i e;rw [if_neg e,b7 hp']
 refine ek.afd (ek.to (fun q=>?_) (ek.obj (d:=d) (ty:=ty) (pos:=pos) (af:=af) (g:=g) (ats:=ats) n (fun _=>k) ak hp' ew h hk (fun _=>hk) ao))
 rw [agp,← e]
theorem ae.abg {l:List Oper}{cb:Type}[fl cb]{hp:aY cb}{p:Nat}{Lin Lr:List aN}(n m:Nat)(mk:cb)(ak:L.drop n=aT hp)(h1:(L.take n).take m=Lin)(ad:(L.take n).drop m=Lr)(hk:fl.h4 p mk=Lin)(hm:p∈aS Lin)
 (k:∀ a:Nat×aY cb,a.1 ∉ hp.map (·.1)∧a.2=(a.1,mk)::hp→a.1=p→ae c ops Q l E (Lr++aT a.2)):ae c ops Q l E L:=fun a W s=>by
 have e:L=(Lin++Lr)++aT hp:=by rw [← h1,← ad,List.take_append_drop,← ak,List.take_append_drop]
 have dg:L.Perm (Lr++aT ((p,mk)::hp)):=by
  rw [e,aT,hk,← List.append_assoc];exact List.perm_append_comm.append_right _
 refine k (p,(p,mk)::hp) ⟨fun agq=>?_,rfl⟩ rfl _ _ (s.perm dg)
 have h7:=s.nodup
 rw [e,e5,e5] at h7
 exact(List.nodup_append.1 h7).2.2 p (List.mem_append.2 (.inl hm)) p (QZ agq) rfl
end
section
variable {c:dt} {E:List (Nat×I)} {L:List aN} {ops:Array Oper} {Q:Exit→Act→World→Prop}
theorem cv.q {hs:List eQ}{i np:Nat}{o:Oper}{h:eQ}(cu:cv c ops Q hs E L i o h):J5 c ops Q hs E L np i o h:=fun hd E' L' h1 ad _=>cu hd E' L' h1 ad
structure Cb (P:Program)(f:FuncId)(τs:List I){cb:Type}[fl cb](hp:aY cb){α:Type}(τ:α→I)(run:∀ {σ ε:Type},(α→σ→Option (σ ⊕ ε))→σ→Option (σ ⊕ ε)):Prop where
 go:∀ {σ ε γ:Type} (Ls:σ→γ→List aN) (Lx:ε→γ→List aN) (kx:σ→γ→List aN),(∀ s g,Ls s g=kx s g++aT hp)→LY P f τs [] τ (run (σ:=σ) (ε:=ε)) Ls Lx
theorem Cb.of {P:Program}{f:FuncId}{fn:Func}{code:Code}{n:Nat}{τs:List I}{cb:Type}[fl cb]{hp:aY cb}{α:Type}{τ:α→I}{run:∀ {σ ε:Type},(α→σ→Option (σ ⊕ ε))→σ→Option (σ ⊕ ε)}
 (bb:P.funcs[f]? =some fn) (hb:fn.body=some code) (aO:fn.ntmps=n) (hlen:Nat.ble (τs.length+1) n=true)
 (h:∀ {σ ε γ:Type} (Ls:σ→γ→List aN) (Lx:ε→γ→List aN) (kx:σ→γ→List aN),(∀ s g,Ls s g=kx s g++aT hp)→ ∀ (step:α→σ→Option (σ ⊕ ε)) (cF:σ) (g0:γ) (r:σ ⊕ ε),run step cF=some r→
  ∀ W A u,xB P u τ Ls Lx step (fun c8 W'=>Ext (aS (Ls cF g0)++A) W c8 W')→
    ag ⟨P,n,W,aS (Ls cF g0),A,none,[]⟩ (bodyPost P fn (kG (aS (Ls cF g0)) A W (fun _:γ=>.eu []) (fun g=>[]++Lr Ls Lx r g))) code (params 0 (.eq u::τs)) (Ls cF g0)):Cb P f τs hp τ run:=by
 refine⟨?_⟩
 intro σ ε γ Ls Lx kx n1 step cF g0 r aR A W u vs al a6 a7
 refine calls_of_wp bb hb (wpIn_wide.1 (h Ls Lx kx n1 step cF g0 r aR W A u a7 _ _ ?_))
 have nx:hc (aS (Ls cF g0)++A) W (.eq u::τs) (u::vs):= .cons rfl a6
 have iB:=nx.length
 have hle:τs.length+1≤n:=Nat.le_of_ble_eq_true hlen
 exact
 {defers:=rfl
  size:=by simp at iB;simp [aO,iB];omega
  env:=fun t τ ft=>by
   obtain⟨_,v,ad,aD⟩:=wa nx 0 t τ ft;refine⟨v,?_,aD⟩;have ct:t<(u::vs).length:=(List.getElem?_eq_some_iff.1 ad).1;rw [Array.getElem?_append_left (by simpa using ct)];simpa using ad
  dR:= .refl _ _
  own:=al.ok
  nodup:=al.nodup
  lt:=al.lt
  gw:=fun k hk _=>hk
  fb:=al.fb }
theorem abC {cb:Type}[fl cb]{σ γ:Type}{Ls kx:σ→γ→List aN}{hp:aY cb}{s:σ}{g:γ}{p:Nat}{k:cb}{e:aN}(n:Nat)(ak:L.drop n=Ls s g)(n1:∀ s g,Ls s g=kx s g++aT hp)(h:pat hp p=some k)(hk:fl.h4 p k= [e]):e∈L:=
 RC (hq:=fun _=>hp) n ak n1 h hk
theorem IX {gt p:Nat}{assign body:Code}{f:FuncId}{nr:List I}{cb:Type}[fl cb]{hp:aY cb}{α σ ε γ:Type}{τ:α→I}{run:∀ {σ ε:Type},(α→σ→Option (σ ⊕ ε))→σ→Option (σ ⊕ ε)}
 {Ls:σ→γ→List aN} {Lx:ε→γ→List aN} {step:α→σ→Option (σ ⊕ ε)} {cF:σ} {g0:γ} {r:σ ⊕ ε} (kx:σ→γ→List aN) (fu:ε→Code)
 (aj:c.rd=none) (ew:bL c.P f) (bH:look E gt=some (.ln f nr)) (mw:Cb c.P f nr hp τ run) (aR:run step cF=some r) (n1:∀ s g,Ls s g=kx s g++aT hp) (ak:L=Ls cF g0) (hp':Nat.blt p c.n=true)
 (pV:∀ x s r,step x s=some r→ ∀ g (lr:World) (lC lu:List Nat) (l D:Nat) (rec:Loop),rec.state= .ready→
  ag ⟨c.P,c.n,lr,lC,lu,some l,[]⟩ (Exit.then (EB ⟨c.P,c.n,lr,lC,lu,some l,[]⟩ l body (EA ⟨c.P,c.n,lr,lC,lu,some l,[]⟩ fu l D { rec with state:= .busy } Ls Lx r)) (fun _ _ _=>False)) assign ((p,τ x)::E) (⟨some l,.is (.loop rec)⟩::⟨some D,.dE⟩::Ls s g))
 (ph:∀ cw,r= .inl cw→ ∀ g D,aa { c with ds:=D::c.ds } Q .normal E (⟨some D,.dE⟩::Ls cw g))
 (w2:∀ q,r= .inr q→ ∀ g D,ag { c with ds:=D::c.ds } Q (fu q) E (⟨some D,.dE⟩::Lx q g)):
 ag c Q (.rangeFunc (.tmp gt) #[p] assign body) E L:=
 OJ (Lin:= []) (run:=run) fu aj ew bH (fun aw aX ny=>mw.go (fun s g=>aw::aX::Ls s g) ny (fun s g=>aw::aX::kx s g) (fun s g=>by rw [n1];rfl)) aR ak hp' pV ph w2
end
structure Raw where
 f:FuncId
 us:Option (List Value)
instance:Inhabited Raw:=⟨⟨0,none⟩⟩
def Raw.val:Raw→Value
 | ⟨f,some us⟩=>.func (.func f) #[] us.toArray
 | ⟨_,none⟩=>.nilFunc
instance:ah Raw where
 size:=1
 agg:=false
 rep _ _ cs x:=cs= [x.val]
 len h:=by rw [h];rfl
 one h:=by
  intro v a6;rw [h,List.mem_singleton] at a6;subst a6;rename_i x;obtain⟨f,us⟩:=x;cases us <;> rfl
 flat _:=rfl
 mono _ h:=h
instance:bm Raw:=⟨[.nilFunc],fun _ _=>rfl⟩
theorem Q2 {A W v}{x:Raw} :(I.of x).holds A W v↔v=x.val:=by
 constructor
 ·intro h;exact o5 (by have:=h.1;exact this) h.2
 intro h;subst h;obtain⟨f,us⟩:=x;cases us <;> exact⟨rfl,rfl⟩
section
variable {c:dt} {E:List (Nat×I)} {L:List aN} {ops:Array Oper} {Q:Exit→Act→World→Prop}
variable {d:Option Tmp} {ty:TypeId} {pos:String} {af:Array Edge} {g:Option (Nat×Bool)} {x y:Operand} {t t2:TypeId}
theorem hc.eqs {A:List Nat}{W:World} :∀ {us vs:List Value},hc A W (us.map I.eq) vs→vs=us
 | [],_,.nil=>rfl
 | _::_,_,.cons h r=>by rw [r.eqs];congr 1
theorem hc.SG {A:List Nat}{W:World} :∀ {us:List Value},hc A W (us.map I.eq) us
 | []=>.nil
 | _::_=>.cons rfl .SG
theorem RI {f:FuncId}{xs:List Operand}{us:List Value}(ao:ik c E L xs (us.map I.eq)):cf c E L ⟨d,.makeFunc (.func f) #[] xs.toArray,ty,pos,af,g⟩ (.of (⟨f,some us⟩:Raw)):= .pure fun a W s=>
 ⟨.func (.func f) #[] us.toArray,by
   have h:=(ao.holds a W s).eqs;simp [execOp,Instr.makeFunc,h],Q2.2 rfl⟩
theorem I8 {f:FuncId}{us:List Value}(ao:bg c E L x (.of (⟨f,some us⟩:Raw))):bg c E L x (.ln f (us.map I.eq)):=fun a W s=>
 ⟨us,Q2.1 (ao a W s),.SG⟩
theorem ae.sd {o:Oper}{rest:List Oper}{bf j gs:Nat}{b want:Bool}{β γ vt:Type}{m:aA β}{z:β}{k:β→aA vt}{R:vt→Prop}(h:aA.bind (bif decide (b=want) then m else aA.ret z) k R)(σ:β→I)(L2:β→γ→List aN)(g0:γ)(ak:L=L2 z g0)
 (bH:o.guard=some (j,want)) (aF:(ops[j]?).bind (·.dst)=some gs) (al:look E gs=some (.of b)) (hd:o.dst=some bf) (aO:Nat.blt bf c.n=true)
 (bP:b=want→m (fun r=>k r R)→ek c E L o (fun q: {r // k r R}×γ=>σ q.1.1) (fun q=>L2 q.1.1 q.2))
 (nE:∀ y g,k y R→ae c ops Q rest ((bf,.cond (b=want) (σ y))::E) (L2 y g)):ae c ops Q (o::rest) E L:=by
 by_cases hb:b=want
 ·have hm:m (fun r=>k r R):=by
   have df:(bif decide (b=want) then m else aA.ret z) (fun r=>k r R):=h;rw [decide_eq_true hb] at df;exact df
  exact ae.UF (β:=β×γ) (K:=fun y=>k y.1 R) (σ:=fun y=>σ y.1) (L2:=fun y=>L2 y.1 y.2) (val:=fun q=>(q.1.1,q.2)) bH aF al hd aO (fun _=>bP hb hm) (fun _ q=>⟨q.1.2,rfl,rfl⟩) (fun h=>absurd hb h) fun y a7=>nE y.1 y.2 a7
 have hm:k z R:=by
  have df:(bif decide (b=want) then m else aA.ret z) (fun r=>k r R):=h;rw [decide_eq_false hb] at df;exact df
 exact ae.UF (δ:=Unit) (β:=β×γ) (K:=fun y=>k y.1 R) (σ:=fun y=>σ y.1) (L2:=fun y=>L2 y.1 y.2) (val:=fun _=>(z,g0)) (ρ:=fun _=>σ z) (L':=fun _=>L2 z g0) bH aF al hd aO (fun h=>absurd h hb) (fun h=>absurd h hb) (fun _=>⟨(z,g0),hm,ak⟩) fun y a7=>nE y.1 y.2 a7
end
section
variable {c:dt} {E:List (Nat×I)} {L:List aN} {ops:Array Oper} {Q:Exit→Act→World→Prop}
theorem ae.abh {l:List Oper}{p q:Nat}(gN:Nat)(al:look E gN=some (.eq (.pointer (some ⟨p,0,none⟩))))(he:q=p)(k:ae c ops Q l ((gN,.of (some q:Ref))::E) L):ae c ops Q l E L:=fun a W s=>by
 subst he;refine k a W (s.less fun t τ h=>?_);simp only [look] at h;by_cases e:Nat.beq gN t=true
 ·rw [e] at h;simp only [cond_true,Option.some.injEq] at h;have:=eH.1 e;subst this;subst h;exact⟨_,al,fun A W v a6=>uE.2 a6⟩
 simp only [Bool.not_eq_true] at e;rw [e] at h;exact⟨τ,h,fun _ _ _ h=>h⟩
end
section
variable {c:dt} {E:List (Nat×I)} {L:List aN} {ops:Array Oper} {Q:Exit→Act→World→Prop}
def w4 (ops:Array Oper)(n:Nat)(hs:List (Option Nat×List Nat×List Nat×List Nat))(E:List Nat):Bool:=
 decide (hs.length=n)&&decide (n≤ops.size)&&decide (hs.filterMap (·.1)).Nodup&&((List.range n).all fun m=>match hs[m]? with | some (some s,up,_)=> !E.contains s||(List.range n).all fun k=>decide (k=m)||up.contains k | _=>true)&&
 ((List.range n).all fun i=>match hs[i]? with
   | none=>false
   | some (_,up,rd,wr)=>
     (((ops[i]?).map fun o=>(o.dst==(hs[i]?).bind (·.1))&&o.after.all fun e=> !Region.binds .any e||decide (e.on<i)).getD false)&&
     (up.all fun k=>Region.waitsFor .any ops i k||(List.range i).any fun m=>Region.waitsFor .any ops i m&&((hs[m]?).map fun h=>h.2.1.contains k).getD false)&&
     ((List.range n).all fun k=>match hs[k]? with
       | none=>true
       | some (_,agr,_,T3)=>
         (!(decide (k<i)&&T3.any rd.contains)||up.contains k)&&(!(decide (i<k)&&T3.any fun j=>rd.contains j||wr.contains j)||agr.contains i)))&&
 (decide (n=ops.size)||(Region.sinkB .any ops n&&Region.chainB .any ops n))&&
 Region.seqB .any ops (ops.size - n) n ((List.range n).foldl (fun l i=>l.setIfInBounds i true) (Array.replicate ops.size false))
theorem Xt {n:Nat}{hs:List eQ}{np:Nat}(hw:∀ h∈hs,∀ j∈h.wr,j<np∨L.length≤j)(ib:w4 ops n (nw hs) (E.map (·.1))=true)(cu:rF c ops Q hs E L np 0 (ops.toList.take n) hs)
 (bP:∀ hd,ae c ops Q (ops.toList.drop n) (kb (fun _=>true) hd E 0 hs) (jo (fun _=>true) hd 0 hs L)):
 ∀ m (bp:Array Bool) (hd:Nat→Hid) (a:Act) (W:World),((List.range n).filter fun i=> !bp.getD i true).length≤m→HeadInv .any ops n bp→
   bM c (kb (fun i=>bp.getD i false) hd E 0 hs) (jo (fun i=>bp.getD i false) hd 0 hs L) a W→wpAnyIn c.F 9 c.P .any ops Q (m+(ops.size - n)) bp a W:=by
 simp only [w4,Bool.and_eq_true,decide_eq_true_eq,Bool.or_eq_true] at ib
 obtain⟨⟨⟨⟨⟨⟨acT,aO⟩,h7⟩,Tv⟩,k2⟩,wY⟩,qJ⟩:=ib
 have hlen:hs.length=n:=by simpa [nw] using acT
 have oM:∀ i,i<n→ ∃ h o,hs[i]? =some h∧ops[i]? =some o:=fun i ar=>⟨hs[i]'(by omega),ops[i],by simp,by simp⟩
 have C2:∀ (i:Nat) (h:eQ) (o:Oper),hs[i]? =some h→ops[i]? =some o→
  o.dst=h.slot∧ (∀ e∈o.after,Region.binds .any e=true→e.on<i)∧
  (∀ k∈h.up,Region.waitsFor .any ops i k=true∨ ∃ m,m<i∧Region.waitsFor .any ops i m=true∧ ∃ x,hs[m]? =some x∧k∈x.up)∧
  (∀ (k:Nat) (x:eQ),hs[k]? =some x→ (k<i→ (∃ j∈x.wr,h.rd.contains j=true)→k∈h.up)∧ (i<k→ (∃ j∈x.wr,h.rd.contains j=true∨h.wr.contains j=true)→i∈x.up)):=by
  intro i h o ar bk
  have ct:i<n:=by have:=(List.getElem?_eq_some_iff.1 ar).1;omega
  have h1:=List.all_eq_true.1 k2 i (List.mem_range.2 ct)
  rw [Jx ar] at h1
  simp only [Bool.and_eq_true] at h1
  obtain⟨⟨ad,aD⟩,aZ⟩:=h1
  simp only [bk,Option.map_some,Option.getD_some,Bool.and_eq_true,Option.bind_some,beq_iff_eq] at ad
  refine⟨ad.1,fun e he hb=>?_,fun k hk=>?_,fun k x ao=>?_⟩
  ·have:=Array.all_eq_true_iff_forall_mem.1 ad.2 e he
   simp [hb] at this
   exact this
  ·have:=List.all_eq_true.1 aD k hk
   simp only [Bool.or_eq_true,List.any_eq_true,Bool.and_eq_true,List.mem_range] at this
   rcases this with bc | ⟨m,bc,bu,dh⟩
   ·exact .inl bc
   have hm:m<hs.length:=by omega
   rw [Jx (List.getElem?_eq_getElem hm)] at dh
   exact .inr ⟨m,bc,bu,hs[m],List.getElem?_eq_getElem hm,by simpa using dh⟩
  have LK:k<n:=by have:=(List.getElem?_eq_some_iff.1 ao).1;omega
  have:=List.all_eq_true.1 aZ k (List.mem_range.2 LK)
  rw [Jx ao] at this
  simp only [Bool.and_eq_true,Bool.or_eq_true,Bool.not_eq_true',Bool.and_eq_false_iff,decide_eq_false_iff_not,List.contains_iff_mem] at this
  refine⟨fun r8 ⟨j,aF,aR⟩=>?_,fun qW ⟨j,aF,aR⟩=>?_⟩
  ·rcases this.1 with(bc | bc) | bc
   ·exact absurd r8 bc
   ·have:=List.any_eq_false.1 bc j aF
    exact absurd aR this
   exact bc
  rcases this.2 with(bc | bc) | bc
  ·exact absurd qW bc
  ·have:=List.any_eq_false.1 bc j aF
   simp only [Bool.or_eq_true] at this
   exact absurd aR this
  exact bc
 have KJ:∀ (i j s:Nat) (x y:eQ),hs[i]? =some x→hs[j]? =some y→x.slot=some s→y.slot=some s→i=j:=by
  have key:∀ (l:List eQ),((nw l).filterMap (·.1)).Nodup→ ∀ (i j s:Nat) (x y:eQ),l[i]? =some x→l[j]? =some y→x.slot=some s→y.slot=some s→i=j:=by
   intro l;induction l with
   | nil=>intro _ i j s x y h;simp at h
   | cons z r b7=>
     intro h7 i j s x y ar aF ao a7
     have aR:((nw r).filterMap (·.1)).Nodup:=by
      cases dS:z.slot with
      | none=>simpa [nw,dS] using h7
      | some w=>
        simp only [nw,List.map_cons,List.filterMap_cons,dS] at h7
        exact(List.nodup_cons.1 h7).2
     have u2:z.slot=some s→ ∀ (q:Nat) (v:eQ),r[q]? =some v→v.slot≠some s:=fun dS q v hq a6=>by
      simp only [nw,List.map_cons,List.filterMap_cons,dS] at h7;exact(List.nodup_cons.1 h7).1 (List.mem_filterMap.2 ⟨_,List.mem_map.2 ⟨v,List.mem_of_getElem? hq,rfl⟩,a6⟩)
     cases i with
     | zero=>
       simp only [List.getElem?_cons_zero,Option.some.injEq] at ar
       subst ar
       cases j with
       | zero=>rfl
       | succ j=>simp only [List.getElem?_cons_succ] at aF;exact absurd a7 (u2 ao j y aF)
     | succ i=>
       simp only [List.getElem?_cons_succ] at ar
       cases j with
       | zero=>
         simp only [List.getElem?_cons_zero,Option.some.injEq] at aF
         subst aF
         exact absurd ao (u2 a7 i x ar)
       | succ j=>simp only [List.getElem?_cons_succ] at aF;rw [b7 aR i j s x y ar aF ao a7]
  exact key hs h7
 have acU:∀ (t:Nat) (τ:I),look E t=some τ→ ∀ (m:Nat) (h:eQ),hs[m]? =some h→h.slot=some t→ ∀ k,k<n→k≠m→k∈h.up:=by
  intro t τ al m h hm eS k hk xF;have mR:m<n:=by have:=(List.getElem?_eq_some_iff.1 hm).1;omega
  have h1:=List.all_eq_true.1 Tv m (List.mem_range.2 mR);rw [show(nw hs)[m]? =some (h.slot,h.up,h.rd,h.wr) by simp [nw,hm],eS] at h1;have u4:t∈E.map (·.1):=by
   clear Tv h1 cu bP hm eS;induction E with
   | nil=>simp [look] at al
   | cons x r b7=>
     obtain⟨s,σ⟩:=x
     simp only [look] at al
     by_cases e:Nat.beq s t=true
     ·have:=eH.1 e;subst this;simp
     simp only [Bool.not_eq_true] at e
     rw [e] at al
     simp only [List.map_cons,List.mem_cons]
     exact .inr (b7 al)
  replace h1:(!(E.map (·.1)).contains t||(List.range n).all fun k=>decide (k=m)||h.up.contains k)=true:=h1;rw [show(E.map (·.1)).contains t=true by simpa using u4] at h1;have ad:∀ x,x<n→x=m∨x∈h.up:=by simpa using h1
  exact(ad k hk).resolve_left xF
 have Hy:∀ (bp:Array Bool),HeadInv .any ops n bp→ ∀ (d i:Nat),i≤d→ ∀ (h:eQ) (o:Oper),hs[i]? =some h→ops[i]? =some o→ (∀ e∈o.after,Region.binds .any e=true→bp.getD e.on false=true)→ ∀ k∈h.up,bp.getD k false=true:=by
  intro bp inv d;induction d with
  | zero=>
    intro i ar h o eL Aa hw k hk
    rcases (C2 i h o eL Aa).2.2.1 k hk with h1 | ⟨m,hm,_⟩
    ·obtain⟨oV,lZ,e,he,hb,pt⟩:=Region.waitsFor_spec h1
     rw [Aa] at lZ;cases lZ
     rw [← pt];exact hw e he hb
    omega
  | succ d b7=>
    intro i ar h o eL Aa hw k hk
    rcases (C2 i h o eL Aa).2.2.1 k hk with h1 | ⟨m,hm,h1,x,ao,ags⟩
    ·obtain⟨oV,lZ,e,he,hb,pt⟩:=Region.waitsFor_spec h1
     rw [Aa] at lZ;cases lZ
     rw [← pt];exact hw e he hb
    obtain⟨oV,lZ,e,he,hb,pt⟩:=Region.waitsFor_spec h1
    rw [Aa] at lZ;cases lZ
    have mR:=hw e he hb
    rw [pt] at mR
    obtain⟨aL,EF,ahY,El⟩:=oM m (by have:=(List.getElem?_eq_some_iff.1 eL).1;omega)
    exact b7 m (by omega) x EF ao El (fun e he hb=>inv.closed m EF El mR e he hb) k ags
 have ph:∀ (bp:Array Bool) (hd:Nat→Hid) (a:Act) (W:World),(∀ i,i<n→bp.getD i true=true)→HeadInv .any ops n bp→
  bM c (kb (fun i=>bp.getD i false) hd E 0 hs) (jo (fun i=>bp.getD i false) hd 0 hs L) a W→wpAnyIn c.F 9 c.P .any ops Q (ops.size - n) bp a W:=by
  intro bp hd a W uQ inv st
  have al:=IS inv aO uQ
  rw [← al] at qJ
  have wZ:(ops.toList.drop n).length=ops.size - n:=by simp
  rw [← wZ]
  rw [← wZ] at qJ
  refine Bu (ops.toList.drop n) n bp a W (fun j=>by simp) qJ (bP hd a W ?_)
  have Hz:∀ m,m<hs.length→bp.getD (0+m) false=true:=fun m hm=>by
   have h1:=uQ m (by omega);have ad:m<bp.size:=by rw [inv.size];omega
   simpa [ad] using h1
  rw [Ol (ls':=fun _=>true) Hz,O2 (ls':=fun _=>true) Hz] at st
  exact st
 have more:∀ f (bp:Array Bool) a W,wpAnyIn c.F 9 c.P .any ops Q f bp a W→wpAnyIn c.F 9 c.P .any ops Q (f+1) bp a W:=by
  intro f;induction f with
  | zero=>intro bp a W h;exact⟨fun _=>h.2,fun i ar=>by rw [h.1] at ar;cases ar⟩
  | succ f DV=>intro bp a W h;exact⟨h.1,fun i ar=>wpOpIn_mono (fun gX nD df=>DV _ gX nD df) (h.2 i ar)⟩
 intro m
 induction m with
 | zero=>
   intro bp hd a W hm inv st
   rw [Nat.zero_add]
   refine ph bp hd a W (fun i ar=>?_) inv st
   cases h:bp.getD i true with
   | true=>rfl
   | false=>
     have:i∈ (List.range n).filter fun i=> !bp.getD i true:=List.mem_filter.2 ⟨List.mem_range.2 ar,by rw [h];rfl⟩
     rw [List.length_eq_zero_iff.1 (Nat.le_zero.1 hm)] at this
     cases this
 | succ m b7=>
   intro bp hd a W hm inv st
   rw [show m+1+(ops.size - n)=(m+(ops.size - n))+1 by omega]
   by_cases C3:∀ i,i<n→bp.getD i true=true
   ·have h1:=ph bp hd a W C3 inv st
    have key:∀ k,wpAnyIn c.F 9 c.P .any ops Q (k+(ops.size - n)) bp a W:=by
     intro k;induction k with
     | zero=>rw [Nat.zero_add];exact h1
     | succ k DW=>rw [show k+1+(ops.size - n)=(k+(ops.size - n))+1 by omega];exact more _ _ _ _ DW
    exact more _ _ _ _ (key m)
   have hex:∃ i,i<n∧bp.getD i true=false:=by
    false_or_by_contra;rename_i ad;exact C3 fun i ar=>by
     cases h:bp.getD i true with
     | true=>rfl
     | false=>exact absurd ⟨i,ar,h⟩ ad
   have Cv:∀ t∈Region.ready .any ops bp,t<n:=by
    intro t qY;rcases Nat.lt_or_ge t n with h | h
    ·exact h
    obtain⟨i,ar,jR⟩:=hex;have Tn:n<ops.size∨n=ops.size:=by omega
    have afe:t<ops.size:=by
     obtain⟨_,o,bk,_⟩:=mem_ready.1 qY;exact(Array.getElem?_eq_some_iff.1 bk).1
    rcases wY with h1 | h1
    ·omega
    exact absurd qY (tail_waits h1.1 h1.2 (by omega) inv _ i rfl ar jR t h)
   refine⟨fun bR=>?_,fun i ar=>?_⟩
   ·exfalso
    have key:∀ d i,i≤d→i<n→bp.getD i true=true:=by
     intro d;induction d with
     | zero=>
       intro i DX ar
       cases al:bp.getD i true with
       | true=>rfl
       | false=>
         obtain⟨h,o,eL,bk⟩:=oM i ar
         have:i∈Region.ready .any ops bp:=mem_ready.2 ⟨al,o,bk,fun e he hb=>by have:=(C2 i h o eL bk).2.1 e he hb;omega⟩
         rw [bR] at this;cases this
     | succ d L7=>
       intro i DX ar
       cases al:bp.getD i true with
       | true=>rfl
       | false=>
         obtain⟨h,o,eL,bk⟩:=oM i ar
         have:i∈Region.ready .any ops bp:=mem_ready.2 ⟨al,o,bk,fun e he hb=>by
          have h1:=(C2 i h o eL bk).2.1 e he hb;have ad:=L7 e.on (by omega) (by omega);have aD:e.on<bp.size:=by rw [inv.size];omega
          simpa [aD] using ad⟩
         rw [bR] at this;cases this
    obtain⟨i,ar,jR⟩:=hex
    have:=key i i (Nat.le_refl _) ar
    rw [jR] at this;cases this
   have fc:i<n:=Cv i ar
   obtain⟨jR,o,bk,pS⟩:=mem_ready.1 ar
   obtain⟨h,_,eL,_⟩:=oM i fc
   have nW:bp.getD i false=false:=getD_both jR
   have u3:i<bp.size:=by rw [inv.size];omega
   have tc:((List.range n).filter fun j=> !(bp.setIfInBounds i true).getD j true).length≤m:=by
    have:((List.range n).filter fun j=> !(bp.setIfInBounds i true).getD j true).length<((List.range n).filter fun j=> !bp.getD j true).length:=by
     refine J2 (fun j=> !bp.getD j true) (fun j=> !(bp.setIfInBounds i true).getD j true) i (by simp only [jR];rfl) ?_ (fun j aF=>?_) n fc
     ·simp [u3]
     by_cases e:i=j
     ·subst e;simp only [jR];rfl
     rw [getD_set_ne true e] at aF;exact aF
    omega
   have xg:=inv.set ar fc
   obtain⟨GZ,Gk,ahC,DB⟩:=C2 i h o eL bk
   have G4:=Hy bp inv i i (Nat.le_refl _) h o eL bk pS
   have Q3:∀ (k:Nat) (x:eQ),hs[k]? =some x→i<k→ (∃ j∈x.wr,h.rd.contains j=true∨h.wr.contains j=true)→bp.getD k false=false:=fun k x ao qW aF=>by
    have h1:=(DB k x ao).2 qW aF;cases hk:bp.getD k false with
    | false=>rfl
    | true=>
      obtain⟨_,ok,_,iD⟩:=oM k (by have:=(List.getElem?_eq_some_iff.1 ao).1;omega)
      have:=Hy bp inv k k (Nat.le_refl _) x ok ao iD (fun e he hb=>inv.closed k ok iD hk e he hb) i h1
      rw [nW] at this;cases this
   have Q4:hs=hs.take i++h::hs.drop (i+1):=by
    have Ab:i<hs.length:=by omega
    rw [List.getElem?_eq_getElem Ab] at eL;cases eL;rw [List.getElem_cons_drop];exact(List.take_append_drop i hs).symm
   have T4:(hs.take i).length=i:=by rw [List.length_take];omega
   have vq:∀ (t:Nat) (τ:I),look E t=some τ→ ∀ (m:Nat) (x:eQ),hs[m]? =some x→bp.getD (0+m) false=true→x.slot≠some t:=fun t τ al m x ao HA eS=>by
    rw [Nat.zero_add] at HA;have L8:i≠m:=fun e=>by subst e;rw [nW] at HA;cases HA
    obtain⟨_,EF,_,El⟩:=oM m (by have:=(List.getElem?_eq_some_iff.1 ao).1;omega);have:=Hy bp inv m m (Nat.le_refl _) x EF ao El (fun e he hb=>inv.closed m EF El HA e he hb) i (acU t τ al m x ao eS i fc L8);rw [nW] at this;cases this
   have SH:=(rF.get cu i h o eL (by rw [List.getElem?_take,if_pos fc,Array.getElem?_toList];exact bk))
   rw [Nat.zero_add] at SH
   have L9:=SH hd (kb (fun i=>bp.getD i false) hd E 0 hs) (jo (fun i=>bp.getD i false) hd 0 hs L) (fun t τ al=>?_) (fun j e aF aR=>?_) (Jy hw)
   ·have hw:=Ft (K:=fun a W=> ∃ x,bM c (td h.slot (h.τ (hT h.up i (mV hd i x))) (kb (fun i=>bp.getD i false) hd E 0 hs)) (nY (jo (fun i=>bp.getD i false) hd 0 hs L) (h.fC (hT h.up i (mV hd i x))) h.wr) a W) bk (L9 a W st)
    refine wpOpIn_mono (fun gX W' ⟨x,pz⟩=>?_) hw
    have T5:∀ j,j≠i→mV hd i x j=hd j:=fun j aF=>by
     have:Nat.beq j i=false:=by
      cases hb:Nat.beq j i
      ·rfl
      exact absurd (eH.1 hb) aF
     simp only [mV,this,cond_false]
    have Ma:∀ (j:Nat) (y:eQ),hs[j]? =some y→bp.getD j false=true→hT y.up j (mV hd i x)=hT y.up j hd:=fun j y a7 aF=>by
     obtain⟨_,oV,_,lZ⟩:=oM j (by have:=(List.getElem?_eq_some_iff.1 a7).1;omega);refine Yc (T5 j fun e=>by subst e;rw [nW] at aF;cases aF) fun k hk=>T5 k fun e=>?_;have:=Hy bp inv j j (Nat.le_refl _) y oV a7 lZ (fun e he hb=>inv.closed j oV lZ aF e he hb) k hk;subst e;rw [nW] at this;cases this
    have HB:(bp.setIfInBounds i true).getD i false=true:=by simp [u3]
    have hy:∀ j,j≠i→ (bp.setIfInBounds i true).getD j false=bp.getD j false:=fun j aF=>getD_set_ne false (fun e=>aF e.symm)
    refine b7 _ (mV hd i x) gX W' tc xg ?_
    have aff:jo (fun j=>(bp.setIfInBounds i true).getD j false) (mV hd i x) 0 hs L=nY (jo (fun i=>bp.getD i false) hd 0 hs L) (h.fC (hT h.up i (mV hd i x))) h.wr:=by
     apply List.ext_getElem?;intro j;rw [Gl,Jd,Gl];by_cases aF:h.wr.contains j=true
     ·rw [if_pos aF];have aw:∀ (ls:Nat→Bool) (g:Nat→Hid) (v:Option aN),(∀ k x,hs[k]? =some x→i<k→x.wr.contains j=true→ls k=false)→mj ls g j 0 hs v=(bif ls i then(mj ls g j 0 (hs.take i) v).map (fun _=>h.fC (hT h.up i g) j) else mj ls g j 0 (hs.take i) v):=fun ls g v LQ=>by
       conv=>lhs;rw [Q4]
       rw [IM,T4,Nat.zero_add,mj,aF,Bool.and_true,I2];intro k x ao hw;rw [List.getElem?_drop] at ao;exact LQ (i+1+k) x ao (by omega) hw
      have fU:∀ k x,hs[k]? =some x→i<k→x.wr.contains j=true→bp.getD k false=false:=fun k x ao qW hw=>Q3 k x ao qW ⟨j,by simpa using hw,.inr aF⟩;rw [aw (fun j=>(bp.setIfInBounds i true).getD j false) (mV hd i x) _ (fun k x ao qW hw=>by rw [hy k (by omega)];exact fU k x ao qW hw),aw (fun j=>bp.getD j false) hd _ fU];simp only [HB,nW,cond_true,cond_false];rw [FE (ls':=fun j=>bp.getD j false) (hd':=hd) fun q x ao _=>by
       have hq:q<i:=by have:=(List.getElem?_eq_some_iff.1 ao).1;omega
       rw [List.getElem?_take,if_pos hq] at ao;rw [Nat.zero_add];exact⟨hy q (by omega),fun al=>Ma q x ao (by rw [hy q (by omega)] at al;exact al)⟩]
     rw [if_neg aF];refine FE fun q x ao hw=>?_;rw [Nat.zero_add];have hq:q≠i:=fun e=>by subst e;rw [eL] at ao;cases ao;exact aF hw
     exact⟨hy q hq,fun al=>Ma q x ao (by rw [hy q hq] at al;exact al)⟩
    rw [aff]
    refine pz.less fun t τ al=>?_
    rcases O0 al with⟨j,y,h1,ad,aD,aZ⟩ | ⟨h1,fU⟩
    ·rw [Nat.zero_add] at ad aZ
     by_cases hZ:j=i
     ·subst hZ
      rw [eL] at h1
      cases h1
      exact⟨τ,by rw [aD,aZ];simp [td,look,Nat.beq_refl],fun _ _ _ h=>h⟩
     rw [hy j hZ] at ad
     rw [Ma j y h1 ad] at aZ
     have bc:=Je (ls:=fun i=>bp.getD i false) (hd:=hd) (E:=E) (k:=0) h1 (by rw [Nat.zero_add];exact ad) aD fun q z hq dS=>KJ q j t z y hq h1 dS aD
     rw [Nat.zero_add,← aZ] at bc
     refine⟨τ,?_,fun _ _ _ h=>h⟩
     cases tp:h.slot with
     | none=>exact bc
     | some s=>
       have da:Nat.beq s t=false:=by
        cases hb:Nat.beq s t
        ·rfl
        have:=eH.1 hb;subst this;exact absurd (KJ j i s y h h1 eL aD tp) hZ
       simp only [td,look,da,cond_false]
       exact bc
    have hb:=vq t τ h1
    have bc:=I3 (ls:=fun i=>bp.getD i false) (hd:=hd) (E:=E) (k:=0) hb
    refine⟨τ,?_,fun _ _ _ h=>h⟩
    cases tp:h.slot with
    | none=>simp only [td];rw [bc];exact h1
    | some s=>
      have da:Nat.beq s t=false:=by
       cases mQ:Nat.beq s t
       ·rfl
       have:=eH.1 mQ;subst this;exact absurd tp (fU i h eL (by rw [Nat.zero_add];exact HB))
      simp only [td,look,da,cond_false]
      rw [bc];exact h1
   ·rcases PO al with⟨j,aF,y,h1,ad,aD⟩ | h1
    ·have bc:=Je (ls:=fun i=>bp.getD i false) (hd:=hd) (E:=E) (k:=0) h1 (by rw [Nat.zero_add];exact G4 j aF) ad fun q z hq dS=>KJ q j t z y hq h1 dS ad
     rw [Nat.zero_add,← aD] at bc
     exact bc
    rw [I3 (vq t τ h1)];exact h1
   rw [Gl] at aF ⊢
   rw [← aF]
   conv=>lhs;rw [Q4]
   rw [IM,I2]
   ·refine FE fun q x ao hw=>?_
    rw [Nat.zero_add]
    have hq:q<i:=by have:=(List.getElem?_eq_some_iff.1 ao).1;omega
    rw [List.getElem?_take,if_pos hq] at ao
    exact⟨G4 q ((DB q x ao).1 hq ⟨j,by simpa using hw,aR⟩),fun _=>rfl⟩
   intro q x ao hw
   rw [T4,Nat.zero_add]
   cases q with
   | zero=>exact nW
   | succ q=>
     simp only [List.getElem?_cons_succ] at ao
     rw [List.getElem?_drop] at ao
     exact Q3 (i+(q+1)) x (by rw [← ao];congr 1;omega) (by omega) ⟨j,by simpa using hw,.inl aR⟩
theorem ag.J6 {n5:Nat}{l:List Oper}(n:Nat){np:Nat}(hm:c.P.follows .mixedOrders=true)(hs:List eQ)(ds:List (Option Nat×List Nat×List Nat×List Nat))(es:List Nat)(gT:nw hs=ds)(q7:E.map (·.1)=es)(ib:Gv.w4 l.toArray n ds es=true)(vf:∀ h∈hs,∀ j∈h.wr,j<np∨L.length≤j)
 (cu:rF c l.toArray Q hs E L np 0 (l.take n) hs) (bP:∀ hd,ae c l.toArray Q (l.drop n) (kb (fun _=>true) hd E 0 hs) (jo (fun _=>true) hd 0 hs L)):ag c Q (.region n5 l.toArray true) E L:=fun a W s=>by
 subst gT q7
 refine wpIn_region_any hm ?_
 have aO:n≤l.toArray.size:=by
  simp only [Gv.w4,Bool.and_eq_true,decide_eq_true_eq] at ib;exact ib.1.1.1.1.1.2
 have K9:HeadInv .any l.toArray n (Array.replicate l.toArray.size false):=
  {size:=by simp
   closed:=fun j oV _ al=>by rw [getD_replicate_false] at al;cases al
   tail:=fun t _ bP=>by simp at bP;simp [bP] }
 have h:=Xt vf (ops:=l.toArray) (Q:=Q) ib (by simpa using cu) (by simpa using bP) n (Array.replicate l.toArray.size false) (fun _ _=>none) a W.drew (Nat.le_trans (List.length_filter_le _ _) (by simp)) K9 ?_
 ·rw [show n+(l.toArray.size - n)=l.toArray.size by omega] at h
  exact h
 have h1:∀ (hs:List eQ) (k:Nat),kb (fun i=>(Array.replicate l.toArray.size false).getD i false) (fun _ _=>none) E k hs=E:=by
  intro hs;induction hs with
  | nil=>intro k;rfl
  | cons h r b7=>
    intro k
    have ad:=b7 (k+1)
    simp only [getD_replicate_false] at ad
    unfold kb
    simp only [getD_replicate_false]
    exact ad
 have ad:∀ (hs:List eQ) (k:Nat) (L:List aN),jo (fun i=>(Array.replicate l.toArray.size false).getD i false) (fun _ _=>none) k hs L=L:=by
  intro hs;induction hs with
  | nil=>intro k L;rfl
  | cons h r b7=>intro k L;rw [jo,b7];simp only [getD_replicate_false,cond_false]
 rw [h1,ad]
 exact s.world (Fr.drew W)
theorem ag.ahe {n5:Nat}{l:List Oper}{ds:List (Option Nat×List Nat×List Nat×List Nat)}(n np:Nat)(hm:c.P.follows .mixedOrders=true)(hs:List eQ)(es:List Nat)
 (cu:rF c l.toArray Q hs E L np 0 (l.take n) hs) (bP:∀ hd,ae c l.toArray Q (l.drop n) (kb (fun _=>true) hd E 0 hs) (jo (fun _=>true) hd 0 hs L))
 (gT:nw hs=ds:=by rfl) (q7:E.map (·.1)=es:=by rfl) (ib:Gv.w4 l.toArray n ds es=true:=by kernel_rfl) (hw:(ds.all fun d=>d.2.2.2.all fun j=>Nat.blt j np)=true:=by kernel_rfl):ag c Q (.region n5 l.toArray true) E L:=
 ag.J6 n hm hs ds es gT q7 ib (SB gT hw) cu bP
theorem ag.oS {n5:Nat}{l:List Oper}{ds:List (Option Nat×List Nat×List Nat×List Nat)}(np:Nat)(hm:c.P.follows .mixedOrders=true)(hs:List eQ)(es:List Nat)
 (cu:rF c l.toArray Q hs E L np 0 l hs) (bP:∀ hd,aa c Q .normal (kb (fun _=>true) hd E 0 hs) (jo (fun _=>true) hd 0 hs L))
 (gT:nw hs=ds:=by rfl) (q7:E.map (·.1)=es:=by rfl) (ib:Gv.w4 l.toArray l.length ds es=true:=by kernel_rfl) (hw:(ds.all fun d=>d.2.2.2.all fun j=>Nat.blt j np)=true:=by kernel_rfl):ag c Q (.region n5 l.toArray true) E L:=
 ag.J6 l.length hm hs ds es gT q7 ib (SB gT hw) (by rw [List.take_length];exact cu) (fun hd=>by rw [List.drop_length];exact ae.nil (bP hd))
theorem ag.nC {n5:Nat}{l:List Oper}{ds:List (Option Nat×List Nat×List Nat×List Nat)}(hm:c.P.follows .mixedOrders=true)(hs:List eQ)(es:List Nat)
 (cu:Cx c l.toArray Q hs E L 0 l hs) (bP:∀ hd,aa c Q .normal (kb (fun _=>true) hd E 0 hs) (jo (fun _=>true) hd 0 hs L))
 (gT:nw hs=ds:=by rfl) (q7:E.map (·.1)=es:=by rfl) (ib:Gv.w4 l.toArray l.length ds es=true:=by kernel_rfl):ag c Q (.region n5 l.toArray true) E L:=
 ag.J6 (np:=L.length) l.length hm hs ds es gT q7 ib (fun _ _ j _=>by omega) (by rw [List.take_length];exact cu.TX) (fun hd=>by rw [List.drop_length];exact ae.nil (bP hd))
def rg:Nat→Nat→List (Option Nat)
 | _,0=>[]
 | a,n+1=>some a::rg (a+1) n
def fq:List I→List fj
 | []=>[]
 | τ::r=>.val τ::fq r
theorem ag.eF {n5:Nat}{l:List Oper}(hm:c.P.follows .mixedOrders=true)(n:Nat)(er:List (Option Nat))(pk:List (List Nat))(hs:List fj)(cu:∀ bC,qF c l.toArray bC er hs E L 0 l hs pk)
 (bP:∀ bC:Nat→Nat,ae c l.toArray Q (l.drop n) (tb bC E 0 er hs) (mg bC hs (ez L hs) 0 hs)) (ib:CZ l.toArray n er pk (hs.map fj.nj) c.n=true:=by kernel_rfl) (aB:zG E (er.filterMap id)=true:=by rfl)
 (hlen:Nat.beq hs.length n=true:=by rfl):ag c Q (.region n5 l.toArray true) E L:=ag.draw hm n er pk hs (hs.map fj.nj) ib rfl aB hlen cu bP
theorem bB.tail {l:List Oper}{f:Nat}{bp:Array Bool}(n:Nat)(bb:(l.drop n).length=f)(hs:Region.seqB .any l.toArray f n bp=true)(h:ae c l.toArray Q (l.drop n) E L):bB c l.toArray Q f bp E L:=fun a W s=>by
 subst bb;exact Bu (l.drop n) n bp a W (fun j=>by simp) hs (h a W s)
theorem aA.cL {α β:Type}{o:Option α}{k:α→aA β}{R:β→Prop}{P:Prop}(h:aA.bind (aA.of o) k R)(g:∀ y,o=some y→k y R→P):P:=(aA.ZO h).elim fun y h=>g y h.1 h.2
theorem aA.ex {α β:Type}{m:aA α}{k:α→aA β}{R:β→Prop}(h:aA.bind m k R):∃ K:α→Prop,m K∧ ∀ r,K r→k r R:=⟨_,h,fun _ h=>h⟩
end
theorem bZ.law {P:Program}{f:FuncId}{τs:List I}{cb:Type}[fl cb]{R:Bool×aY cb→Prop}{Lo: {r:Bool×aY cb // R r}×Unit→List aN}(h:bZ P f τs ([]++aT ([]:aY cb)) (fun d: {r:Bool×aY cb // R r}×Unit=>I.of d.1.1.1) Lo)(jZ:∀ r,R r→r.1=true):bK P f τs (I.of true):=by
 intro A W vs gk a6;refine(h A W vs (fun k hk=>⟨gk k hk,by simp [aT,aS]⟩) (by simp [aT,aS]) (fun k hk=>by simp [aT,aS] at hk) (fun e he=>by simp [aT] at he) (by simpa [aT,aS] using a6)).mono ?_;intro e W' ⟨v,d,h1,ad,_,_,_,aD⟩;refine⟨v,h1,by simpa [aT,aS] using ad,?_⟩;have aZ:=jZ d.1.1 d.1.2;rw [of_bool] at aD ⊢;rw [aD,aZ]
section
variable {c:dt} {E:List (Nat×I)} {L:List aN} {ops:Array Oper} {Q:Exit→Act→World→Prop}
theorem Y2 {n:Nat}(aO:n≤ops.size)(T6:∀ i o,i<n→ops[i]? =some o→ ∀ e∈o.after,Region.binds .any e=true→e.on<i)
 (wY:n=ops.size∨ (Region.sinkB .any ops n=true∧Region.chainB .any ops n=true))
 (qJ:Region.seqB .any ops (ops.size - n) n ((List.range n).foldl (fun l i=>l.setIfInBounds i true) (Array.replicate ops.size false))=true)
 (S:Array Bool→Act→World→Prop)
 (sX:∀ (bp:Array Bool) (i:Nat) (o:Oper) (a:Act) (W:World),HeadInv .any ops n bp→i<n→ops[i]? =some o→bp.getD i false=false→ (∀ e∈o.after,Region.binds .any e=true→bp.getD e.on false=true)→S bp a W→
  wpOpIn c.F 9 c.P ops Q i (fun gX W'=>S (bp.setIfInBounds i true) gX W') a W)
 (ns:∀ (bp:Array Bool) (a:Act) (W:World),(∀ i,i<n→bp.getD i false=true)→S bp a W→c.qb ops Q (ops.toList.drop n) a W):
 ∀ m (bp:Array Bool) (a:Act) (W:World),((List.range n).filter fun i=> !bp.getD i true).length≤m→HeadInv .any ops n bp→S bp a W→wpAnyIn c.F 9 c.P .any ops Q (m+(ops.size - n)) bp a W:=by
 have oM:∀ i,i<n→ ∃ o,ops[i]? =some o:=fun i ar=>⟨ops[i],by simp⟩
 have ph:∀ (bp:Array Bool) (a:Act) (W:World),(∀ i,i<n→bp.getD i true=true)→HeadInv .any ops n bp→S bp a W→wpAnyIn c.F 9 c.P .any ops Q (ops.size - n) bp a W:=by
  intro bp a W uQ inv st;have al:=IS inv aO uQ;have tp:=qJ;rw [← al] at tp;have wZ:(ops.toList.drop n).length=ops.size - n:=by simp
  rw [← wZ] at tp ⊢;exact Bu (ops.toList.drop n) n bp a W (fun j=>by simp) tp (ns bp a W (fun i ar=>by
   have h1:=uQ i ar;have ad:i<bp.size:=by rw [inv.size];omega
   simpa [ad] using h1) st)
 have more:∀ f (bp:Array Bool) a W,wpAnyIn c.F 9 c.P .any ops Q f bp a W→wpAnyIn c.F 9 c.P .any ops Q (f+1) bp a W:=by
  intro f;induction f with
  | zero=>intro bp a W h;exact⟨fun _=>h.2,fun i ar=>by rw [h.1] at ar;cases ar⟩
  | succ f DV=>intro bp a W h;exact⟨h.1,fun i ar=>wpOpIn_mono (fun gX nD df=>DV _ gX nD df) (h.2 i ar)⟩
 intro m
 induction m with
 | zero=>
   intro bp a W hm inv st
   rw [Nat.zero_add]
   refine ph bp a W (fun i ar=>?_) inv st
   cases h:bp.getD i true with
   | true=>rfl
   | false=>
     have:i∈ (List.range n).filter fun i=> !bp.getD i true:=List.mem_filter.2 ⟨List.mem_range.2 ar,by rw [h];rfl⟩
     rw [List.length_eq_zero_iff.1 (Nat.le_zero.1 hm)] at this
     cases this
 | succ m b7=>
   intro bp a W hm inv st
   rw [show m+1+(ops.size - n)=(m+(ops.size - n))+1 by omega]
   by_cases C3:∀ i,i<n→bp.getD i true=true
   ·have h1:=ph bp a W C3 inv st
    have key:∀ k,wpAnyIn c.F 9 c.P .any ops Q (k+(ops.size - n)) bp a W:=by
     intro k;induction k with
     | zero=>rw [Nat.zero_add];exact h1
     | succ k DW=>rw [show k+1+(ops.size - n)=(k+(ops.size - n))+1 by omega];exact more _ _ _ _ DW
    exact more _ _ _ _ (key m)
   have hex:∃ i,i<n∧bp.getD i true=false:=by
    false_or_by_contra;rename_i ad;exact C3 fun i ar=>by
     cases h:bp.getD i true with
     | true=>rfl
     | false=>exact absurd ⟨i,ar,h⟩ ad
   have Cv:∀ t∈Region.ready .any ops bp,t<n:=by
    intro t qY;rcases Nat.lt_or_ge t n with h | h
    ·exact h
    obtain⟨i,ar,jR⟩:=hex;have afe:t<ops.size:=by
     obtain⟨_,o,bk,_⟩:=mem_ready.1 qY;exact(Array.getElem?_eq_some_iff.1 bk).1
    rcases wY with h1 | h1
    ·omega
    exact absurd qY (tail_waits h1.1 h1.2 (by omega) inv _ i rfl ar jR t h)
   refine⟨fun bR=>?_,fun i ar=>?_⟩
   ·exfalso
    have key:∀ d i,i≤d→i<n→bp.getD i true=true:=by
     intro d;induction d with
     | zero=>
       intro i DX ar
       cases al:bp.getD i true with
       | true=>rfl
       | false=>
         obtain⟨o,bk⟩:=oM i ar
         have:i∈Region.ready .any ops bp:=mem_ready.2 ⟨al,o,bk,fun e he hb=>by have:=T6 i o ar bk e he hb;omega⟩
         rw [bR] at this;cases this
     | succ d L7=>
       intro i DX ar
       cases al:bp.getD i true with
       | true=>rfl
       | false=>
         obtain⟨o,bk⟩:=oM i ar
         have:i∈Region.ready .any ops bp:=mem_ready.2 ⟨al,o,bk,fun e he hb=>by
          have h1:=T6 i o ar bk e he hb;have ad:=L7 e.on (by omega) (by omega);have aD:e.on<bp.size:=by rw [inv.size];omega
          simpa [aD] using ad⟩
         rw [bR] at this;cases this
    obtain⟨i,ar,jR⟩:=hex
    have:=key i i (Nat.le_refl _) ar
    rw [jR] at this;cases this
   have fc:i<n:=Cv i ar
   obtain⟨jR,o,bk,pS⟩:=mem_ready.1 ar
   have u3:i<bp.size:=by rw [inv.size];omega
   have tc:((List.range n).filter fun j=> !(bp.setIfInBounds i true).getD j true).length≤m:=by
    have:((List.range n).filter fun j=> !(bp.setIfInBounds i true).getD j true).length<((List.range n).filter fun j=> !bp.getD j true).length:=by
     refine J2 (fun j=> !bp.getD j true) (fun j=> !(bp.setIfInBounds i true).getD j true) i (by simp only [jR];rfl) ?_ (fun j aF=>?_) n fc
     ·simp [u3]
     by_cases e:i=j
     ·subst e;simp only [jR];rfl
     rw [getD_set_ne true e] at aF;exact aF
    omega
   exact wpOpIn_mono (fun gX W' pz=>b7 _ gX W' tc (inv.set ar fc) pz) (sX bp i o a W inv fc bk (getD_both jR) pS st)
def iI (ls:Nat→Bool)(E:List (Nat×I)):Nat→List (Option (Nat×I))→List (Nat×I)
 | _,[]=>E
 | k,none::r=>iI ls E (k+1) r
 | k,some x::r=>bif ls k then x::iI ls E (k+1) r else iI ls E (k+1) r
def pG (fs:List (Option (Nat×I)))(E:List (Nat×I)):List Nat→List (Nat×I)
 | []=>E
 | i::r=>match fs[i]? with
   | some (some x)=>x::pG fs E r
   | _=>pG fs E r
def jN (fs:List (Option (Nat×I))):List Nat:=fs.filterMap fun x=>x.map (·.1)
theorem J7 {ls:Nat→Bool}{E:List (Nat×I)}{t:Nat}{τ:I} :∀ {fs:List (Option (Nat×I))} {k:Nat},look (iI ls E k fs) t=some τ→ (∃ j,ls (k+j)=true∧fs[j]? =some (some (t,τ)))∨look E t=some τ
 | [],k,h=>.inr h
 | none::r,k,h=>by
   rcases J7 (fs:=r) (k:=k+1) h with⟨j,h1,ad⟩ | h1
   ·exact .inl ⟨j+1,by rw [← h1];congr 1;omega,by simpa using ad⟩
   exact .inr h1
 | some x::r,k,h=>by
   have aR:look (iI ls E (k+1) r) t=some τ→ (∃ j,ls (k+j)=true∧ (some x::r)[j]? =some (some (t,τ)))∨look E t=some τ:=fun h=>by
    rcases J7 (fs:=r) (k:=k+1) h with⟨j,h1,ad⟩ | h1
    ·exact .inl ⟨j+1,by rw [← h1];congr 1;omega,by simpa using ad⟩
    exact .inr h1
   unfold iI at h;cases hk:ls k with
   | false=>rw [hk] at h;exact aR h
   | true=>
     rw [hk] at h
     simp only [cond_true,look] at h
     cases hb:Nat.beq x.1 t with
     | true=>
       rw [hb] at h
       have h1:x.2=τ:=by simpa using h
       have ad:=eH.1 hb
       exact .inl ⟨0,hk,by rw [← h1,← ad];rfl⟩
     | false=>rw [hb] at h;exact aR h
theorem yW {ls:Nat→Bool}{E:List (Nat×I)}{t:Nat} :∀ {fs:List (Option (Nat×I))} {k:Nat},t ∉ jN fs→look (iI ls E k fs) t=look E t
 | [],k,h=>rfl
 | none::r,k,h=>yW (fs:=r) (k:=k+1) h
 | some x::r,k,h=>by
   have h1:t≠x.1∧t ∉ jN r:=by simpa [jN] using h
   unfold iI;cases hk:ls k with
   | false=>exact yW h1.2
   | true=>
     have hb:Nat.beq x.1 t=false:=by
      cases hb:Nat.beq x.1 t with
      | false=>rfl
      | true=>exact absurd (eH.1 hb).symm h1.1
     simp only [cond_true,look,hb,cond_false]
     exact yW h1.2
theorem FM {fs:List (Option (Nat×I))}{j:Nat}{x:Nat×I}(h:fs[j]? =some (some x)):x.1∈jN fs:=
 List.mem_filterMap.2 ⟨_,List.mem_of_getElem? h,rfl⟩
theorem Gm {ls:Nat→Bool}{E:List (Nat×I)} :∀ {fs:List (Option (Nat×I))} {k j:Nat} {x:Nat×I},(jN fs).Nodup→fs[j]? =some (some x)→ls (k+j)=true→look (iI ls E k fs) x.1=some x.2
 | [],k,j,x,_,h,_=>by simp at h
 | none::r,k,j,x,aO,h,al=>by
   cases j with
   | zero=>simp at h
   | succ j=>exact Gm (fs:=r) (k:=k+1) (j:=j) aO (by simpa using h) (by rw [← al];congr 1;omega)
 | some y::r,k,j,x,aO,h,al=>by
   have px:y.1 ∉ jN r∧ (jN r).Nodup:=by simpa [jN] using aO
   cases j with
   | zero=>
     have:y=x:=by simpa using h
     subst this
     have al:ls k=true:=al
     unfold iI
     simp only [al,cond_true,look,Nat.beq_refl]
   | succ j=>
     have df:r[j]? =some (some x):=by simpa using h
     have ar:=Gm (fs:=r) (k:=k+1) (E:=E) (ls:=ls) px.2 df (by rw [← al];congr 1;omega)
     unfold iI
     cases hk:ls k with
     | false=>exact ar
     | true=>
       have hb:Nat.beq y.1 x.1=false:=by
        cases hb:Nat.beq y.1 x.1 with
        | false=>rfl
        | true=>exact absurd (by rw [eH.1 hb];exact FM df) px.1
       simp only [cond_true,look,hb,cond_false]
       exact ar
theorem Q5 {fs:List (Option (Nat×I))}{E:List (Nat×I)}{t:Nat}{τ:I} :∀ {us:List Nat},look (pG fs E us) t=some τ→ (∃ j∈us,fs[j]? =some (some (t,τ)))∨look E t=some τ
 | [],h=>.inr h
 | i::r,h=>by
   have aR:look (pG fs E r) t=some τ→ (∃ j∈i::r,fs[j]? =some (some (t,τ)))∨look E t=some τ:=fun h=>by
    rcases Q5 h with⟨j,h1,ad⟩ | h1
    ·exact .inl ⟨j,List.mem_cons_of_mem _ h1,ad⟩
    exact .inr h1
   unfold pG at h;split at h
   ·rename_i x ao;simp only [look] at h;cases hb:Nat.beq x.1 t with
    | true=>
      rw [hb] at h
      have h1:x.2=τ:=by simpa using h
      have ad:=eH.1 hb
      exact .inl ⟨i,by simp,by rw [ao,← h1,← ad]⟩
    | false=>rw [hb] at h;exact aR h
   exact aR h
theorem acV {fs:List (Option (Nat×I))}{E:List (Nat×I)}{ls:Nat→Bool}{us:List Nat}(aO:(jN fs).Nodup)(aB:∀ t∈jN fs,look E t=none)(hu:∀ j∈us,ls j=true){t:Nat}{τ:I}(h:look (pG fs E us) t=some τ):look (iI ls E 0 fs) t=some τ:=by
 rcases Q5 h with⟨j,h1,ad⟩ | h1
 ·exact Gm aO ad (by rw [Nat.zero_add];exact hu j h1)
 rw [yW fun ad=>by rw [aB t ad] at h1;cases h1];exact h1
theorem O7:∀ {E:List (Nat×I)} {t:Nat},(E.map (·.1)).contains t=false→look E t=none
 | [],t,_=>rfl
 | (s,σ)::r,t,h=>by
   have h1: ¬ t=s∧ (r.map (·.1)).contains t=false:=by simpa using h
   have hb:Nat.beq s t=false:=by
    cases hb:Nat.beq s t with
    | false=>rfl
    | true=>exact absurd (eH.1 hb).symm h1.1
   simp only [look,hb,cond_false];exact O7 h1.2
def Q6 (ops:Array Oper)(n w nF Ai:Nat)(hI:List (Option Nat))(qe:List (List Nat))(E:List Nat):Bool:=
 decide (hI.length=n)&&decide (n≤ops.size)&&decide (w<n)&&decide (nF::hI.filterMap id).Nodup&&((nF::hI.filterMap id).all fun s=> !E.contains s&&Nat.blt s Ai)&&
 ((List.range n).all fun i=>((ops[i]?).map fun o=>(o.dst==if i=w then some nF else(hI[i]?).getD none)&&o.guard.isNone&&(decide (i=w)||((hI[i]?).getD none).isSome)&&o.after.all fun e=> !Region.binds .any e||decide (e.on<i)).getD false&&
   ((qe[i]?).getD []).all fun k=>decide (k≠w)&&Region.waitsFor .any ops i k)&&
 decide ((hI[w]?).getD none=none)&&
 (decide (n=ops.size)||(Region.sinkB .any ops n&&Region.chainB .any ops n))&&
 Region.seqB .any ops (ops.size - n) n ((List.range n).foldl (fun l i=>l.setIfInBounds i true) (Array.replicate ops.size false))
def sP (c:dt)(E:List (Nat×I))(L:List aN){γ:Type}(K:γ→Prop)(hJ:γ→List aN)(fs:List (Option (Nat×I))):List Oper→List (Option (Nat×I))→List (List Nat)→Prop
 | o::os,some x::r,u::us=>(cf c (pG fs E u) L o x.2∧ ∀ y,K y→cf c (pG fs E u) (hJ y) o x.2)∧sP c E L K hJ fs os r us
 | _::os,none::r,_::us=>sP c E L K hJ fs os r us
 | _,_,_=>True
theorem sP.get {γ:Type}{K:γ→Prop}{hJ:γ→List aN}{fs:List (Option (Nat×I))} :∀ {os:List Oper} {rs:List (Option (Nat×I))} {us:List (List Nat)},sP c E L K hJ fs os rs us→ ∀ {i:Nat} {o:Oper} {x:Nat×I} {u:List Nat},os[i]? =some o→rs[i]? =some (some x)→us[i]? =some u→
 cf c (pG fs E u) L o x.2∧ ∀ y,K y→cf c (pG fs E u) (hJ y) o x.2
 | o::os,some x::r,u::us,h,0,o',HX,HY,h1,ad,aD=>by
   have aw:o=o':=by simpa using h1
   have aX:x=HX:=by simpa using ad
   have dc:u=HY:=by simpa using aD
   subst aw aX dc;exact h.1
 | o::os,some x::r,u::us,h,i+1,o',HX,HY,h1,ad,aD=>sP.get h.2 (i:=i) (by simpa using h1) (by simpa using ad) (by simpa using aD)
 | o::os,none::r,u::us,h,0,o',HX,HY,h1,ad,aD=>by simp at ad
 | o::os,none::r,u::us,h,i+1,o',HX,HY,h1,ad,aD=>by
   have h:sP c E L K hJ fs os r us:=h;exact sP.get h (i:=i) (by simpa using h1) (by simpa using ad) (by simpa using aD)
 | [],_,_,_,i,_,_,_,h1,_,_=>by simp at h1
 | _::_,[],_,_,i,_,_,_,_,ad,_=>by simp at ad
 | _::_,_::_,[],_,i,_,_,_,_,_,aD=>by simp at aD
theorem Qo {n5:Nat}{l:List Oper}(hm:c.P.follows .mixedOrders=true)(n w nF Ai:Nat){γ:Type}{K:γ→Prop}(fs:List (Option (Nat×I)))(hI:List (Option Nat))(qe:List (List Nat))(es:List Nat)(HC:γ→I)(hJ:γ→List aN)
 {M0:Oper} {M1:List Nat} (agt:l[w]? =some M0) (agu:qe[w]? =some M1) (Mb:c.n=Ai) (agv:(fs.map fun x=>x.map (·.1))=hI) (ahZ:qe.length=n) (q7:E.map (·.1)=es) (ib:Q6 l.toArray n w nF Ai hI qe es=true)
 (cu:sP c E L K hJ fs (l.take n) fs qe)
 (hw:∀ (tG:Exit→Act→World→Prop) (E':List (Nat×I)),(∀ {t τ},look (pG fs E M1) t=some τ→look E' t=some τ)→ (∀ y,K y→aa c tG .normal ((nF,HC y)::E') (hJ y))→ae c l.toArray tG [M0] E' L)
 (bP:∀ y,K y→ae c l.toArray Q (l.drop n) ((nF,HC y)::iI (fun _=>true) E 0 fs) (hJ y)):ag c Q (.region n5 l.toArray true) E L:=fun a W s=>by
 subst Mb agv q7
 refine wpIn_region_any hm ?_
 simp only [Q6,Bool.and_eq_true,decide_eq_true_eq,Bool.or_eq_true] at ib
 obtain⟨⟨⟨⟨⟨⟨⟨⟨hlen,aO⟩,agw⟩,h7⟩,T7⟩,k2⟩,Mc⟩,wY⟩,qJ⟩:=ib
 have hlen:fs.length=n:=by simpa using hlen
 have agx:(fs.map fun x=>x.map (·.1)).filterMap id=jN fs:=by
  unfold jN;rw [List.filterMap_map];rfl
 rw [agx] at h7 T7
 obtain⟨T8,h7⟩:=List.nodup_cons.1 h7
 have agy:∀ t,(E.map (·.1)).contains t=false→look E t=none:=fun t h=>O7 h
 have aB:∀ t∈nF::jN fs,look E t=none∧Nat.blt t c.n=true:=fun t bP=>by
  have:=List.all_eq_true.1 T7 t bP;simp only [Bool.and_eq_true,Bool.not_eq_true'] at this;exact⟨agy t this.1,this.2⟩
 have Md:∀ t∈jN fs,look E t=none:=fun t bP=>(aB t (List.mem_cons_of_mem _ bP)).1
 have tq:∀ i o,i<n→l.toArray[i]? =some o→ (o.dst=if i=w then some nF else((fs[i]?).getD none).map (·.1))∧o.guard=none∧ (i=w∨ ∃ x,fs[i]? =some (some x))∧ (∀ e∈o.after,Region.binds .any e=true→e.on<i)∧ ∀ k∈ (qe[i]?).getD [],k≠w∧Region.waitsFor .any l.toArray i k=true:=fun i o ar bk=>by
  have h1:=List.all_eq_true.1 k2 i (List.mem_range.2 ar);simp only [Bool.and_eq_true] at h1;obtain⟨ad,aD⟩:=h1;simp only [bk,Option.map_some,Option.getD_some,Bool.and_eq_true,beq_iff_eq] at ad;obtain⟨⟨⟨aZ,bc⟩,bu⟩,dh⟩:=ad;have agz:((fs.map fun x=>x.map (·.1))[i]?).getD none=((fs[i]?).getD none).map (·.1):=by
   rw [List.getElem?_map];cases fs[i]? with
   | none=>rfl
   | some x=>rfl
  rw [agz] at aZ bu;refine⟨aZ,by simpa using bc,?_,fun e he hb=>?_,fun k hk=>?_⟩
  ·simp only [Bool.or_eq_true,decide_eq_true_eq] at bu;rcases bu with bu | bu
   ·exact .inl bu
   right;cases ao:fs[i]? with
   | none=>rw [ao] at bu;cases bu
   | some x=>
     cases x with
     | none=>rw [ao] at bu;cases bu
     | some x=>exact⟨x,rfl⟩
  ·have:=Array.all_eq_true_iff_forall_mem.1 dh e he;simp [hb] at this;exact this
  have:=List.all_eq_true.1 aD k hk;simpa using this
 have afg:fs[w]? =some none:=by
  have h1:((fs.map fun x=>x.map (·.1))[w]?).getD none=none:=Mc;rw [List.getElem?_map] at h1;cases ao:fs[w]? with
  | none=>have:=List.getElem?_eq_none_iff.1 ao;omega
  | some x=>
    cases x with
    | none=>rfl
    | some x=>rw [ao] at h1;cases h1
 let S:Array Bool→Act→World→Prop:=fun bp a W=>(bp.getD w false=false→bM c (iI (fun i=>bp.getD i false) E 0 fs) L a W)∧ (bp.getD w false=true→ ∃ y,K y∧bM c ((nF,HC y)::iI (fun i=>bp.getD i false) E 0 fs) (hJ y) a W)
 have h:=Y2 (c:=c) (ops:=l.toArray) (Q:=Q) aO (fun i o ar bk=>(tq i o ar bk).2.2.2.1) wY qJ S ?_ ?_ n (Array.replicate l.toArray.size false) a W.drew (Nat.le_trans (List.length_filter_le _ _) (by simp)) ?_ ?_
 ·rw [show n+(l.toArray.size - n)=l.toArray.size by omega] at h
  exact h
 ·
  intro bp i o a W inv ar bk jR pS xV
  obtain⟨cC,cV,l2,HT,rf⟩:=tq i o ar bk
  have u3:i<bp.size:=by rw [inv.size];omega
  have HB:(bp.setIfInBounds i true).getD i false=true:=by simp [u3]
  have hy:∀ j,j≠i→ (bp.setIfInBounds i true).getD j false=bp.getD j false:=fun j aF=>getD_set_ne false (fun e=>aF e.symm)
  have Me:i<qe.length:=by omega
  have G4:∀ k∈qe[i],bp.getD k false=true:=fun k hk=>by
   have:=rf k (by rw [List.getElem?_eq_getElem Me];exact hk);obtain⟨oV,lZ,e,he,hb,pt⟩:=Region.waitsFor_spec this.2;rw [bk] at lZ;cases lZ;rw [← pt];exact pS e he hb
  have T9:l[i]? =some o:=by simpa using bk
  have Ld:∀ {t τ},look (pG fs E qe[i]) t=some τ→look (iI (fun i=>bp.getD i false) E 0 fs) t=some τ:=fun {t τ} h=>acV h7 Md G4 h
  by_cases HD:i=w
  ·subst HD
   rw [if_pos rfl] at cC
   have aw:M0=o:=Option.some.inj (agt.symm.trans T9)
   have aX:M1=qe[i]:=Option.some.inj (agu.symm.trans (List.getElem?_eq_getElem Me))
   subst aw aX
   have L9:=hw (sg (fun gX W'=>S (bp.setIfInBounds i true) gX W') Q) (iI (fun i=>bp.getD i false) E 0 fs) Ld fun y a7 gX W' st=>?_
   ·exact Ft bk (L9 a W (xV.1 jR))
   refine⟨fun h=>(by rw [HB] at h;cases h),fun _=>⟨y,a7,?_⟩⟩
   have:iI (fun j=>(bp.setIfInBounds i true).getD j false) E 0 fs=iI (fun j=>bp.getD j false) E 0 fs:=by
    have key:∀ (gs:List (Option (Nat×I))) (k:Nat),(∀ j,gs[j]? ≠none→gs[j]? =fs[k+j]?)→iI (fun j=>(bp.setIfInBounds i true).getD j false) E k gs=iI (fun j=>bp.getD j false) E k gs:=by
     intro gs;induction gs with
     | nil=>intro k _;rfl
     | cons x r b7=>
       intro k hk
       have aR:=b7 (k+1) fun j aF=>by
        have:=hk (j+1) (by simpa using aF);rw [List.getElem?_cons_succ] at this;rw [this];congr 1;omega
       cases x with
       | none=>exact aR
       | some x=>
         have bR:=hk 0 (by simp)
         have r8:k≠i:=fun e=>by
          rw [e,Nat.add_zero,afg] at bR;simp at bR
         unfold iI
         simp only [hy k r8,aR]
    exact key fs 0 fun j _=>by rw [Nat.zero_add]
   rw [this];exact st
  obtain⟨x,ao⟩:=l2.resolve_left HD
  rw [if_neg HD,ao] at cC
  have Hq:(bp.setIfInBounds i true).getD w false=bp.getD w false:=hy w fun e=>HD e.symm
  have bH:=sP.get cu (i:=i) (by rw [List.getElem?_take,if_pos ar];exact T9) ao (List.getElem?_eq_getElem Me)
  have Mf:=FM ao
  have ahJ:∀ (jY:List (Nat×I)),(∀ t τ,look ((x.1,x.2)::jY) t=some τ→True):=fun _ _ _ _=>trivial
  have SI:∀ t τ,look (iI (fun j=>(bp.setIfInBounds i true).getD j false) E 0 fs) t=some τ→look ((x.1,x.2)::iI (fun j=>bp.getD j false) E 0 fs) t=some τ:=fun t τ al=>by
   rcases J7 al with⟨j,re,HZ⟩ | h1
   ·rw [Nat.zero_add] at re;by_cases hZ:j=i
    ·subst hZ;rw [ao] at HZ;cases HZ;simp only [look,Nat.beq_refl,cond_true]
    rw [hy j hZ] at re;have ad:=Gm (E:=E) (ls:=fun j=>bp.getD j false) (k:=0) h7 HZ (by rw [Nat.zero_add];exact re);cases hb:Nat.beq x.1 t with
    | false=>simp only [look,hb,cond_false];exact ad
    | true=>
      exfalso
      have aw:=eH.1 hb
      have uniq:∀ (gs:List (Option (Nat×I))) (p q:Nat) (u v:Nat×I),(jN gs).Nodup→gs[p]? =some (some u)→gs[q]? =some (some v)→u.1=v.1→p=q:=by
       intro gs;induction gs with
       | nil=>intro p q u v _ hp;simp at hp
       | cons z r b7=>
         intro p q u v aO hp hq e
         have aR:(jN r).Nodup:=by
          cases z with
          | none=>exact aO
          | some z=>exact(show z.1 ∉ jN r∧ (jN r).Nodup by simpa [jN] using aO).2
         cases p with
         | zero=>
           have dS:z=some u:=by simpa using hp
           subst dS
           cases q with
           | zero=>rfl
           | succ q=>exact absurd (by rw [e];exact FM (by simpa using hq)) (show u.1 ∉ jN r∧ (jN r).Nodup by simpa [jN] using aO).1
         | succ p=>
           cases q with
           | zero=>
             have dS:z=some v:=by simpa using hq
             subst dS
             exact absurd (by rw [← e];exact FM (by simpa using hp)) (show v.1 ∉ jN r∧ (jN r).Nodup by simpa [jN] using aO).1
           | succ q=>rw [b7 p q u v aR (by simpa using hp) (by simpa using hq) e]
      exact hZ (uniq fs j i _ _ h7 HZ ao aw.symm)
   have hb:Nat.beq x.1 t=false:=by
    cases hb:Nat.beq x.1 t with
    | false=>rfl
    | true=>
      have aw:=eH.1 hb
      rw [← aw,Md x.1 Mf] at h1;cases h1
   simp only [look,hb,cond_false];rw [yW fun ad=>by rw [Md t ad] at h1;cases h1];exact h1
  have vq:=(aB x.1 (List.mem_cons_of_mem _ Mf)).2
  refine Ft bk ?_
  cases HE:bp.getD w false with
  | false=>
    refine ae.v (τ:=x.2) (d:=x.1) (fun a W st=>bH.1 a W (st.less fun t τ h=>⟨τ,Ld h,fun _ _ _ h=>h⟩)) cV cC vq (ae.nil fun gX W' st=>⟨fun _=>st.less fun t τ h=>⟨τ,SI t τ h,fun _ _ _ h=>h⟩,fun h=>?_⟩) a W (xV.1 HE)
    rw [Hq,HE] at h;cases h
  | true=>
    obtain⟨y,a7,LX⟩:=xV.2 HE
    have agA:∀ {t τ},look (pG fs E qe[i]) t=some τ→look ((nF,HC y)::iI (fun i=>bp.getD i false) E 0 fs) t=some τ:=fun {t τ} h=>by
     have h1:=Ld h;cases hb:Nat.beq nF t with
     | false=>simp only [look,hb,cond_false];exact h1
     | true=>
       exfalso
       have aw:=eH.1 hb
       subst aw
       rw [yW T8,(aB nF (by simp)).1] at h1;cases h1
    refine ae.v (τ:=x.2) (d:=x.1) (fun a W st=>bH.2 y a7 a W (st.less fun t τ h=>⟨τ,agA h,fun _ _ _ h=>h⟩)) cV cC vq (ae.nil fun gX W' st=>⟨fun h=>?_,fun _=>⟨y,a7,st.less fun t τ h=>⟨τ,?_,fun _ _ _ h=>h⟩⟩⟩) a W LX
    ·rw [Hq,HE] at h;cases h
    cases hb:Nat.beq nF t with
    | true=>
      have aw:=eH.1 hb
      subst aw
      have mQ:Nat.beq x.1 nF=false:=by
       cases mQ:Nat.beq x.1 nF with
       | false=>rfl
       | true=>exact absurd (by rw [← eH.1 mQ];exact Mf) T8
      simp only [look,hb,cond_true] at h ⊢
      simp only [mQ,cond_false];exact h
    | false=>
      simp only [look,hb,cond_false] at h ⊢
      have:=SI t τ h
      simp only [look] at this
      exact this
 ·intro bp a W uQ xV
  obtain⟨y,a7,st⟩:=xV.2 (uQ w agw)
  refine bP y a7 a W (st.less fun t τ h=>⟨τ,?_,fun _ _ _ h=>h⟩)
  have key:∀ (gs:List (Option (Nat×I))) (k:Nat),k+gs.length≤n→iI (fun j=>bp.getD j false) E k gs=iI (fun _=>true) E k gs:=by
   intro gs;induction gs with
   | nil=>intro k _;rfl
   | cons x r b7=>
     intro k hk
     have aR:=b7 (k+1) (by simp only [List.length_cons] at hk;omega)
     cases x with
     | none=>exact aR
     | some x=>
       unfold iI
       simp only [uQ k (by simp only [List.length_cons] at hk;omega),aR]
  rw [key fs 0 (by omega)];exact h
 ·exact
  {size:=by simp
   closed:=fun j oV _ al=>by rw [getD_replicate_false] at al;cases al
   tail:=fun t _ bP=>by simp at bP;simp [bP] }
 refine⟨fun _=>?_,fun h=>by rw [getD_replicate_false] at h;cases h⟩
 have key:∀ (gs:List (Option (Nat×I))) (k:Nat),iI (fun j=>(Array.replicate l.toArray.size false).getD j false) E k gs=E:=by
  intro gs;induction gs with
  | nil=>intro k;rfl
  | cons x r b7=>
    intro k
    have aR:=b7 (k+1)
    cases x with
    | none=>exact aR
    | some x=>
      unfold iI
      simp only [getD_replicate_false,cond_false] at aR ⊢
      exact aR
 show bM c (iI (fun j=>(Array.replicate l.toArray.size false).getD j false) E 0 fs) L a W.drew
 rw [key]
 exact s.world (Fr.drew W)
end
def xZ (n:Nat)(vis:List Nat):Option Nat→Prop
 | none=> ∀ j,j<n→j∈vis
 | some j=>j<n∧j ∉ vis
def aA.next (n:Nat)(vis:List Nat):aA (Option Nat):=fun R=> ∀ j,xZ n vis j→R j
theorem aA.XR {β:Type}{n:Nat}{vis:List Nat}{k:Option Nat→aA β}{R:β→Prop}(h:aA.bind (aA.next n vis) k R)(j:Option Nat)(aF:xZ n vis j):k j R:=h j aF
def mc (es:Array MapEntry)(vis:List Nat):Array Nat:=(vis.filterMap fun j=>(es[j]?).map (·.born)).toArray
def mq (aho:Nat)(es:Array MapEntry)(clock:Nat)(vis:List Nat):Obj:= .mapIter (some aho) clock (mc es vis) clock
structure H0 (es:Array MapEntry)(clock n:Nat):Prop where
 size:es.size=n
 born:∀ x∈es.toList,x.born<clock
 nodup:(es.toList.map MapEntry.born).Nodup
def dV.and (cp:dV)(o:Obj):dV where
 holds A W x:=cp.holds A W x∧x=o
 ni:=cp.ni
 mono e h:=⟨cp.mono e h.1,h.2⟩
def te (b:Nat)(o:Obj)(e:aN):aN:=if e.key=some b then⟨e.key,e.cp.and o⟩ else e
def n2 (b:Nat)(o:Obj)(L:List aN):List aN:=L.map (te b o)
theorem Y3 (b:Nat)(o:Obj)(e:aN):(te b o e).key=e.key:=by unfold te;split <;> rfl
theorem J8 {b:Nat}{o:Obj} :∀ {L:List aN},aS (n2 b o L)=aS L
 | []=>rfl
 | e::L=>by
   have b7:=J8 (b:=b) (o:=o) (L:=L);show aS (te b o e::n2 b o L)=_;unfold aS;rw [Y3,b7]
def I.Ua (b:Bool):I where
 holds _ _ v:= ∃ xs:Array Value,v= .tuple xs∧xs[0]? =some (.bool b)
 mono _ h:=h
section
variable {c:dt} {E:List (Nat×I)} {L:List aN} {ops:Array Oper} {Q:Exit→Act→World→Prop}
variable {d:Option Tmp} {ty:TypeId} {pos:String} {af:Array Edge} {g:Option (Nat×Bool)} {x y z:Operand} {t t2:TypeId}
variable {cb:Type} [fl cb] {hp:aY cb} {loc:List aN}
theorem BZ {P:Prop}(h:P):P:=h
theorem Qm {b:Nat}{o:Obj}{α β:Type}[ah α][ah β]{kv:List (α×β)}{tO:cb}(n:Nat)(ak:L.drop n=Gv.n2 b o (aT hp))(hp':pat hp b=some tO)(hk:fl.h4 b tO= [⟨some b,.map kv⟩]):(⟨some b,dV.and (.map kv) o⟩:aN)∈L:=by
 have h1:(⟨some b,.map kv⟩:aN)∈aT hp:=eV (n:=0) (hp:=hp) rfl hp' hk;have ad:te b o ⟨some b,.map kv⟩∈Gv.n2 b o (aT hp):=List.mem_map.2 ⟨_,h1,rfl⟩;rw [← ak] at ad;have aD:=List.mem_of_mem_drop ad;unfold te at aD;rw [if_pos rfl] at aD;exact aD
theorem bM.swap {L':List aN}{a:Act}{W:World}(h:bM c E L a W)(hk:aS L'=aS L)(bk:∀ e∈L',e.ok (aS L++c.b8) W):bM c E L' a W:=
 {defers:=h.defers
  size:=h.size
  env:=by rw [hk];exact h.env
  dR:=h.dR
  own:=by rw [hk];exact bk
  nodup:=by rw [hk];exact h.nodup
  lt:=by rw [hk];exact h.lt
  gw:=by rw [hk];exact h.gw
  fb:=by rw [hk];exact h.fb }
theorem bM.n2 {a:Act}{W:World}{M:List aN}(h:bM c E (loc++M) a W){b:Nat}{o:Obj}(hb:W.heap[b]? =some o):bM c E (loc++Gv.n2 b o M) a W:=by
 refine h.swap (by rw [e5,e5,J8]) fun e he=>?_;rcases List.mem_append.1 he with he | he
 ·exact h.own e (List.mem_append_left _ he)
 obtain⟨iS,bR,rfl⟩:=List.mem_map.1 he;have h1:=h.own iS (List.mem_append_right _ bR);unfold te;split
 ·rename_i hk;unfold aN.ok at h1 ⊢;simp only [hk] at h1 ⊢;obtain⟨o',g1,g2⟩:=h1;have:o'=o:=by rw [hb] at g1;exact(Option.some.inj g1).symm
  exact⟨o',g1,g2,this⟩
 exact h1
theorem bM.Kv {a:Act}{W:World}{M:List aN}{b:Nat}{o:Obj}(h:bM c E (loc++Gv.n2 b o M) a W):bM c E (loc++M) a W:=by
 have hk:aS (loc++M)=aS (loc++Gv.n2 b o M):=by rw [e5,e5,J8]
 refine h.swap hk fun e he=>?_;rcases List.mem_append.1 he with he | he
 ·exact h.own e (List.mem_append_left _ he)
 have h1:=h.own (te b o e) (List.mem_append_right _ (List.mem_map.2 ⟨e,he,rfl⟩));unfold te at h1;split at h1
 ·rename_i cS;unfold aN.ok at h1 ⊢;simp only [cS] at h1 ⊢;obtain⟨o',g1,g2,_⟩:=h1;exact⟨o',g1,g2⟩
 exact h1
theorem aa.Kv {z:Exit}{b:Nat}{o:Obj}(n:Nat)(ak:L.drop n=Gv.n2 b o (aT hp))(k:aa c Q z E (L.take n++aT hp)):aa c Q z E L:=fun a W s=>by
 have e:L=L.take n++Gv.n2 b o (aT hp):=by rw [← ak,List.take_append_drop]
 rw [e] at s;exact k a W s.Kv
theorem kP.get {α β:Type}[ah α][ah β]{A W} :∀ {es:List MapEntry} {kv:List (α×β)},kP A W es kv→ ∀ {j:Nat} {x:α×β},kv[j]? =some x→ ∃ e,es[j]? =some e∧ (I.of x.1).holds A W e.key∧ (I.of x.2).holds A W e.val
 | _,_,.nil,j,x,h=>by simp at h
 | _,_,.cons h1 ad r,0,x,h=>by
   have h:some _=some x:=h;cases h;exact⟨_,rfl,h1,ad⟩
 | _,_,.cons h1 ad r,j+1,x,h=>by
   obtain⟨e,g1,g2⟩:=r.get (j:=j) (by simpa using h);exact⟨e,by simpa using g1,g2⟩
theorem ae.aap {rest:List Oper}{bf p key elem:Nat}{α β:Type}[ah α][ah β]{kv:List (α×β)}{tO:cb}(n:Nat)(ak:L.drop n=aT hp)(hu:c.P.underlying t=some (.map key elem))(ao:bg c E L x (.of (⟨some p⟩:gE)))(hp':pat hp p=some tO)(hk:fl.h4 p tO= [⟨some p,.map kv⟩])(aO:Nat.blt bf c.n=true)
 (k:∀ r es clock,H0 es clock kv.length→ae c ops Q rest ((bf,.eq (.pointer (some ⟨r,0,none⟩)))::E) (⟨some r,.is (mq p es clock [])⟩::(L.take n++Gv.n2 p (.map es clock) (aT hp)))):
 ae c ops Q (⟨some bf,.range t x,ty,pos,af,none⟩::rest) E L:=fun a W s=>by
 have e:L=L.take n++aT hp:=by rw [← ak,List.take_append_drop]
 have hm:(⟨some p,.map kv⟩:aN)∈L:=by
  rw [e];exact eV (n:=(L.take n).length) (hp:=hp) (by simp) hp' hk
 obtain⟨es,clock,bk,ad,aD,aZ⟩:=s.C1 hm
 have ju:=uu.1 (ao a W s)
 have q7:H0 es clock kv.length:=⟨by have:=ad.length;simpa using this,aD,aZ⟩
 refine h3 rfl (R:=fun v W'=>v= .pointer (some ⟨W.heap.size,0,none⟩)∧W'=W.alloc (mq p es clock [])) (.kX ?_ ⟨rfl,rfl⟩) fun v W' ⟨a6,hw⟩=>?_
 ·have bH:(getObj p).run c.P W= .ok (.map es clock) W:=by simp [getObj,Sem.run,bk]
  simp [execOp,Instr.range,Sem.run_bind,run_underlying hu,ju,bH,newObj,Sem.run]
  rfl
 subst a6
 subst hw
 have s1:=s.alloc (cp:= .is (mq p es clock [])) (o:=mq p es clock []) rfl
 refine k W.heap.size es clock q7 _ _ (bM.put ?_ (by simpa using aO) rfl)
 rw [e] at s1
 have hb:(W.alloc (mq p es clock [])).heap[p]? =some (.map es clock):=by
  have ct:p<W.heap.size:=(Array.getElem?_eq_some_iff.1 bk).1;show(W.heap.push _)[p]? =_;rw [Array.getElem?_push_lt ct,← Array.getElem?_eq_getElem ct];exact bk
 exact bM.n2 (loc:=⟨some W.heap.size,.is (mq p es clock [])⟩::L.take n) s1 hb
theorem ae.ab1 {rest:List Oper}{bf r p:Nat}{α β:Type}[ah α][ah β]{kv:List (α×β)}{es:Array MapEntry}{clock:Nat}{vis:List Nat}(i:Nat)(ao:bg c E L x (.eq (.pointer (some ⟨r,0,none⟩))))(ar:L[i]? =some ⟨some r,.is (mq p es clock vis)⟩)
 (hm:(⟨some p,dV.and (.map kv) (.map es clock)⟩:aN)∈L) (he:H0 es clock kv.length) (aO:Nat.blt bf c.n=true)
 (k:∀ j,xZ kv.length vis j→ae c ops Q rest ((bf,.Ua j.isSome)::E) (L.set i ⟨some r,.is (mq p es clock (vis++j.toList))⟩)):
 ae c ops Q (⟨some bf,.next x false,ty,pos,af,none⟩::rest) E L:=fun a W s=>by
 have ju:a.eval x=_:=ao a W s
 obtain⟨cC,qT,⟨_,mQ⟩⟩:=s.own _ hm
 subst mQ
 obtain⟨cV,Mg,xG⟩:=s.own _ (List.mem_of_getElem? ar)
 have xG:cV=mq p es clock vis:=xG
 subst xG
 have acW:∀ {j:Nat} {e:MapEntry},es[j]? =some e→ (mc es vis).contains e.born=true→j∈vis:=fun {j e} aF aj=>by
  unfold mc at aj;simp only [List.contains_toArray,List.contains_iff_mem,List.mem_filterMap] at aj;obtain⟨v,a6,h1⟩:=aj;cases HF:es[v]? with
  | none=>rw [HF] at h1;cases h1
  | some e'=>
    rw [HF] at h1
    have h1:e'.born=e.born:=by simpa using h1
    have DZ:j<es.toList.length:=by simpa using (Array.getElem?_eq_some_iff.1 aF).1
    have q2:v<es.toList.length:=by simpa using (Array.getElem?_eq_some_iff.1 HF).1
    have aw:(es.toList.map MapEntry.born)[j]? =some e.born:=by simp [aF]
    have aX:(es.toList.map MapEntry.born)[v]? =some e.born:=by simp [HF,h1]
    have:=(List.getElem?_inj (by simpa using DZ) he.nodup).1 (aw.trans aX.symm)
    rw [this];exact a6
 rcases run_next_at (P:=c.P) W ty r p clock clock (mc es vis) es clock Mg qT he.born (Nat.le_refl _) with⟨bR,iP⟩ | ⟨e,D8,UH,Mh,iP⟩
 ·
  have ly:xZ kv.length vis none:=fun j aF=>by
   have xH:j<es.size:=by rw [he.size];exact aF
   false_or_by_contra;rename_i fU;have:es[j]∈ (leftOf es (mc es vis)).toList:=by
    unfold leftOf;simp only [Array.toList_filter,List.mem_filter];refine⟨by simp,?_⟩;cases aj:(mc es vis).contains es[j].born with
    | false=>rfl
    | true=>exact absurd (acW (by simp [xH]) aj) fU
   have dS:(leftOf es (mc es vis)).toList= []:=by
    apply List.eq_nil_of_length_eq_zero;simpa using bR
   rw [dS] at this;cases this
  refine h3 rfl (R:=fun v W'=>v= .tuple #[.bool false]∧W'=W) (.kX (v:= .tuple #[.bool false]) ?_ ⟨rfl,rfl⟩) fun v W' ⟨a6,hw⟩=>?_
  ·simp only [execOp,ju,Sem.run_bind,iP,Result.andThen_ok];rfl
  subst a6 hw
  have hk:=k none ly
  have kK:L.set i ⟨some r,.is (mq p es clock (vis++Option.toList none))⟩=L:=by
   apply List.ext_getElem?;intro q;rw [List.getElem?_set];split
   ·rename_i hq;subst hq;rw [if_pos (List.getElem?_eq_some_iff.1 ar).1,ar];simp
   rfl
  rw [kK] at hk
  exact hk _ _ (bM.put s (by simpa using aO) ⟨_,rfl,rfl⟩)
 have Tw:e∈es.toList∧ (mc es vis).contains e.born=false:=by
  unfold leftOf at D8;simp only [Array.toList_filter,List.mem_filter,Bool.not_eq_true'] at D8;exact D8
 obtain⟨j,aF⟩:=List.mem_iff_getElem?.1 Tw.1
 have xH:es[j]? =some e:=by simpa using aF
 have DZ:j<kv.length:=by rw [← he.size];exact(Array.getElem?_eq_some_iff.1 xH).1
 have ly:xZ kv.length vis (some j):=⟨DZ,fun a6=>by
  have:(mc es vis).contains e.born=true:=by
   unfold mc;simp only [List.contains_toArray,List.contains_iff_mem,List.mem_filterMap];exact⟨j,a6,by rw [xH];rfl⟩
  rw [Tw.2] at this;cases this⟩
 have KK:(mc es vis).push e.born=mc es (vis++[j]):=by
  unfold mc;rw [List.filterMap_append];simp [xH]
 rw [KK] at iP
 refine h3 rfl (R:=fun v W'=>v= .tuple #[.bool true,e.key,e.val]∧W'=UH.putObj r (mq p es clock (vis++[j]))) (.kX (v:= .tuple #[.bool true,e.key,e.val]) ?_ ⟨rfl,rfl⟩) fun v W' ⟨a6,hw⟩=>?_
 ·simp only [execOp,ju,Sem.run_bind,iP,Result.andThen_ok];rfl
 subst a6 hw
 have s1:bM c E L a UH:=by
  rcases Mh with rfl | rfl
  ·exact s
  exact s.world (Fr.drew W)
 exact k (some j) ly _ _ (bM.put (s1.qL ar (cp':= .is (mq p es clock (vis++[j]))) (o':=mq p es clock (vis++[j])) rfl) (by simpa using aO) ⟨_,rfl,rfl⟩)
theorem aaq {b:Bool}(ao:bg c E L x (.Ua b)):cf c E L ⟨d,.extract x 0,ty,pos,af,g⟩ (.of b):= .pure fun a W s=>by
 obtain⟨xs,h1,ad⟩:=ao a W s;refine⟨.bool b,?_,of_bool.2 rfl⟩;simp [execOp,Instr.extract,h1,ad]
theorem YM {r p:Nat}{α β:Type}[ah α][ah β][Inhabited α][Inhabited β]{kv:List (α×β)}{es:Array MapEntry}{clock:Nat}{vis:List Nat}{j:Option Nat}{q:Nat}(i:Nat)(ao:bg c E L x (.eq (.pointer (some ⟨r,0,none⟩))))(ar:L[i]? =some ⟨some r,.is (mq p es clock (vis++j.toList))⟩)
 (hm:(⟨some p,dV.and (.map kv) (.map es clock)⟩:aN)∈L) (he:H0 es clock kv.length) (aF:xZ kv.length vis j) (hq:j=some q):
 cf c E L ⟨d,.entry x,ty,pos,af,g⟩ (.eu [.of (ay kv q).1,.of (ay kv q).2]):= .pure fun a W s=>by
 subst hq
 have ju:a.eval x=_:=ao a W s
 obtain⟨cC,qT,⟨mu,wJ,qV,ad,aD,aZ⟩,mQ⟩:=s.own _ hm
 subst mQ
 cases qV
 obtain⟨cV,Mg,xG⟩:=s.own _ (List.mem_of_getElem? ar)
 have xG:cV=mq p es clock (vis++[q]):=xG
 subst xG
 have Ho:q<kv.length:=aF.1
 obtain⟨e,g1,g2,g3⟩:=ad.get (j:=q) (x:=ay kv q) (by rw [eU _ Ho];exact List.getElem?_eq_getElem Ho)
 have xH:es[q]? =some e:=by simpa using g1
 have KK:mc es (vis++[q])=(mc es vis).push e.born:=by
  unfold mc;rw [List.filterMap_append];simp [xH]
 have Mi:W.heap[r]? =some (.mapIter (some p) clock ((mc es vis).push e.born) clock):=by rw [← KK];exact Mg
 have iP:=run_entry_at (P:=c.P) W r p clock (mc es vis) es clock e Mi qT (List.mem_of_getElem? g1) he.nodup
 refine⟨.tuple #[e.key,e.val],?_,_,rfl,.cons g2 (.cons g3 .nil)⟩
 simp only [execOp,ju,Sem.run_bind,iP,Result.andThen_ok]
 rfl
end
end Gv
namespace Gv
open Go Go.Proofs Go.Sort
def I.Hd {α:Type}[ah α](P:Program)(F:α→α→Option Int):I where
 holds A W v:= ∃ f cap,v= .func (.func f) #[] cap∧bL P f∧ ∀ c8 W',Ext A W c8 W'→ (∀ k∈c8,k<W'.heap.size)→ ∀ x y r mx ri,F x y=some r→ (I.of x).holds c8 W' mx→ (I.of y).holds c8 W' ri→
  Calls P f (#[mx,ri]++cap) W' fun e vp=> ∃ v,e= .returned v∧Fr [] W' vp∧ (I.of r).holds c8 vp v
 mono e h:=let⟨f,cap,h1,ad,aD⟩:=h; ⟨f,cap,h1,ad,fun c8 W' e'=>aD c8 W' (e.trans e')⟩
theorem YN {c:dt}{E:List (Nat×I)}{L:List aN}{α:Type}[ah α]{F:α→α→Option Int}{f:FuncId}(ew:bL c.P f)(h:∀ x y r,F x y=some r→bK c.P f [.of x,.of y] (.of r)):bg c E L (.func f) (.Hd c.P F):=fun a W s=>
 ⟨f,#[],rfl,ew,fun c8 W' _ gk x y r mx ri jy ao a7=>by simpa using h x y r jy c8 W' [mx,ri] gk (.cons ao (.cons a7 .nil))⟩
theorem Y4 {W W':World}(h:Fr [] W W'):∃ q os,W'=grow (W.drewN q) os:=by
 obtain⟨p,hp⟩:=regrown_of_below h.below;have hd:=h.drawn;rw [hp] at hd;have hd:W.drawn≤p.d:=hd;refine⟨p.d - W.drawn,p.os,?_⟩;rw [hp];unfold redrawn World.drewN;congr 2;omega
structure vu {α:Type}(c:α→α→Int):Prop where
 neg:∀ x y,c x y<0↔0<c y x
 nb:∀ x y z,c x y≤0→c y z≤0→c x z≤0
theorem vu.swo {α:Type}{c:α→α→Int}(h:vu c):SWO (ltOf c) where
 irrefl x:=by
  unfold ltOf;rw [decide_eq_false_iff_not];intro h1;have:=(h.neg x x).1 h1;omega
 trans x y z h1 ad:=by
  unfold ltOf at *;rw [decide_eq_true_eq] at *;have dn:=h.nb x y z (by omega) (by omega);by_cases aD:c x z<0
  ·exact aD
  have aZ: ¬ 0<c z x:=fun bc=>aD ((h.neg x z).2 bc);have bc:=h.nb y z x (by omega) (by omega);have:=(h.neg x y).1 h1;omega
 ntrans x y z h1 ad:=by
  unfold ltOf at *;rw [decide_eq_false_iff_not] at *;have dM: ¬ 0<c y x:=fun aD=>h1 ((h.neg x y).2 aD);have eC: ¬ 0<c z y:=fun aD=>ad ((h.neg y z).2 aD);have hK:=h.nb z y x (by omega) (by omega);intro aD;have:=(h.neg x z).1 aD;omega
theorem vu.on {α β:Type}{c:α→α→Int}(h:vu c)(g:β→α):vu (fun x y=>c (g x) (g y)):=⟨fun x y=>h.neg _ _,fun x y z=>h.nb _ _ _⟩
def lA (k:Nat)(cs:Array Value)(i:Nat):List Value:=(cs.toList.drop (i * k)).take k
theorem PR {k:Nat}{cs:Array Value}{i j:Nat}(aF:j<k)(h:i * k+j<cs.size):(lA k cs i)[j]! =cs[i * k+j]:=by
 have al:j<(lA k cs i).length:=by
  unfold lA;rw [List.length_take,List.length_drop,Array.length_toList];omega
 rw [getElem!_pos _ j al];have:(lA k cs i)[j]? =cs[i * k+j]? :=by
  unfold lA;rw [List.getElem?_take,if_pos aF,List.getElem?_drop,Array.getElem?_toList]
 rw [List.getElem?_eq_getElem al,Array.getElem?_eq_getElem h] at this;exact Option.some.inj this
theorem Xu {n k p:Nat}[Inhabited (Fin n)]{W:World}{cs:Array Value}{t:TypeId}(bk:W.heap[p]? =some (.cells cs t (0,0)))(ev:n * k≤cs.size)(d:Array (Fin n))(hd:d.size=n)(Em:∀ i (h:i<n),d[i]! =⟨i,h⟩):HoldsK (fun i:Fin n=>lA k cs i.1) k W p 0 d:=by
 intro j aF;have aF:j<d.size * k:=by simpa using aF
 have lv:j<n * k:=by rw [← hd];exact aF
 have hk:0<k:=Nat.pos_of_ne_zero fun e=>by rw [e] at lv;omega
 have hdiv:j / k<n:=Nat.div_lt_of_lt_mul (by rw [Nat.mul_comm];exact lv);have xh:=Nat.mod_lt j hk;have agB:j / k * k+j % k=j:=by rw [Nat.mul_comm];exact Nat.div_add_mod j k
 constructor
 ·rw [get_flatK _ _ _ _ aF,Em _ hdiv];show W.cell? _=some ((lA k cs (j / k))[j % k]!);rw [PR xh (by omega)];unfold World.cell?;simp only [bk,Nat.zero_add,agB];simp
 unfold World.frozen?;simp [bk]
theorem N5 {n k p m:Nat}[Inhabited (Fin n)]{W:World}{cs:Array Value}{t:TypeId}(hp:p<W.heap.size)(bk:W.heap[p]? =some (.cells cs t (0,0)))(enc:Fin n→List Value)(d:Array (Fin n))(os:Array Obj):
 (sortWorldK enc k W p 0 m d os).heap[p]? =some (.cells (putCells id 0 (flatK enc k d) cs) t (0,0))∧ (∀ q,q<W.heap.size→q≠p→ (sortWorldK enc k W p 0 m d os).heap[q]? =W.heap[q]?)∧W.heap.size≤ (sortWorldK enc k W p 0 m d os).heap.size:=by
 unfold sortWorldK grow putRowK putRow mapBlock
 refine⟨?_,fun q hq da=>?_,?_⟩
 ·rw [Array.getElem?_append_left (by simpa [Sort.ahead] using hp),Array.getElem?_modify]
  simp [Sort.ahead,bk,onCells]
 ·rw [Array.getElem?_append_left (by simpa [Sort.ahead] using hq),Array.getElem?_modify]
  simp [Sort.ahead,Ne.symm da]
 simp [Sort.ahead]
theorem OL {n k p m:Nat}[Inhabited (Fin n)]{W:World}{cs:Array Value}{t:TypeId}(hp:p<W.heap.size)(bk:W.heap[p]? =some (.cells cs t (0,0)))(enc:Fin n→List Value)(d:Array (Fin n))(os:Array Obj):Fr [p] W (sortWorldK enc k W p 0 m d os):=by
 obtain⟨_,ad,aD⟩:=N5 (k:=k) (m:=m) hp bk enc d os;exact⟨rfl,rfl,rfl,Nat.le_add_right _ _,aD,fun q hq da=>ad q hq (by simpa using da)⟩
theorem FV {F cs:Array Value} :(putCells id 0 F cs).size=cs.size:=by unfold putCells;simp
theorem aaI {n k i j:Nat}(ar:i<n)(aF:j<k):i * k+j<n * k:=by
 have:=Nat.mul_le_mul_right k (show i+1≤n from ar);rw [Nat.add_mul,Nat.one_mul] at this;omega
theorem ZT {n k i:Nat}{cs:Array Value}(ev:n * k≤cs.size)(ar:i<n):(lA k cs i).length=k:=by
 have:=Nat.mul_le_mul_right k (show i+1≤n from ar);rw [Nat.add_mul,Nat.one_mul] at this;unfold lA;rw [List.length_take,List.length_drop,Array.length_toList];omega
theorem Xv {n k i:Nat}[Inhabited (Fin n)]{cs:Array Value}{enc:Fin n→List Value}(hk:∀ x,(enc x).length=k){d:Array (Fin n)}(hd:d.size=n)(ev:n * k≤cs.size)(ar:i<n):lA k (putCells id 0 (flatK enc k d) cs) i=enc d[i]! :=by
 apply List.ext_getElem
 ·rw [ZT (by rw [FV];exact ev) ar,hk]
 intro j h1 ad;have aF:j<k:=by rw [hk] at ad;exact ad
 have ct:=aaI ar aF;have Ei:0<k:=by omega
 have bb:i * k+j<d.size * k:=by rw [hd];exact ct
 have aw:(i * k+j) / k=i:=by rw [Nat.mul_comm,Nat.mul_add_div Ei,Nat.div_eq_of_lt aF];omega
 have aX:(i * k+j) % k=j:=by rw [Nat.mul_comm,Nat.mul_add_mod,Nat.mod_eq_of_lt aF]
 rw [← getElem!_pos _ j h1,PR aF (by rw [FV];omega),← getElem!_pos (enc d[i]!) j ad];unfold putCells;rw [Array.getElem_mapIdx,if_pos ⟨Nat.zero_le _,by rw [size_flatK];omega⟩,Nat.sub_zero,get_flatK _ _ _ _ bb,aw,aX];rfl
theorem Y5 {m:Nat}{cs:Array Value}(h:m≤cs.size):(cs.toList.take m).length=m:=by rw [List.length_take,Array.length_toList];omega
theorem PS {α:Type}(a:Array α){n:Nat}(h:a.size=n):a.extract 0 n=a:=by subst h;simp
theorem O8 {n k i:Nat}{cs:Array Value}(ar:i<n):((cs.toList.take (n * k)).drop (i * k)).take k=lA k cs i:=by
 have:=Nat.mul_le_mul_right k (show i+1≤n from ar);rw [Nat.add_mul,Nat.one_mul] at this;rw [List.drop_take,List.take_take,show min k (n * k - i * k)=k by omega];rfl
set_option maxHeartbeats 1000000 in
open Go.Shelf in
theorem acX {T:Type}[ah T]{P:Program}{ρ:Ren}(L:SlLaysF0.n6 P ρ)(M3:∀ w,(isAgg (ρ.t 24)).run P w= .ok true w)(M4:∀ w,(Go.sizeOf (ρ.t 24)).run P w= .ok (ah.size T) w)(Ea:ah.agg T=true){t:TypeId}{xs:List T}{F:T→T→Option Int}{c:T→T→Int}(aj:vu c)
 (jy:∀ a∈xs,∀ b∈xs,F a b=some (c a b)) (hlen:xs.length<4611686018427387904) {key:Option Nat} {cap:Nat} :
 bZ P (ρ.f 6) [.eq (aW key xs.length cap),.Hd P F] [⟨key,.row t xs cap⟩] (δ:= {ys:List T // ys.Perm xs∧ys.Pairwise (fun a b=>c a b≤0)}) (fun _=>.eu []) (fun d=>[⟨key,.row t d.1 cap⟩]):=by
 intro A W vs gk h7 ct iD a6
 cases a6 with
 | cons h1 a6=>cases a6 with
   | cons ad a6=>cases a6 with
     | nil=>
       rename_i v1 v2
       have h1:v1=aW key xs.length cap:=h1
       obtain⟨f,xX,rfl,ew,w3⟩:=ad
       subst h1
       cases key with
       | none=>
         have afh:xs= []∧cap=0:=iD ⟨none,.row t xs cap⟩ (by simp)
         obtain⟨rfl,rfl⟩:=afh
         refine(AnyF.slices_SortFunc_none L none 0 (.func (.func f) #[] xX) W).mono ?_
         rintro e nD ⟨rfl,rfl⟩
         exact⟨_,⟨[],.refl _,.nil⟩,rfl,Fr.refl _ _,by simp [aS],by simp [aS],fun e he=>by simp at he;subst he;exact⟨rfl,rfl⟩,⟨_,rfl,.nil⟩⟩
       | some p=>
         obtain⟨o,bk,cs,rfl,ev,hle,Tx,SJ⟩:∃ o,W.heap[p]? =some o∧ (dV.row t xs cap).holds (aS [⟨some p,.row t xs cap⟩]++A) W o:=iD ⟨some p,.row t xs cap⟩ (by simp)
         have hp:p<W.heap.size:=ct p (by simp [aS])
         have agC:∀ q∈p::A,q<W.heap.size:=fun q hq=>by
          rcases List.mem_cons.1 hq with rfl | hq
          ·exact hp
          exact(gk q hq).1
         have Ub:p ∉ A:=fun h=>(gk p h).2 (by simp [aS])
         by_cases bR:xs.length=0
         ·obtain rfl:xs= []:=List.length_eq_zero_iff.1 bR
          refine(AnyF.slices_SortFunc_none L (some ⟨p,0,none⟩) cap (.func (.func f) #[] xX) W).mono ?_
          rintro e nD ⟨rfl,rfl⟩
          refine⟨_,⟨[],.refl _,.nil⟩,rfl,Fr.refl _ _,by simp [aS],fun q hq=>?_,fun e he=>?_,⟨_,rfl,.nil⟩⟩
          ·simp [aS] at hq;subst hq
           exact⟨hp,fun _=>by simp [aS],Ub⟩
          simp at he;subst he
          exact⟨_,bk,cs,rfl,ev,hle,Tx,SJ⟩
         have aO:0<xs.length:=by omega
         letI:Inhabited (Fin xs.length):=⟨⟨0,aO⟩⟩
         have Mj:xs.length * ah.size T≤cs.size:=by rw [ev];exact Nat.mul_le_mul_right _ hle
         have DF:∀ i (h:i<xs.length),ah.rep (p::A) W (lA (ah.size T) cs i) xs[i]:=fun i h=>by
          have:=SJ.2 i h;rw [O8 h] at this;exact this
         have gT:(Array.ofFn fun i:Fin xs.length=>i).size=xs.length:=by simp
         have Em:∀ i (h:i<xs.length),(Array.ofFn fun i:Fin xs.length=>i)[i]! =⟨i,h⟩:=fun i h=>by
          rw [getElem!_pos _ i (by simp;exact h)];simp
         generalize (Array.ofFn fun i:Fin xs.length=>i)=d at gT Em
         have tH:=Xu bk Mj d gT Em
         have hO:SWO (ltOf fun x y:Fin xs.length=>c xs[x.1] xs[y.1]):=(aj.on fun i:Fin xs.length=>xs[i.1]).swo
         have gR:∀ m os qk,Ext (p::A) W (p::A) (sortWorldK (fun i:Fin xs.length=>lA (ah.size T) cs i.1) (ah.size T) W p 0 m qk os):=fun m os qk=>Ext.Sw (OL hp bk _ qk os) fun q hq=>by simp at hq;subst hq;exact List.mem_cons_self
         have zM:∀ m os qk (i:Fin xs.length),(I.of xs[i.1]).holds (p::A) (sortWorldK (fun i:Fin xs.length=>lA (ah.size T) cs i.1) (ah.size T) W p 0 m qk os) (.agg (lA (ah.size T) cs i.1).toArray):=fun m os qk i=>
          ⟨by rw [Ea];exact⟨_,rfl⟩,ah.mono (gR m os qk) (DF i.1 i.2)⟩
         have afi:CmpLays P f xX (fun i:Fin xs.length=>lA (ah.size T) cs i.1) (ah.size T) (fun x y:Fin xs.length=>c xs[x.1] xs[y.1]) p 0 d.size W:=fun m os qk ah0 x y=>
          (w3 (p::A) _ (gR m os qk) (fun q hq=>Nat.lt_of_lt_of_le (agC q hq) (gR m os qk).size) _ _ _ _ _ (jy _ (List.getElem_mem x.2) _ (List.getElem_mem y.2)) (zM m os qk x) (zM m os qk y)).mono fun e nD ⟨v,he,agD,a6⟩=>⟨by rw [he,of_int.1 a6],Y4 agD⟩
         have ak:∀ x:Fin xs.length,(lA (ah.size T) cs x.1).length=ah.size T:=fun x=>ah.len (DF x.1 x.2)
         have agE:∀ x:Fin xs.length,∀ v∈lA (ah.size T) cs x.1,v.oneCell'=true:=fun x=>ah.one (DF x.1 x.2)
         have hR:d.size<4611686018427387904:=by omega
         have h:=AnyQ.slices_SortFunc L (ah.size T) M3 M4 (fun i:Fin xs.length=>lA (ah.size T) cs i.1) ak agE (fun x y:Fin xs.length=>c xs[x.1] xs[y.1]) hO f xX p 0 cap d W (fun args w=>ew.run args w) afi tH hp hR
         rw [gT] at h
         refine h.mono ?_
         rintro e nD ⟨rfl,l5,m,os,SK,acY,rfl⟩
         obtain⟨cu,_,Hm⟩:=N5 (k:=ah.size T) (m:=m) hp bk (fun i:Fin xs.length=>lA (ah.size T) cs i.1) l5 os
         have hd':l5.size=xs.length:=SK.1.trans gT
         have iB:(l5.toList.map fun i=>xs[i.1]).length=xs.length:=by simp [hd']
         have lx:(l5.toList.map fun i=>xs[i.1]).Perm xs:=by
          have ad:=SK.2.2;rw [PS l5 hd',PS d gT] at ad;refine(ad.map _).trans (List.Perm.of_eq ?_);refine List.ext_getElem (by simp [gT]) fun i aD aZ=>?_;have:=Em i aZ;rw [getElem!_pos _ i (by omega)] at this;simp [this]
         have oM:∀ i (h:i<xs.length),(l5.toList.map fun i=>xs[i.1])[i]'(by omega)=xs[(l5[i]!).1]:=fun i h=>by
          have e:l5[i]! =l5[i]'(by omega):=getElem!_pos _ i (by omega);simp [e]
         have Mk:(l5.toList.map fun i=>xs[i.1]).Pairwise (fun a b=>c a b≤0):=by
          rw [List.pairwise_iff_getElem];intro i j ar aF gd;rw [iB] at ar aF;have:=acY i j (Nat.zero_le _) gd aF;unfold ltOf at this;rw [decide_eq_false_iff_not] at this;rw [oM i ar,oM j aF];have bc: ¬ 0<c xs[(l5[i]!).1] xs[(l5[j]!).1]:=fun bu=>this ((aj.neg _ _).2 bu);omega
         refine⟨_,⟨_,lx,Mk⟩,rfl,OL hp bk _ l5 os,by simp [aS],fun q hq=>?_,fun e he=>?_,⟨_,rfl,.nil⟩⟩
         ·simp [aS] at hq;subst hq
          exact⟨Nat.lt_of_lt_of_le hp Hm,fun _=>by simp [aS],Ub⟩
         simp at he;subst he
         refine⟨_,cu,_,rfl,by rw [FV];exact ev,by rw [iB];exact hle,Tx,?_,fun i ar=>?_⟩
         ·rw [iB];exact Y5 (by rw [FV];exact Mj)
         rw [iB] at ar
         rw [iB,O8 ar,Xv (fun x=>ah.len (DF x.1 x.2)) hd' Mj ar,oM i ar]
         exact ah.mono (gR m os l5) (DF _ (l5[i]!).2)
def aA.ze {T:Type}(xs:List T)(F:T→T→Option Int):aA (List T):=fun Q=> ∃ c:T→T→Int,vu c∧xs.length<4611686018427387904∧ (∀ a∈xs,∀ b∈xs,F a b=some (c a b))∧ ∀ ys:List T,ys.Perm xs→ys.Pairwise (fun a b=>c a b≤0)→Q ys
open Go.Shelf in
theorem aa5 {T:Type}[ah T]{P:Program}{ρ:Ren}(L:SlLaysF0.n6 P ρ)(M3:∀ w,(isAgg (ρ.t 24)).run P w= .ok true w)(M4:∀ w,(Go.sizeOf (ρ.t 24)).run P w= .ok (ah.size T) w)(Ea:ah.agg T=true){t:TypeId}{xs:List T}{F:T→T→Option Int}{K:List T→Prop}(h:aA.ze xs F K){key:Option Nat}{cap:Nat} :
 bZ P (ρ.f 6) [.eq (aW key xs.length cap),.Hd P F] [⟨key,.row t xs cap⟩] (δ:= {r:List T // xs.length=r.length∧K r}) (fun _=>.eu []) (fun d=>[⟨key,.row t d.1 cap⟩]):=by
 obtain⟨c,aj,hlen,jy,hk⟩:=h
 intro A W vs h1 ad aD aZ bc
 exact(acX L M3 M4 Ea aj jy hlen A W vs h1 ad aD aZ bc).mono fun e nD ⟨v,d,h⟩=>⟨v,⟨d.1,d.2.1.length_eq.symm,hk _ d.2.1 d.2.2⟩,h⟩
end Gv
