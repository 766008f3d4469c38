/-
  What the programs compute, in plain Lean. Conditions: none.
-/
import Derived.Test.YtmnggbjcnoffeaaGreatMp0
set_option linter.unusedVariables false
set_option linter.unusedSimpArgs false
set_option maxRecDepth 100000
namespace Go.Proofs.YtmnggbjcnoffeaaGreat
open Go Gv
structure Jh (km hp:aS Cell) (t:Nat) (g:List Bool→Option Int) (r:Nat):Prop where
 cell:∃ c,fB hp t=some c∧c.fw=32∧c.cB=some r
 tree:nT hp (some r)
 cont:∀ aW,cont hp (some r) aW=g aW
 keeps:eL km hp (Own km t)
 own:∀ aW q,cK hp (some r) aW=some q→Own km t q
theorem empty_eq {hp:aS Cell} {p:Nat} {c:dx} (h:cD hp p=some c):xn hp (some p)=some (!c.dC && decide (c.cU=default)):=by
 refine bt.get ?_
 unfold xn
 refine .eq rfl (.eq h ?_)
 refine .cy (P:=fun r=>r=p) (fun _=>⟨p,rfl,rfl⟩) fun o J=> ?_
 refine .cy (P:=fun r=>r=c) (fun ad=>⟨c,by rw [J ad]; exact h,rfl⟩) fun cf ad=> .ret ?_
 cases hu:c.dC with
 | true=>rfl
 | false=>rw [ad (by rw [hu]; rfl)]
theorem Up (v:ar) (n:Nat):(dm v n).length=n:=by unfold dm; simp
theorem Uq (v:ar) {i n:Nat} (h:i≤n):dm v n=dm v i ++ (dm v n).drop i:=by
 have:dm v i=(dm v n).take i:=by unfold dm; rw [← List.map_take,List.take_range]; congr 2; omega
 rw [this,List.take_append_drop]
theorem El {hp:aS Cell} {r:Ref} {v:ar} {i n:Nat} (h:i≤n) {p:Nat} (hp':cK hp r (dm v n)=some p):∃ q,cK hp r (dm v i)=some q:=by
 rw [Uq v h,lM] at hp'
 cases e:cK hp r (dm v i) with
 | none=>rw [e,gn] at hp'; cases hp'
 | some q=>exact⟨q,rfl⟩
theorem Ur {hp:aS Cell} {t:Nat} {g:List Bool→Option Int} (h:iH hp t g) {n:Nat} (aO:n≤32) {v:ar} (a0:∀ j,j < 128→ch v j=true→lead 32 n j=true) {id:Int} (bs:g (dm v n)=some id):
 bt (xl hp (some t) v n) (fun r=>r.1=true∧iH r.2 t (fun aW=>if aW=dm v n then none else g aW)∧eL hp r.2 (Own hp t)∧ ∀ q,Own r.2 t q→Own hp t q):=by
 obtain⟨c,ak,hb,bL,Kk⟩:=h.ok
 have aae:∃ p,cK hp c.cB (dm v n)=some p:=by
  cases e:cK hp c.cB (dm v n) with
  | none=>rw [← Kk,j4 e] at bs; cases bs
  | some p=>exact⟨p,rfl⟩
 obtain⟨uA,iV⟩:=aae
 have YO:∃ r,c.cB=some r:=by
  obtain⟨q,hq⟩:=El (Nat.zero_le n) iV
  rw [An,ma] at hq
  exact⟨q,hq⟩
 obtain⟨r,aR⟩:=YO
 rw [aR] at bL Kk iV
 unfold xl
 refine .eq (N4 h aO a0) ?_
 rw [bs]
 refine .cond (fun ak=>by cases ak) fun _=> .eq rfl (.eq ak (.eq rfl ?_))
 rw [aR]
 show bt (Option.bind (pF hp (n:Int) v (some t) _ _) _) _
 refine bt.bind (P:=fun e:(List Int × List Ref) ⊕ Empty=> ∃ bits mY,e= .inl (bits,mY)∧mY.length=n + 1∧bits.length=n∧ (∀ j,j≤n→aE mY j=cK hp (some r) (dm v j))∧ ∀ j,j < n→aE bits j=((fh (ch v (31 - j)):Nat):Int))
  (IS ak hb v aO (fun i s=> ∃ bits mY,s=(bits,mY)∧mY.length=i + 1∧bits.length=i∧ (∀ j,j≤i→aE mY j=cK hp (some r) (dm v j))∧ ∀ j,j < i→aE bits j=((fh (ch v (31 - j)):Nat):Int)) ⟨[],[some r],rfl,rfl,rfl,fun j aH=> ?_,fun j aH=>by omega⟩ (fun i s au hs=> ?_) (fun s hs=> ?_)) fun e he=> ?_
 ·have:j=0:=by omega
  subst this
  rw [An,ma]; rfl
 ·obtain⟨bits,mY,rfl,J,ad,aC,aU⟩:=hs
  obtain⟨q,hq⟩:=El (show i≤n by omega) iV
  obtain⟨d,hd⟩:=bL.reads _ _ hq
  have hw:bq ((mY.length:Int) - 1)=(i:Int):=by rw [g9 (by omega) (by omega)]; omega
  simp only [hw]
  have b5:fh (ch v (31 - i)) < 2:=by cases ch v (31 - i) <;> decide
  refine .idx rfl (by omega) (.eq (a:=q) (by rw [aC i (Nat.le_refl _)]; exact hq) (.idx rfl b5 (.eq hd (.eq (j2 _ _ (by simp; omega) (by omega)) (.eq (j2 _ _ (by simp; omega) (by omega)) (.ret ⟨_,_,rfl,by simp; omega,by simp; omega,fun j aH=> ?_,fun j aH=> ?_⟩))))))
  ·rw [G8]
   by_cases g5:j=mY.length
   ·rw [if_pos g5,show j=i + 1 by omega,Am,lM,hq,hl hd,ma]
   ·rw [if_neg g5]; exact aC j (by omega)
  ·rw [G8]
   by_cases g5:j=bits.length
   ·rw [if_pos g5,show j=i by omega]
   ·rw [if_neg g5]; exact aU j (by omega)
 ·exact⟨s.1,s.2,by obtain⟨bits,mY,rfl,_⟩:=hs; rfl,by obtain⟨bits,mY,rfl,h⟩:=hs; exact h⟩
 obtain⟨bits,mY,rfl,J,ad,aC,aU⟩:=he
 simp only [Sum.elim_inl]
 obtain⟨d,hd⟩:=bL.reads _ _ iV
 have Kd:=o4.1 hd
 have jh:cD (df hp uA (.fQ { d with dC:=false })) uA=some { d with dC:=false } :=xO Kd
 refine .idx rfl (by omega) (.eq (a:=uA) (by rw [aC n (Nat.le_refl _)]; exact iV) (.eq hd (.eq rfl (.eq jh (.eq rfl ?_)))))
 generalize de:df (df hp uA (.fQ { d with dC:=false })) uA (.fQ { d with dC:=false,hc:=0 })=cO
 have gS:=ES hd ak
 have pk:cD cO uA=some { d with dC:=false,hc:=0 } :=by rw [← de]; exact xO (o4.1 jh)
 have Ji:∀ q,q≠uA→pat cO q=pat hp q:=fun q hq=>by rw [← de,nH hq.symm,nH hq.symm]
 obtain⟨s1,s2⟩:=PW bL iV hd pk rfl fun q hq=>uT (Ji q hq)
 have Q0:=AG hd pk rfl fun q hq=>uT (Ji q hq)
 have abE:fB cO t=some c:=by rw [DF (Ji t gS.symm)]; exact ak
 have Pn:Own hp t uA:= .inr ⟨c,_,ak,by rw [aR]; exact iV⟩
 have cX:eL hp cO (Own hp t):=by
  rw [← de]
  exact(eL.up (own:=Own hp t) Pn).trans (eL.up Pn) fun q _ h=>h
 have KK:Jh hp cO t (fun aW=>if aW=dm v n then none else g aW) r:=⟨⟨c,abE,hb,aR⟩,s1,fun aW=>by
  rw [s2]
  by_cases e:aW=dm v n
  ·rw [if_pos e]; simp only [if_pos e]; rfl
  ·rw [if_neg e]; simp only [if_neg e]; exact Kk aW,cX,fun aW q hq=> .inr ⟨c,aW,ak,by rw [aR,← Q0]; exact hq⟩⟩
 have ua:bq ((n:Int) - 1)=(n:Int) - 1:=g9 (by omega) (by omega)
 rw [ua]
 refine bt.bind (P:=fun aX=>Jh hp aX.2.2 t (fun aW=>if aW=dm v n then none else g aW) r) (bt.tG n (fun i st=> ∃ hq,st=((n:Int) - 1 - (i:Int),hq)∧Jh hp hq t (fun aW=>if aW=dm v n then none else g aW) r∧ ∀ j,j + i≤n→cK hq (some r) (dm v j)=aE mY j) (by omega) ⟨cO,by simp,KK,fun j aH=>by rw [Q0,aC j (by omega)]⟩ (fun i st au hs=> ?_) (fun st hs=> ?_)) fun aX um=> ?_
 ·obtain⟨hq,rfl,hm,Jj⟩:=hs
  have av:(n:Int) - 1 - (i:Int)=((n - 1 - i:Nat):Int):=by omega
  have aX:bq ((n:Int) - 1 - (i:Int) + 1)=((n - i:Nat):Int):=by rw [g9 (by omega) (by omega)]; omega
  have c4:bq ((n:Int) - 1 - (i:Int) - 1)=(n:Int) - 1 - ((i + 1:Nat):Int):=by rw [g9 (by omega) (by omega)]; omega
  simp only [aX,c4]
  have qb:decide ((n:Int) - 1 - (i:Int)≥0)=true:=by rw [decide_eq_true_eq]; omega
  simp only [qb]
  have jk:=Jj (n - i) (by omega)
  have sv:=Jj (n - 1 - i) (by omega)
  obtain⟨aj,yL⟩:=El (show n - i≤n by omega) iV
  obtain⟨aa,Fy⟩:=El (show n - 1 - i≤n by omega) iV
  rw [aC _ (by omega),yL] at jk
  rw [aC _ (by omega),Fy] at sv
  obtain⟨bC,dP⟩:=hm.tree.reads _ _ jk
  obtain⟨Gb,wD⟩:=hm.tree.reads _ _ sv
  refine .cy (P:=fun fu=>fu=n - i) (fun _=>⟨_,ox (by omega),rfl⟩) fun fu mR=> ?_
  rw [mR rfl]
  have yH:aE mY (n - i)=some aj:=by rw [aC _ (by omega)]; exact yL
  have JX:aE mY (n - 1 - i)=some aa:=by rw [aC _ (by omega)]; exact Fy
  refine .cy (P:=fun y=>y=(!bC.dC && decide (bC.cU=default))) (fun _=>⟨_,by rw [yH]; exact empty_eq dP,rfl⟩) fun cw hV=> .cond (fun db=> ?_) fun db=> .ret hm
  rw [Bool.true_and,hV rfl,Bool.and_eq_true,Bool.not_eq_true',decide_eq_true_eq] at db
  obtain⟨bE,dt⟩:=db
  have b5:fh (ch v (31 - (n - 1 - i))) < 2:=by cases ch v (31 - (n - 1 - i)) <;> decide
  have YP:dm v (n - i)=dm v (n - 1 - i) ++ [ch v (31 - (n - 1 - i))]:=by rw [← Am,show n - 1 - i + 1=n - i by omega]
  have oQ:bD Gb.cU (fh (ch v (31 - (n - 1 - i))))=some aj:=by
   rw [YP,lM,sv,hl wD,ma] at jk; exact jk
  have km:=o4.1 wD
  refine .idx av (by omega) (.idx av (by omega) (.eq JX (.idx (aU _ (by omega)) b5 (.eq wD (.eq rfl (.ret ?_))))))
  obtain⟨aq,bd,bN⟩:=cut (hp':=df hq aa (.fQ { Gb with cU:=fP Gb.cU (fh (ch v (31 - (n - 1 - i)))) none })) hm.tree sv wD oQ dP (fun x=>by rw [dt,DA]; rfl) bE (xO km) fun x an=>tb an.symm
  obtain⟨hj,c2,dc,gJ⟩:=hm.cell
  have YQ:=hm.own _ _ sv
  refine⟨_,rfl,⟨⟨hj,by rw [DG (ES wD c2)]; exact c2,dc,gJ⟩,aq,fun aW=>by rw [bN]; exact hm.cont aW,hm.keeps.trans (eL.up YQ) fun q _ h=>h,fun aW q kI=> ?_⟩,fun j aH=> ?_⟩
  ·rw [bd] at kI
   split at kI
   ·cases kI
   ·exact hm.own aW q kI
  ·rw [bd,if_neg (fun e=>by have:=congrArg List.length e; simp only [List.length_append,Up,List.length_singleton] at this; omega)]
   exact Jj j (by omega)
 ·obtain⟨hq,rfl,hm,_⟩:=hs
  have qb:decide ((n:Int) - 1 - (n:Int)≥0)=false:=by rw [decide_eq_false_iff_not]; omega
  simp only [qb]
  refine .cy (P:=fun _=>True) (fun ak=>by cases ak) fun _ _=> .cy (P:=fun _=>True) (fun ak=>by cases ak) fun _ _=> .cond (fun ak=>by cases ak) fun _=> .ret hm
 ·obtain⟨lH,c2,dc,gJ⟩:=um.cell
  refine .eq c2 ?_
  rw [gJ]
  obtain⟨KL,sH⟩:=um.tree.reads [] r rfl
  refine .eq (empty_eq sH) (.bind (P:=fun bp=>iH bp t (fun aW=>if aW=dm v n then none else g aW)∧eL hp bp (Own hp t)∧ ∀ q,Own bp t q→Own hp t q) (.cond (fun db=> .eq rfl (.ret ?_)) fun _=> .ret ?_) fun bp ck=> .ret ⟨rfl,ck⟩)
  ·rw [Bool.and_eq_true,Bool.not_eq_true',decide_eq_true_eq] at db
   obtain⟨bE,dt⟩:=db
   have QG:fB (df aX.2.2 t (.jy { lH with cB:=none })) t=some { lH with cB:=none } :=MI (rE.1 c2)
   refine⟨⟨_,QG,dc,⟨fun aW p h=>(by rw [gn] at h; cases h),fun aW cs p h=>(by rw [gn] at h; cases h),fun aW p h=>(by rw [gn] at h; cases h)⟩,fun aW=> ?_⟩,um.keeps.trans (eL.up (own:=Own hp t) (.inl rfl)) fun q _ h=>h,fun q hq=> ?_⟩
   ·rw [j4 gn,← um.cont]
    cases aW with
    | nil=>rw [jO (p:=r) rfl sH,bE]; rfl
    | cons b aW=>rw [j4]; rw [hl sH,dt,DA]; exact gn
   ·rcases hq with rfl | ⟨hj,aW,dJ,ev⟩
    ·exact .inl rfl
    ·rw [QG] at dJ; cases dJ
     rw [gn] at ev; cases ev
  ·refine⟨⟨lH,c2,dc,by rw [gJ]; exact um.tree,fun aW=>by rw [gJ]; exact um.cont aW⟩,um.keeps,fun q hq=> ?_⟩
   rcases hq with rfl | ⟨hj,aW,dJ,ev⟩
   ·exact .inl rfl
   ·rw [c2] at dJ; cases dJ
    rw [gJ] at ev
    exact um.own aW q ev
def jX (hp:aS Cell):Nat→Ref→List Int
 | 0,_=> []
 | _ + 1,none=> []
 | n + 1,some p=>match cD hp p with
   | none=> []
   | some c=>(bif c.dC then [c.hc] else []) ++ (jX hp n (bD c.cU 0) ++ jX hp n (bD c.cU 1))
theorem Ev {hp:aS Cell} {n p:Nat} {c:dx} (h:cD hp p=some c):jX hp (n + 1) (some p)=(bif c.dC then [c.hc] else []) ++ (jX hp n (bD c.cU 0) ++ jX hp n (bD c.cU 1)):=by
 show(match cD hp p with | none=> [] | some c=>_)=_
 rw [h]
theorem rF {hp:aS Cell} {p:Nat} {c:dx} (h:cD hp p=some c) (b:Bool) (aW:List Bool):cont hp (some p) (b :: aW)=cont hp (bD c.cU (fh b)) aW:=by
 unfold cont; rw [hl h]
theorem u9 {hp:aS Cell} :∀ {n:Nat} {r:Ref} {id:Int},id∈jX hp n r→ ∃ aW,cont hp r aW=some id
 | 0,_,_,h=>by cases h
 | _ + 1,none,_,h=>by cases h
 | n + 1,some p,id,h=>by
   cases ak:cD hp p with
   | none=>
     have:jX hp (n + 1) (some p)= []:=by
      show(match cD hp p with | none=> [] | some c=>_)=_
      rw [ak]
     rw [this] at h; cases h
   | some c=>
     rw [Ev ak] at h
     rcases List.mem_append.1 h with h | h
     ·refine⟨[],?_⟩
      rw [jO (p:=p) rfl ak]
      cases hu:c.dC with
      | true=>rw [hu] at h; rw [List.mem_singleton.1 h]; rfl
      | false=>rw [hu] at h; cases h
     ·rcases List.mem_append.1 h with h | h
      ·obtain⟨aW,kI⟩:=u9 h
       exact⟨false :: aW,by rw [rF ak]; exact kI⟩
      ·obtain⟨aW,kI⟩:=u9 h
       exact⟨true :: aW,by rw [rF ak]; exact kI⟩
theorem MU {hp:aS Cell} :∀ {n:Nat} {r:Ref} {id:Int} {aW:List Bool},aW.length < n→cont hp r aW=some id→id∈jX hp n r
 | 0,_,_,_,ao,_=>by omega
 | n + 1,none,id,aW,_,h=>by rw [j4 gn] at h; cases h
 | n + 1,some p,id,aW,ao,h=>by
   cases ak:cD hp p with
   | none=>
     exfalso
     cases aW with
     | nil=>
       unfold cont at h
       have:cK hp (some p) []=some p:=rfl
       rw [this] at h
       simp only [ak] at h; cases h
     | cons b aW=>
       have:cK hp (some p) (b :: aW)=none:=by
        show(match cD hp p with | none=>none | some c=>cK hp (bD c.cU (fh b)) aW)=none
        rw [ak]
       rw [j4 this] at h; cases h
   | some c=>
     rw [Ev ak]
     cases aW with
     | nil=>
       rw [jO (p:=p) rfl ak] at h
       cases hu:c.dC with
       | true=>
         rw [hu] at h
         have:c.hc=id:=by simpa using h
         rw [this]; simp
       | false=>rw [hu] at h; cases h
     | cons b aW=>
       rw [rF ak] at h
       have kh:aW.length < n:=by simp at ao; omega
       have:=MU kh h
       cases b
       ·exact List.mem_append_right _ (List.mem_append_left _ this)
       ·exact List.mem_append_right _ (List.mem_append_right _ this)
theorem Mq {hp:aS Cell} :∀ {n:Nat} {r:Ref},(∀ aW cs id,cont hp r aW=some id→cont hp r cs=some id→aW=cs)→ (jX hp n r).Nodup
 | 0,_,_=>List.nodup_nil
 | _ + 1,none,_=>List.nodup_nil
 | n + 1,some p,h=>by
   cases ak:cD hp p with
   | none=>
     have:jX hp (n + 1) (some p)= []:=by
      show(match cD hp p with | none=> [] | some c=>_)=_
      rw [ak]
     rw [this]; exact List.nodup_nil
   | some c=>
     rw [Ev ak]
     have hb:∀ b,(jX hp n (bD c.cU (fh b))).Nodup:=fun b=>Mq fun aW cs id J ad=>by
      have:=h (b :: aW) (b :: cs) id (by rw [rF ak]; exact J) (by rw [rF ak]; exact ad)
      simpa using this
     rw [List.nodup_append,List.nodup_append]
     refine⟨by cases c.dC <;> simp,⟨hb false,hb true,fun a bj hj jF e=> ?_⟩,fun a bj hj jF e=> ?_⟩
     ·subst e
      obtain⟨aW,J⟩:=u9 bj
      obtain⟨cs,ad⟩:=u9 jF
      have:=h (false :: aW) (true :: cs) a (by rw [rF ak]; exact J) (by rw [rF ak]; exact ad)
      simp at this
     ·subst e
      cases hu:c.dC with
      | false=>rw [hu] at bj; cases bj
      | true=>
        rw [hu] at bj
        have bj:a=c.hc:=List.mem_singleton.1 bj
        have bI:cont hp (some p) []=some a:=by rw [jO (p:=p) rfl ak,hu,bj]; rfl
        rcases List.mem_append.1 jF with J | J
        ·obtain⟨aW,J⟩:=u9 J
         have:=h [] (false :: aW) a bI (by rw [rF ak]; exact J)
         cases this
        ·obtain⟨aW,J⟩:=u9 J
         have:=h [] (true :: aW) a bI (by rw [rF ak]; exact J)
         cases this
theorem MV:∀ {l m:List Int},l.Nodup→ (∀ x∈l,x∈m)→l.length≤m.length
 | [],m,_,_=>Nat.zero_le _
 | x :: l,m,aO,h=>by
   obtain⟨J,ad⟩:=List.nodup_cons.1 aO
   have an:=h x (by simp)
   have:=MV (m:=m.erase x) ad fun y a5=>(List.mem_erase_of_ne fun e=>J (by rw [← e]; exact a5)).2 (h y (by simp [a5]))
   rw [List.length_erase_of_mem an] at this
   have hp:=List.length_pos_of_mem an
   simp only [List.length_cons]; omega
theorem Us (v:ar) (n:Int):bt (Ad v n) (fun _=>True):=by
 unfold Ad
 exact .cond (fun _=> .ret trivial) fun _=> .cond (fun _=> .eq rfl (.ret trivial)) fun _=> .eq rfl (.eq rfl (.ret trivial))
theorem HQ {hp:aS Cell} {t:Nat} {c:fv} (ak:fB hp t=some c):∀ (d f:Nat) (r:Ref) (aP:ar) (bR:Int) (ic:List di),d < f→ (∀ aW p,cK hp r aW=some p→aW.length < d)→ (∀ aW p,cK hp r aW=some p→ ∃ c,cD hp p=some c)→ic.length + (jX hp d r).length≤20000→
 bt (uB f hp (some t) r aP bR ic) (fun o=>o.length=ic.length + (jX hp d r).length)
 | d,0,r,aP,bR,ic,ba,_,_,_=>by omega
 | 0,f + 1,none,aP,bR,ic,ba,hd,aR,ao=>⟨ic,rfl,rfl⟩
 | 0,f + 1,some p,aP,bR,ic,ba,hd,aR,ao=>by have:=hd [] p rfl; simp at this
 | d + 1,f + 1,none,aP,bR,ic,ba,hd,aR,ao=>⟨ic,rfl,rfl⟩
 | d + 1,f + 1,some p,aP,bR,ic,ba,hd,aR,ao=>by
   obtain⟨e,he⟩:=aR [] p rfl
   rw [Ev he] at ao ⊢
   simp only [List.length_append] at ao ⊢
   have oQ:∀ b,(∀ aW q,cK hp (bD e.cU (fh b)) aW=some q→aW.length < d)∧ ∀ aW q,cK hp (bD e.cU (fh b)) aW=some q→ ∃ c,cD hp q=some c:=fun b=>⟨fun aW q hq=>by
    have:=hd (b :: aW) q (by rw [hl he]; exact hq)
    simp at this; omega,fun aW q hq=>aR (b :: aW) q (by rw [hl he]; exact hq)⟩
   show bt (cond (some p:Ref).isNone (some ic) _) _
   refine .cond (fun ak=>by cases ak) fun _=> ?_
   refine .bind (P:=fun y=>y.length=ic.length + (bif e.dC then [e.hc] else []).length) ?_ fun aG bo=> ?_
   ·unfold C8
    refine .eq rfl (.eq he ?_)
    cases hu:e.dC with
    | true=>
      rw [hu] at ao
      simp only [cond_true,List.length_singleton] at ao
      refine .eq (a:=ic ++ [{ cI:=aP,u1:=bR,bX:=e.hc }]) ?_ (.ret (by simp))
      show(hA 32 ic _).bind _=_
      rw [j2 _ _ (by simp; omega) (by omega)]; rfl
    | false=>exact .eq rfl (.ret (by simp))
   ·refine .eq rfl (.eq he (.bind (HQ ak d f _ aP (bq (bR + 1)) aG (by omega) (oQ false).1 (oQ false).2 (by rw [bo]; show _ + _ + (jX hp d (bD e.cU 0)).length≤_; omega)) fun aJ cr=> ?_))
    have cr:aJ.length=aG.length + (jX hp d (bD e.cU 0)).length:=cr
    refine .eq rfl (.eq rfl (.eq ak (.bind (Us _ _) fun bn _=> .eq rfl (.bind (HQ ak d f _ _ (bq (bR + 1)) aJ (by omega) (oQ true).1 (oQ true).2 (by rw [cr,bo]; show _ + _ + _ + (jX hp d (bD e.cU 1)).length≤_; omega)) fun dg hW=> .ret ?_))))
    have hW:dg.length=aJ.length + (jX hp d (bD e.cU 1)).length:=hW
    rw [hW,cr,bo]; omega
theorem WH {hp:aS Cell} {t:Nat} {g:List Bool→Option Int} (h:iH hp t g) (au:∀ aW cs id,g aW=some id→g cs=some id→aW=cs) (m:List Int) (hm:∀ aW id,g aW=some id→id∈m) (ao:m.length≤20000):bt (xx hp (some t)) (fun r=>r=0→ ∀ aW,g aW=none):=by
 obtain⟨c,ak,hb,bL,bs⟩:=h.ok
 have aO:(jX hp 33 c.cB).Nodup:=Mq fun aW cs id J ad=>au aW cs id (by rw [← bs]; exact J) (by rw [← bs]; exact ad)
 have hle:(jX hp 33 c.cB).length≤m.length:=MV aO fun x an=>by
  obtain⟨aW,kI⟩:=u9 an
  exact hm aW x (by rw [← bs]; exact kI)
 unfold xx Dw C0
 refine .bind (P:=fun y=>y.length=(jX hp 33 c.cB).length) (.bind (P:=fun y=>y.length=(jX hp 33 c.cB).length) (.bind (P:=fun y=>y.length=(jX hp 33 c.cB).length) (.cond (fun _=> .eq rfl (.eq ak ((show bt (Gd hp (some t) c.cB default 0 []) _ from HQ ak 33 eU c.cB default 0 [] (by unfold eU; omega) (fun aW p hp=>by have:=bL.dep aW p hp; omega) bL.reads (by simp; omega)).bind fun y a5=> .ret (by simpa using a5)))) fun ak=>by cases ak) fun y a5=> .ret a5) fun y a5=> .ret a5) fun y a5=> .ret fun bI aW=> ?_
 have bI:(jX hp 33 c.cB).length=0:=by rw [← a5]; have:(y.length:Int)=0:=bI; omega
 cases abF:g aW with
 | none=>rfl
 | some id=>
   have Kl:cont hp c.cB aW=some id:=by rw [bs]; exact abF
   have hlen:aW.length < 33:=by
    cases ba:cK hp c.cB aW with
    | none=>rw [j4 ba] at Kl; cases Kl
    | some p=>have:=bL.dep aW p ba; omega
   have:=MU hlen Kl
   rw [List.eq_nil_of_length_eq_zero bI] at this; cases this
theorem U7 {key:cH} {m:bV} (hm:nY key.cN (gU key) m) (hp:m.fF=true) (c6:m.fL≠default) (v:ar):
 h9 key.cN (gU key) m { cV:=(v.cV &&& ~~~m.fL.cV) ||| m.cI.cV,bG:=(v.bG &&& ~~~m.fL.bG) ||| m.cI.bG } =true:=by
 have aC:key.cN=3:=Classical.byContradiction fun h=>c6 (hm.gk h)
 unfold h9
 rw [if_neg (by simp [hp]),if_neg (by omega),if_neg (by omega),if_pos aC,decide_eq_true_eq]
 refine A3 fun j aH=> ?_
 have bL:=hm.abo aC j aH
 rw [vg]
 unfold ch at *
 split
 ·rename_i FR
  simp only [FR,if_true] at bL
  simp only [BitVec.getLsbD_or,BitVec.getLsbD_and,BitVec.getLsbD_not,FR,decide_true,Bool.true_and]
  cases a0:m.cI.bG.getLsbD j <;> cases ay:m.fL.bG.getLsbD j <;> simp_all
 ·rename_i FR
  simp only [FR,if_false] at bL
  have aaf:j - 64 < 64:=by omega
  simp only [BitVec.getLsbD_or,BitVec.getLsbD_and,BitVec.getLsbD_not,aaf,decide_true,Bool.true_and]
  cases a0:m.cI.cV.getLsbD (j - 64) <;> cases ay:m.fL.cV.getLsbD (j - 64) <;> simp_all
theorem VV {key:cH} (ay:kX key) {m:bV} (hm:nY key.cN (gU key) m) (hp:m.fF=true) (bI:0 < m.ez) (x:BitVec 64):
 h9 key.cN (gU key) m { (default:ar) with bG:=m.cI.bG ||| (x &&& (((1#64) <<< (BitVec.ofInt 64 (bq (32 - m.ez))).toNat) - (1#64))) } =true:=by
 have ad:key.cN=2:=Classical.byContradiction fun h=>by have:=hm.J7 h; omega
 have Cz:=hm.pre.2
 obtain⟨ade,acS,ba,_,_,_,_,cX⟩:=ay
 have abG:gU key=32:=by rw [IQ ba,cX ad]; rfl
 obtain⟨n,aO⟩:=Int.eq_ofNat_of_zero_le (show 0≤32 - m.ez by omega)
 rw [g9 (by omega) (by omega),aO,pJ (by omega)]
 unfold h9
 rw [if_neg (by simp [hp]),if_neg (by omega),if_pos ad,List.all_eq_true]
 intro j aH
 cases ao:lead (gU key) m.ez j
 ·rfl
 ·unfold lead at ao
  rw [abG] at ao
  simp only [Bool.and_eq_true,decide_eq_true_eq] at ao
  have aag:j < 64:=by omega
  have p9: ¬ j < n:=by omega
  unfold ch
  simp only [aag,if_true,BitVec.getLsbD_or,BitVec.getLsbD_and]
  rw [xN (by omega),decide_eq_false p9]
  simp
theorem VW {key:cH} (ay:kX key) {m:bV} (hm:nY key.cN (gU key) m) (hp:m.fF=true) (c6:m.fL=default) (bI: ¬ (0 < m.ez∧m.ez≤32)):
 h9 key.cN (gU key) m m.cI=true:=by
 obtain⟨_,_,_,a8,fu,_⟩:=ay
 have ad:key.cN≠2:=fun h=>by have:=hm.J6 h hp; have:=hm.pre.2; omega
 have aC:key.cN≠3:=fun h=>hm.abp h hp c6
 unfold h9
 rw [if_neg (by simp [hp])]
 by_cases J:key.cN=1
 ·rw [if_pos J]; simp
 ·rw [if_neg J,if_neg ad,if_neg aC]
  obtain⟨c2,dc⟩:=hm.ql (by omega) hp
  rw [td,Wx c2 dc]; rfl
theorem Ut {s:a3} (h:dk s) {k:Nat} (ay:k < 4) {e:bu} (he:jf s k e) (p:Vector ar 4):bt (z4 e p) (fun q=>mt s k q e=true):=by
 obtain⟨t1,⟨t2,t3⟩,t4,_⟩:=h.kl ay
 have hlen:=he.len
 unfold z4
 refine bt.loop e.bZ.length (fun i st=> ∃ q,st=((i:Int),q)∧ ∀ c,c < i→h9 (aE (aE s.b7 k).cl c).cN (gU (aE (aE s.b7 k).cl c)) (aE e.bZ c) (bD q c)=true) (by omega) ⟨p,rfl,fun c ak=>by omega⟩ (fun i st au hs=> ?_) (fun st hs=> ?_)
 ·obtain⟨q,rfl,hq⟩:=hs
  have ql:i < 4:=by omega
  have jE:kX (aE (aE s.b7 k).cl i):=t4 _ (by rw [ew _ (show i < (aE s.b7 k).cl.length by omega)]; exact List.getElem_mem _)
  have hm:=he.ui i (by omega)
  refine .cond (fun _=> ?_) (fun ak=>by simp at ak; omega)
  refine .idx rfl au ?_
  have kd:∀ v,h9 (aE (aE s.b7 k).cl i).cN (gU (aE (aE s.b7 k).cl i)) (aE e.bZ i) v=true→ ∀ c,c < i + 1→h9 (aE (aE s.b7 k).cl c).cN (gU (aE (aE s.b7 k).cl c)) (aE e.bZ c) (bD (fP q i v) c)=true:=fun v a0 c ak=>by
   rw [qG _ _ ql]
   by_cases yU:c=i
   ·subst yU; rw [if_pos rfl]; exact a0
   ·rw [if_neg yU]; exact hq c (by omega)
  refine .cond (fun ak=> .ret ⟨q,by rw [gb (by omega)],fun c jF=> ?_⟩) fun ak=> ?_
  ·have abH:(aE e.bZ i).fF=false:=by
    rw [show decide ((i:Int)≥4)=false by simp; omega] at ak
    simpa using ak
   by_cases yU:c=i
   ·subst yU; unfold h9; rw [if_pos abH]
   ·exact hq c (by omega)
  have CB:(aE e.bZ i).fF=true:=by
   rw [show decide ((i:Int)≥4)=false by simp; omega] at ak
   simpa using ak
  refine .bind (P:=fun mC=> ∃ v,mC=fP q i v∧h9 (aE (aE s.b7 k).cl i).cN (gU (aE (aE s.b7 k).cl i)) (aE e.bZ i) v=true) ?_ fun mC iA=> ?_
  ·refine .cond (fun ck=> ?_) fun ck=> .eq rfl (.bind (P:=fun mC=> ∃ v,mC=fP q i v∧h9 (aE (aE s.b7 k).cl i).cN (gU (aE (aE s.b7 k).cl i)) (aE e.bZ i) v=true) (.cond (fun db=> ?_) fun db=> ?_) fun mC iA=> .ret iA)
   ·refine .idx rfl ql (.eq rfl (.idx rfl ql (.eq rfl (.idx rfl ql (.idx rfl ql (.eq rfl (.ret ⟨_,?_,U7 hm CB (by simpa using ck) (bD q i)⟩)))))))
    refine DZ fun c ak=> ?_
    simp only [qG _ _ ql]
    split <;> simp
   ·simp only [Bool.and_eq_true,decide_eq_true_eq] at db
    exact .idx rfl ql (.eq rfl (.eq rfl (.idx rfl ql (.eq rfl (.ret ⟨_,rfl,VV jE hm CB db.1 _⟩)))))
   ·refine .idx rfl ql (.ret ⟨_,rfl,VW jE hm CB (by simpa using ck) fun b3=> ?_⟩)
    rw [decide_eq_true b3.1,decide_eq_true b3.2] at db; cases db
  ·obtain⟨v,rfl,a0⟩:=iA
   exact .ret ⟨fP q i v,by rw [gb (by omega)],kd v a0⟩
 ·obtain⟨q,rfl,hq⟩:=hs
  refine⟨_,by simp; rfl,.ret ?_⟩
  unfold mt
  exact N0 hq hlen.symm
theorem U8 (x:cu) (n:Int) (ao:x.b1.length≤1000):bt (C5 x n) (fun r=>(r= -1∧iJ x.b1 n=false)∨ ∃ i:Nat,i < x.b1.length∧r=i∧ (aE x.b1 i).cd=n∧iJ x.b1 n=true∧ ∀ j,j < i→ (aE x.b1 j).cd≠n):=find_eq x n ao
theorem VX {l:List aA} {n:Int} {i:Nat} (aO:l.Pairwise fun a c=>a.cd≠c.cd) (au:i < l.length) (h:(aE l i).cd=n):
 l.take i ++ l.drop (i + 1)=l.filter (fun c=>c.cd !=n):=by
 rw [ew _ au] at h
 have FN:l=l.take i ++ l[i] :: l.drop (i + 1):=by rw [List.getElem_cons_drop,List.take_append_drop]
 rw [FN,List.pairwise_append] at aO
 obtain⟨J,ad,aC⟩:=aO
 obtain⟨aU,a1⟩:=List.pairwise_cons.1 ad
 conv=>rhs; rw [FN]
 rw [List.filter_append,List.filter_cons_of_neg (by simp [h])]
 congr 1
 ·exact(List.filter_eq_self.2 fun c ak=>by have:=aC c ak l[i] List.mem_cons_self; rw [h] at this; simpa using this).symm
 ·exact(List.filter_eq_self.2 fun c ak=>by have:=aU c ak; rw [h] at this; simp; exact fun e=>this e.symm).symm
theorem iW.filter {s:a3} {k:Nat} {l:List aA} (h:iW s k l) (q:aA→Bool):iW s k (l.filter q) where
 ok i au:=h.ok i (List.mem_filter.1 au).1
 num:=h.num.sublist List.filter_sublist
 len:=Nat.le_trans (List.length_filter_le _ _) h.len
theorem Uu {s:a3} {k:Nat} {l:List aA} (ao:iW s k l) (n:Int):
 zi (nZ s k l) n=some (iJ l n,nZ s k (l.filter fun c=>c.cd !=n)):=by
 refine bt.get ?_
 unfold zi
 obtain⟨iE,gx⟩:=ao.eR
 refine(U8 (nZ s k l) n (by show(eR _ l).length≤1000; omega)).bind fun aG J=> ?_
 rcases J with⟨rfl,ad⟩ | ⟨j,ad,rfl,aC,aU,a1⟩
 ·have kj:iJ l n=false:=by rw [← ad]; exact Ee.symm
  refine .cond (fun _=> .ret ?_) fun ak=>by simp at ak
  rw [kj,List.filter_eq_self.2 fun c ak=>by simpa using Nm kj c ak]
 ·have uj:iJ l n=true:=by rw [← aU]; exact Ee.symm
  refine .cond (fun ak=>by simp at ak; omega) fun _=> ?_
  have aH:j < (eR (e3 s k) l).length:=ad
  refine .eq (a:=eR (e3 s k) (l.filter fun c=>c.cd !=n)) ?_ (.ret ?_)
  ·show BA (eR (e3 s k) l) _ _=_
   unfold BA
   rw [gb (by omega),if_pos ⟨by omega,by omega,by omega⟩]
   have abI:(eR (e3 s k) l).Pairwise fun a c=>a.cd≠c.cd:=((HI l).symm.pairwise_iff fun b3=>fun e=>b3 e.symm).1 ao.num
   rw [← Ui (rV s k) ao.wR,← VX abI aH aC]
   simp
  ·rw [uj]; rfl
def jz (l:List aA) (e:bu):List aA:=l.filter fun c=> !iO c.bA e
theorem ov {l:List aA} {e:bu} {c:aA} :c∈jz l e↔c∈l∧iO c.bA e=false:=by
 unfold jz; rw [List.mem_filter]; simp
theorem gy.jz {s:a3} {k:Nat} {l:List aA} (h:gy s k l) (e:bu):gy s k (Go.Proofs.YtmnggbjcnoffeaaGreat.jz l e):=
 ⟨h.ok.filter _,h.key.sublist List.filter_sublist⟩
theorem D1 {s:a3} {k:Nat} {l:List aA} (h:gy s k l) {e:bu} {i:aA} (au:i∈l) (ay:iO i.bA e=true):jz l e=l.filter fun c=>c.cd !=i.cd:=by
 unfold jz
 refine List.filter_congr fun c ak=> ?_
 by_cases av:c=i
 ·rw [av,ay]; simp
 ·have J:iO c.bA e=false:=by
   rw [Bool.eq_false_iff]; intro ad
   exact av (h.uniq ak au (ML ad (by rw [AQ]; exact ay)))
  have ad:c.cd≠i.cd:=fun ad=>av (h.ok.uniq ak au ad)
  rw [J]; simp [ad]
theorem aah {s:a3} (h:dk s) {hp:aS Cell} {q:Nat} {l:List aA} {own:Nat→Prop} (hq:vv s hp q l own) (ao:gy s 0 l) {i:aA} (au:i∈l):
 bt (zt hp ⟨some q⟩ i) (fun hp'=>vv s hp' q (jz l i.bA) own∧eL hp hp' own):=by
 obtain⟨m,em,J,ad,aC,aU,a1,jU⟩:=hq.ok
 have gR:=(ao.ok.ok i au).e9
 have bs:dM em (eO i.bA)=some i.cd:=(a1 _ _).2 ⟨i,au,rfl,rfl⟩
 unfold zt De s4
 refine .eq (Ej (gR.Fe h (by decide)).1) ?_
 refine .eq (a:=(true,df hp m (Cell.n0 (hR em (eO i.bA))))) ?_ (.ret ?_)
 ·show((mI hp q).bind _).bind _=_
  rw [J]
  show((lQ hp m).bind _).bind _=_
  rw [ad]
  show cond (!(dM em (eO i.bA)).isSome) _ _=_
  rw [bs]
  show(mI hp q).bind _=_
  rw [J]
  show(lQ hp m).bind _=_
  rw [ad]; rfl
 have CD:q≠m:=fun e=>by
  subst e
  have:=tn J
  rw [qO ad] at this; cases this
 refine⟨⟨m,_,by rw [GU (nH CD.symm)]; exact J,MO (qO ad),aC,aU,fun cQ n=> ?_,jU.del⟩,.up aU⟩
 rw [Ax jU]
 by_cases gS:cQ=eO i.bA
 ·rw [if_pos gS]
  refine⟨fun e=>(by cases e),fun⟨c,ak,bk,cT⟩=> ?_⟩
  obtain⟨aq,bd⟩:=ov.1 ak
  rw [(CC h (ao.ok.ok c aq).e9 gR).2 (bk.trans gS)] at bd; cases bd
 ·rw [if_neg gS,a1]
  constructor
  ·rintro ⟨c,ak,bk,cT⟩
   refine⟨c,ov.2 ⟨ak,?_⟩,bk,cT⟩
   rw [Bool.eq_false_iff]; intro fa
   exact gS (by rw [← bk]; exact(CC h (ao.ok.ok c ak).e9 gR).1 fa)
  ·rintro ⟨c,ak,bk⟩
   exact⟨c,(ov.1 ak).1,bk⟩
theorem aai {s:a3} (h:dk s) {hp:aS Cell} {m:Nat} {l:List aA} {own:Nat→Prop} (hq:me s hp m l own) (ao:gy s 1 l) {i:aA} (au:i∈l):
 bt (zm hp ⟨0,32,⟨some m⟩⟩ i) (fun hp'=>me s hp' m (jz l i.bA) own∧eL hp hp' own):=by
 obtain⟨em,l2,ad,aC,aU,a1,jU⟩:=hq.ok
 have gR:=(ao.ok.ok i au).e9
 have gI:=tX h gR
 have bL:∃ t,dM em (ga (eO i.bA))=some (some t):=by
  cases bs:dM em (ga (eO i.bA)) with
  | none=>exact absurd rfl (aU _ bs i au)
  | some r=>obtain⟨t,g,rfl,_⟩:=aC _ _ bs; exact⟨t,rfl⟩
 obtain⟨t,bL⟩:=bL
 obtain⟨fp,g,e,aq,bd,bN⟩:=aC _ _ bL
 cases e
 obtain⟨n,aO⟩:=Int.eq_ofNat_of_zero_le gI.pre.1
 have BN:n≤32:=by have:=gI.pre.2; omega
 have tH:=Hp gI
 have hp':dm (aE i.bA.bZ 0).cI n=jl i.bA:=by unfold jl; rw [aO]; rfl
 have abJ:g (jl i.bA)=some i.cd:=(bN _ _).2 ⟨i,au,rfl,rfl,rfl⟩
 have QH:∀ c∈l,ga (eO c.bA)=ga (eO i.bA)→ (iO c.bA i.bA=false↔jl c.bA≠jl i.bA):=fun c ak an=>by
  rw [Bool.eq_false_iff,ne_eq,yX h (ao.ok.ok c ak).e9 gR]
  exact⟨fun J ad=>J ⟨an,ad⟩,fun J ad=>J ad.2⟩
 have k6:∀ c∈l,ga (eO c.bA)≠ga (eO i.bA)→iO c.bA i.bA=false:=fun c ak an=>by
  rw [Bool.eq_false_iff,ne_eq,yX h (ao.ok.ok c ak).e9 gR]
  exact fun J=>an J.1
 unfold zm
 refine .eq (HN h gR _) (.eq rfl (.eq l2 (.eq rfl ?_)))
 simp only [bL]
 rw [aO] at tH ⊢
 refine(show bt (xl hp (some t) (aE i.bA.bZ 0).cI (n:Int)) _ from Ur aq BN tH (by rw [hp']; exact abJ)).bind fun aJ aR=> ?_
 obtain⟨_,iE,gx,oe⟩:=aR
 rw [hp'] at iE
 obtain⟨abK,cO⟩:=aJ
 simp only at iE gx oe ⊢
 have yW:∀ q,Own hp t q→q≠m:=fun q Kg e=>by
  have:=mc l2
  rw [← e] at this
  rcases aq.Et Kg with⟨c,ak⟩ | ⟨c,ak⟩ <;> rw [ak] at this <;> cases this
 have lZ:pat cO m=pat hp m:=gx.rest m (kS (mc l2)) fun hq=>yW m hq rfl
 have Jk:jv cO m=some em:=by rw [DH lZ]; exact l2
 have BO:∀ aW sQ,(if aW=jl i.bA then none else g aW)=some sQ↔ ∃ c∈jz l i.bA,ga (eO c.bA)=ga (eO i.bA)∧jl c.bA=aW∧c.cd=sQ:=fun aW sQ=>by
  by_cases kI:aW=jl i.bA
  ·rw [if_pos kI]
   refine⟨fun e=>(by cases e),fun⟨c,ak,bk,cT,_⟩=> ?_⟩
   obtain⟨c2,dc⟩:=ov.1 ak
   exact absurd (cT.trans kI) ((QH c c2 bk).1 dc)
  ·rw [if_neg kI,bN]
   constructor
   ·rintro ⟨c,ak,bk,cT,fa⟩
    exact⟨c,ov.2 ⟨ak,(QH c ak bk).2 fun e=>kI (cT.symm.trans e)⟩,bk,cT,fa⟩
   ·rintro ⟨c,ak,bk⟩
    exact⟨c,(ov.1 ak).1,bk⟩
 have qR:∀ cQ fp,cQ≠ga (eO i.bA)→dM em cQ=some (some fp)→ ∃ eF,iH hp fp eF∧iH cO fp eF∧ (∀ q,Own hp fp q→own q)∧ (∀ q,Own cO fp q↔Own hp fp q)∧ ∀ aW n,eF aW=some n↔ ∃ c∈jz l i.bA,ga (eO c.bA)=cQ∧jl c.bA=aW∧c.cd=n:=fun cQ fp c6 aR=>by
  obtain⟨abB,eF,e,c2,dc,gJ⟩:=aC cQ _ aR
  cases e
  obtain⟨dJ,ev⟩:=c2.congr (hp':=cO) fun q hq=>gx.rest q (c2.vt hq) fun iA=>a1 _ _ _ _ bL aR c6.symm q iA hq
  refine⟨eF,c2,dJ,dc,ev,fun aW n=> ?_⟩
  rw [gJ]
  constructor
  ·rintro ⟨c,ak,bk,cT⟩
   exact⟨c,ov.2 ⟨ak,k6 c ak (by rw [bk]; exact c6)⟩,bk,cT⟩
  ·rintro ⟨c,ak,bk⟩
   exact⟨c,(ov.1 ak).1,bk⟩
 have cX:eL hp cO own:=⟨gx.keys,fun q hq e8=>gx.rest q hq fun iA=>e8 (bd q iA)⟩
 have de:me s cO m (jz l i.bA) own:=by
  refine⟨em,Jk,ad,fun cQ j1 iL=> ?_,fun cQ gS c ak=>aU cQ gS c (ov.1 ak).1,fun cQ jG t1 t2 iX jW c6 q jk n7=> ?_,jU⟩
  ·by_cases gS:cQ=ga (eO i.bA)
   ·subst gS
    rw [bL] at iL; cases iL
    exact⟨t,_,rfl,iE,fun q hq=>bd q (oe q hq),BO⟩
   ·obtain⟨fp,eF,e,_⟩:=aC cQ j1 iL
    subst e
    obtain⟨wT,c2,dc,gJ,jH,pC⟩:=qR cQ fp gS iL
    exact⟨fp,wT,rfl,dc,fun q hq=>gJ q ((jH q).1 hq),pC⟩
  ·have eu:∀ cQ t1,dM em cQ=some (some t1)→ ∀ q,Own cO t1 q→Own hp t1 q:=fun cQ t1 iX q jk=>by
    by_cases av:cQ=ga (eO i.bA)
    ·subst av
     rw [bL] at iX; cases iX
     exact oe q jk
    ·obtain⟨_,_,_,_,jH,_⟩:=qR cQ t1 av iX
     exact(jH q).1 jk
   exact a1 _ _ _ _ iX jW c6 q (eu cQ t1 iX q jk) (eu jG t2 jW q n7)
 refine .eq Jk (.eq rfl ?_)
 simp only [bL]
 refine(show bt (xx cO (some t)) _ from WH iE (fun aW cs id J ad=> ?_) (l.map (·.cd)) (fun aW id J=> ?_) (by rw [List.length_map]; have:=ao.ok.len; omega)).bind fun bh bk=> ?_
 ·obtain⟨c,ak,_,dJ,ev⟩:=(BO _ _).1 J
  obtain⟨d,hd,_,d1,d2⟩:=(BO _ _).1 ad
  have:=ao.ok.uniq (ov.1 ak).1 (ov.1 hd).1 (ev.trans d2.symm)
  rw [← dJ,← d1,this]
 ·obtain⟨c,ak,_,dJ,ev⟩:=(BO _ _).1 J
  exact List.mem_map.2 ⟨c,(ov.1 ak).1,ev⟩
 refine .bind (P:=fun hp'=>me s hp' m (jz l i.bA) own∧eL hp hp' own) (.cond (fun db=> .eq rfl (.ret ?_)) fun _=> .ret ⟨de,cX⟩) fun bp ck=> .ret ck
 have bk:=bk (by simpa using db)
 have Fg:=mc Jk
 have Jl:∀ fp eF,iH cO fp eF→iH (df cO m (Cell.lS (hR em (ga (eO i.bA))))) fp eF∧ ∀ q,Own (df cO m (Cell.lS (hR em (ga (eO i.bA))))) fp q↔Own cO fp q:=fun fp eF wS=>wS.congr fun q px=>nH fun e=>by
  rw [e] at Fg
  rcases wS.Et px with⟨c,ak⟩ | ⟨c,ak⟩ <;> rw [ak] at Fg <;> cases Fg
 refine⟨⟨_,MP Fg,ad,fun cQ j1 iL=> ?_,fun cQ gS c ak=> ?_,fun cQ jG t1 t2 iX jW c6 q jk n7=> ?_,jU.del⟩,cX.trans (eL.up ad) fun q _ hq=>hq⟩
 ·rw [Ax jU] at iL
  split at iL
  ·cases iL
  ·rename_i gS
   obtain⟨fp,eF,e,_⟩:=aC cQ j1 iL
   subst e
   obtain⟨wT,c2,dc,gJ,jH,pC⟩:=qR cQ fp gS iL
   obtain⟨dJ,ev⟩:=Jl fp wT dc
   exact⟨fp,wT,rfl,dJ,fun q hq=>gJ q ((jH q).1 ((ev q).1 hq)),pC⟩
 ·rw [Ax jU] at gS
  split at gS
  ·rename_i e
   intro an
   have:=(BO _ _).2 ⟨c,ak,an.trans e,rfl,rfl⟩
   rw [bk] at this; cases this
  ·exact aU cQ gS c (ov.1 ak).1
 ·rw [Ax jU] at iX jW
  split at iX
  ·cases iX
  split at jW
  ·cases jW
  rename_i av aX
  obtain⟨abw,c2,dc,gJ,jH,_⟩:=qR cQ t1 av iX
  obtain⟨abx,dJ,ev,hH,F7,_⟩:=qR jG t2 aX jW
  exact a1 _ _ _ _ iX jW c6 q ((jH q).1 (((Jl t1 _ dc).2 q).1 jk)) ((F7 q).1 (((Jl t2 _ ev).2 q).1 n7))
theorem srem {s:a3} {k:Nat} {hp:aS Cell} {q:Nat} {l:List aA} {own:Nat→Prop} (hq:vw s k hp q l own) (ao:gy s k l) {i:aA} (au:i∈l):
 dH (zu hp ⟨some q⟩ i) (fun hp'=>vw s k hp' q (jz l i.bA) own∧eL hp hp' own):=by
 obtain⟨key,cap,J,ad⟩:=hq.ok
 unfold zu
 refine .eq rfl (.eq J (.eq (Uu ao.ok _) (.any fun az=> .eq rfl (.ret ?_))))
 rw [D1 ao au (Ei _)]
 exact⟨⟨az.1,az.2,MQ (tr J),ad⟩,.up ad⟩
theorem aaj {s:a3} (h:dk s) {k:Nat} {hp:aS Cell} {f:gm} {l:List aA} {own:Nat→Prop} (hq:pf s k hp f l own) (ao:gy s k l) {i:aA} (au:i∈l):
 dH (Gk hp f i) (fun hp'=>pf s k hp' f (jz l i.bA) own∧eL hp hp' own):=by
 rcases hq with⟨rfl,q,rfl,hq⟩ | ⟨rfl,m,rfl,hq⟩ | ⟨cX,q,rfl,hq⟩
 ·exact dH.of ((aah h hq ao au).mono fun hp' aR=>⟨.inl ⟨rfl,q,rfl,aR.1⟩,aR.2⟩)
 ·exact dH.of ((aai h hq ao au).mono fun hp' aR=>⟨.inr (.inl ⟨rfl,m,rfl,aR.1⟩),aR.2⟩)
 ·exact(srem hq ao au).mono fun hp' aR=>⟨.inr (.inr ⟨cX,q,rfl,aR.1⟩),aR.2⟩
theorem LK {α β:Type} [DecidableEq α]:∀ {l:List (α × β)} {x:α},nC l→hR l x=l.filter fun a=>decide (a.1≠x)
 | [],_,_=>rfl
 | (k,w) :: r,x,h=>by
   obtain⟨J,ad⟩:=List.pairwise_cons.1 h
   unfold hR
   by_cases e:x=k
   ·rw [if_pos e,List.filter_cons_of_neg (by simp [e])]
    exact(List.filter_eq_self.2 fun a bj=>by simpa using fun e'=>J a bj (by rw [← e,e'])).symm
   ·rw [if_neg e,List.filter_cons_of_pos (by simpa using fun e'=>e e'.symm),LK ad]
theorem sj.F0 {s:a3} {k:Nat} {em:List (Int × aA)} {l:List aA} (h:sj em l) (ao:iW s k l):nC em:=by
 refine(h.pairwise_iff fun b3=>Ne.symm b3).2 ?_
 rw [List.pairwise_map]
 exact ao.num.imp fun b3=>b3
theorem Uv {s:a3} (h:dk s) {k:Nat} (ay:k < 4) {hp:aS Cell} {p:Nat} {l:List aA} {own:Nat→Prop} (an:iS s k hp p l own) {e:bu} (he:jf s k e):
 dH (zE hp (some p) e) (fun r=>(r.1,r.2.1)=yV (g6 l e)∧iS s k r.2.2 p (jz l e) own∧eL hp r.2.2 own):=by
 obtain⟨f,m,em,J,ad,aC,aU,a1,bk⟩:=an.cell
 have hm:=qQ ad
 have hp':=lN J
 have lZ:p≠m:=fun e=>by rw [e,hm] at hp'; cases hp'
 unfold zE
 refine .eq (VR h ay an he) ?_
 refine .bind (P:=fun bp=>iS s k bp p (jz l e) own∧eL hp bp own) (.cond (fun ak=> ?_) fun ak=> .ret ?_) fun bp ck=> .ret ⟨rfl,ck⟩
 ·cases ba:g6 l e with
  | none=>rw [ba] at ak; cases ak
  | some i=>
    obtain⟨au,ps⟩:=xP ba
    have abL:jz l i.bA=jz l e:=by
     rw [D1 an.kP au (Ei _),D1 an.kP au ps]
    refine .eq rfl (.eq J (.bind (aaj h bk an.kP au) fun cO aR=> ?_))
    obtain⟨iE,gx⟩:=aR
    have iE:pf s k cO f (jz l i.bA) (fun q=>own q∧q≠m∧q≠p):=iE
    rw [abL] at iE
    show dH (ax.bind (ax.of (hz cO p)) fun cf=>ax.bind (ax.of cf.ks.p) fun b2=>ax.bind (ax.of (kW cO b2)) fun eH=>ax.bind (ax.of (some (df cO b2 (Cell.kb (hR eH i.cd))))) fun cS=>ax.ret cS) _
    have c2:pat cO p=some (.nf ⟨kp k,(hv s k:Int),f,⟨some m⟩⟩):=by rw [gx.rest p (kS hp') (fun hq=>hq.2.2 rfl)]; exact hp'
    have dc:pat cO m=some (.kb em):=by rw [gx.rest m (kS hm) (fun hq=>hq.2.1 rfl)]; exact hm
    refine .eq (by unfold hz; rw [c2]) (.eq rfl (.eq (by unfold kW; rw [dc]) (.eq rfl (.ret ?_))))
    have abM:eL hp cO own:=⟨gx.keys,fun q hq e8=>gx.rest q hq fun h=>e8 h.1⟩
    have jE:eL hp (df cO m (Cell.kb (hR em i.cd))) own:=abM.trans (eL.up (own:=own) aU) fun q _ hq=>hq
    refine⟨⟨an.kP.jz e,⟨f,m,_,by unfold hz; rw [nH lZ.symm,c2],U6 dc,aC,aU,?_,iE.congr (fun q _ hq=>hq) fun q hq=>nH hq.2.1.symm⟩,fun q hq=>jE.keys q (an.uk q hq)⟩,jE⟩
    unfold sj
    rw [LK (a1.F0 an.kP.ok),D1 an.kP au ps]
    refine(a1.filter _).trans ?_
    rw [List.filter_map]
    have:((fun a:Int × aA=>decide (a.1≠i.cd)) ∘ fun c:aA=>(c.cd,c))=fun c=>c.cd !=i.cd:=by
     funext c
     show decide (c.cd≠i.cd)=_
     by_cases e:c.cd=i.cd <;> simp [e]
    rw [this]
 ·have ba:g6 l e=none:=by
   cases ba:g6 l e with
   | none=>rfl
   | some i=>rw [ba] at ak; cases ak
  have:jz l e=l:=by
   unfold jz
   exact List.filter_eq_self.2 fun c ak=>by rw [u6 ba c ak]; rfl
  rw [this]
  exact⟨an,.refl⟩
theorem _root_.Gv.dH.next {β:Type} {n:Nat} {vis:List Nat} {k:Option Nat→ax β} {P:β→Prop} (h:∀ j,w1 n vis j→dH (k j) P):dH (ax.bind (ax.next n vis) k) P:=fun Q hq j aH=>h j aH Q hq
structure sI (n:Nat) (vis:List Nat):Prop where
 one:vis.Nodup
 lt:∀ q∈vis,q < n
theorem sI.more {n:Nat} {vis:List Nat} {q:Nat} (h:sI n vis) (hq:q < n∧q ∉ vis):sI n (vis ++ [q]):=
 ⟨by rw [List.nodup_append]; exact⟨h.one,by simp,fun a bj b hb e=>by rw [List.mem_singleton.1 hb] at e; exact hq.2 (e ▸ bj)⟩,fun a bj=>by
  rcases List.mem_append.1 bj with bj | bj
  ·exact h.lt a bj
  ·rw [List.mem_singleton.1 bj]; exact hq.1⟩
theorem sI.perm {n:Nat} {vis:List Nat} (h:sI n vis) (bj:∀ j,j < n→j∈vis):vis.Perm (List.range n):=
 (List.perm_ext_iff_of_nodup h.one List.nodup_range).2 fun a=>⟨fun J=>List.mem_range.2 (h.lt a J),fun J=>bj a (List.mem_range.1 J)⟩
theorem sI.full {n:Nat} {vis:List Nat} (h:sI n vis) (ao:vis.length=n) {q:Nat} (hq:q < n):q∈vis:=by
 false_or_by_contra
 rename_i e8
 have J:vis.Perm ((List.range n).filter fun x=>decide (x∈vis)):=(List.perm_ext_iff_of_nodup h.one (List.nodup_range.filter _)).2 fun a=>by
  rw [List.mem_filter,List.mem_range,decide_eq_true_eq]
  exact⟨fun J=>⟨h.lt a J,J⟩,fun J=>J.2⟩
 have ad:=J.length_eq
 have aC:((List.range n).filter fun x=>decide (x∈vis)).length < (List.range n).length:=List.length_filter_lt_length_iff_exists.2 ⟨q,List.mem_range.2 hq,by simpa using e8⟩
 rw [List.length_range] at aC
 omega
theorem Uw {α:Type} [Inhabited α] (l:List α):(List.range l.length).map (fun q=>aE l q)=l:=by
 apply List.ext_getElem
 ·simp
 ·intro i J ad
  simp only [List.getElem_map,List.getElem_range]
  rw [ew _ ad]
def CE (a c:aA):Int:=Ga a.bA c.bA
theorem N9:jK CE:=YM.on fun i:aA=>i.bA
theorem Po {s:a3} (h:dk s) {k:Nat} (ay:k < 4) {hp:aS Cell} {p:Nat} {l:List aA} {own:Nat→Prop} (an:iS s k hp p l own) (hlen:l.length≤12):
 dH (xo hp (some p)) (fun r=>r.2=hp∧r.1.Perm l∧r.1.Pairwise (fun a b=>CE a b≤0)):=by
 obtain⟨f,m,em,J,ad,aC,aU,a1,bk⟩:=an.cell
 have ao:=an.kP.ok
 have Cg:em.length=l.length:=by rw [a1.length_eq,List.length_map]
 have Jm:∀ q,q < em.length→ (aE em q).2∈l:=fun q hq=>by
  have hm:aE em q∈em:=by rw [ew _ hq]; exact List.getElem_mem _
  obtain⟨i,au,e⟩:=List.mem_map.1 (a1.mem_iff.1 hm)
  rw [← e]; exact au
 have BG:∀ vis,sI em.length vis→ (∀ j,j < em.length→j∈vis)→ (vis.map fun q=>(aE em q).2).Perm l:=fun vis a0 bj=>by
  refine((a0.perm bj).map _).trans ?_
  have:(List.range em.length).map (fun q=>(aE em q).2)=em.map (·.2):=by
   rw [show(List.range em.length).map (fun q=>(aE em q).2)=((List.range em.length).map (fun q=>aE em q)).map (·.2) by rw [List.map_map]; rfl,Uw]
  rw [this]
  refine(a1.map (·.2)).trans ?_
  rw [List.map_map,show((fun x:Int × aA=>x.2) ∘ fun i:aA=>(i.cd,i))=id from rfl,List.map_id]
 unfold xo
 refine .cond (fun ak=>by cases ak) fun _=> .eq rfl (.eq J (.eq rfl (.eq ad ?_)))
 refine .bind (P:=fun e=>e.2.2.Perm l) (dH.loop em.length (fun j st=> ∃ vis,st=(vis,vis.map fun q=>(aE em q).2)∧vis.length=j∧sI em.length vis) (by omega) ⟨[],rfl,rfl,.nil,by simp⟩ (fun j st aH hs=> ?_) (fun st hs=> ?_)) fun e he=> ?_
 ·obtain⟨vis,rfl,qe,a0⟩:=hs
  refine .next fun o bb=> ?_
  cases o with
  | none=>exact .cond (fun ak=>by cases ak) fun _=> .ret (BG vis a0 bb)
  | some q=>
    refine .cond (fun _=> .eq rfl (.eq (x6 h ay (ao.ok _ (Jm q bb.1))) (.eq (j2 _ _ (by simp; omega) (by omega)) (.ret ⟨vis ++ [q],?_,by simp [qe],a0.more bb⟩)))) fun ak=>by cases ak
    rw [List.map_append]; rfl
 ·obtain⟨vis,rfl,qe,a0⟩:=hs
  refine .next fun o bb=> ?_
  cases o with
  | none=>exact .cond (fun ak=>by cases ak) fun _=> .ret (BG vis a0 bb)
  | some q=>exact absurd (a0.full qe bb.1) bb.2
 ·have rl:∀ a∈e.2.2,a.bA.bZ.length≤1000∧a.bA.iw.length≤1000:=fun a bj=>(ao.ok a (he.mem_iff.1 bj)).small h ay
  have hle:=he.length_eq
  refine .my (Tr (c:=CE) N9 (by omega) fun a bj b hb=> ?_) fun bh a5=> .ret ⟨rfl,a5.1.trans he,py.ace (by rw [a5.1.length_eq]; exact a5.2)⟩
  unfold Da
  rw [VT (rl a bj).1 (rl b hb).1 (rl a bj).2 (rl b hb).2]
  rfl
theorem U9 {s:a3} {k:Nat} {l sV r j1:List aA} (ao:gy s k l) (hp:l.Perm sV) (J:r.Perm l) (ad:j1.Perm sV) (s1:r.Pairwise (fun a b=>CE a b≤0)) (s2:j1.Pairwise (fun a b=>CE a b≤0)):r=j1:=
 MT N9 (J.trans (hp.trans ad.symm)) s1 s2 fun a bj b hb e=>ao.uniq (J.mem_iff.1 bj) (J.mem_iff.1 hb) (YN e)
theorem Nx {α:Type} {b:α→α→Bool} (hb:ri b) {q:α→Bool} :∀ {l:List α} {c:α},l.Pairwise (fun x y=>b x y=true)→l.find? q=some c→ ∀ d∈l,q d=true→d=c∨b c d=true
 | [],c,_,h,_,_,_=>by cases h
 | a :: l,c,hs,h,d,hd,hq=>by
   obtain⟨J,ad⟩:=List.pairwise_cons.1 hs
   by_cases mz:q a=true
   ·rw [List.find?_cons_of_pos mz] at h
    cases h
    rcases List.mem_cons.1 hd with aC | aC
    ·exact .inl aC
    ·exact .inr (J d aC)
   ·rw [List.find?_cons_of_neg mz] at h
    rcases List.mem_cons.1 hd with aC | aC
    ·rw [aC] at hq; exact absurd hq mz
    ·exact Nx hb ad h d aC hq
theorem aak {s:a3} {k:Nat} {l:List aA} (ao:iW s k l) {p:Vector ar 4} {c:aA} (h:jm s k l p=some c):∀ d∈l,mt s k p d.bA=true→d=c∨e3 s k c d=true:=fun d hd hq=>
 Nx (rV s k) (DT (rV s k) ao.wR) h d (oC.2 hd) hq
theorem aal {s:a3} {k:Nat} {l:List aA} {p:Vector ar 4} {d:aA} (hd:d∈l) (hq:mt s k p d.bA=true):∃ c,jm s k l p=some c:=by
 cases h:jm s k l p with
 | some c=>exact⟨c,rfl⟩
 | none=>
   unfold jm at h
   have:=List.find?_eq_none.1 h d (oC.2 hd)
   exact absurd hq this
theorem Va {s:a3} {k:Nat} {l sV:List aA} (ao:iW s k l) (kh:iW s k sV) (hm:∀ i,i∈l↔i∈sV) (p:Vector ar 4):jm s k l p=jm s k sV p:=by
 cases e:jm s k l p with
 | some c=>
   have hq:mt s k p c.bA=true:=by unfold jm at e; exact List.find?_some (p:=fun c:aA=>mt s k p c.bA) e
   exact(Eg (rV s k) kh.wR ((hm c).1 (HO e)) hq fun d hd Ke=>aak ao e d ((hm d).2 hd) Ke).symm
 | none=>
   refine(HJ fun d hd=> ?_).symm
   unfold jm at e
   have:=List.find?_eq_none.1 e d (oC.2 ((hm d).2 hd))
   simpa using this
theorem Vb {s:a3} (h:dk s) {k:Nat} (ay:k < 4) {x:Int} (em:rD x (s.b7.length:Int)=some (k:Int)) (hp:aS Cell) (c:bf) (ak:gE c) (n:Nat) (aO:n≤100):
 dH (z8 hp s c x (n:Int)) (fun r=> ∃ p own,r.1=some p∧iS s k r.2.2.2 p r.2.1 own∧r.2.1.length≤n∧ (∀ i∈r.2.1,0≤i.cd∧i.cd < (n:Int))∧gE r.2.2.1):=by
 unfold z8
 have abN:=(h.kl ay).1
 refine .eq em (.idx rfl (by rw [h.lV]; exact ay) ?_)
 rw [abN]
 refine .bind (N6 h ay hp) fun aJ ad=> ?_
 obtain⟨p,e,an,_⟩:=ad
 obtain⟨abK,cS⟩:=aJ
 simp only at e an
 subst e
 refine .bind (P:=fun av=> ∃ own,iS s k av.2.2.2.2 p av.2.2.1 own∧av.2.2.1.length≤n∧ (∀ i∈av.2.2.1,0≤i.cd∧i.cd < (n:Int))∧gE av.2.2.2.1)
  (dH.loop n (fun j st=> ∃ l hj hp' own,st=((j:Int),l,hj,hp')∧iS s k hp' p l own∧l.length≤j∧ (∀ i∈l,0≤i.cd∧i.cd < (j:Int))∧gE hj) (by omega) ⟨[],c,cS,_,rfl,an,by simp,by simp,ak⟩ (fun j st aH hs=> ?_) (fun st hs=> ?_)) fun av J=> .ret ⟨p,J.elim fun own h=>⟨own,rfl,h⟩⟩
 ·obtain⟨l,hj,hp',own,rfl,an,oR,yA,jF⟩:=hs
  refine .cy (P:=fun _=>True) (fun _=>MF _) fun bh _=> .cond (fun ak=> ?_) fun ak=> .ret ⟨own,an,Nat.le_trans oR (by omega),fun i au=>by have:=yA i au; omega,jF⟩
  refine .my (Mj hj x jF h) fun bn ⟨aU,k',iT,pr,he⟩=> .eq rfl ?_
  have jE:k'=k:=by rw [em] at pr; simp only [Option.some.injEq] at pr; omega
  subst jE
  have au:lF s k' { bA:=bn.1,cd:=(j:Int),lL:=1 } :=⟨he⟩
  refine .bind (Ic h ay an au (by omega)) fun cw a1=> ?_
  obtain⟨aq,bd,bN⟩:=a1
  obtain⟨acT,gj⟩:=cw
  simp only at aq bd bN
  refine .eq (a:=added l { bA:=bn.1,cd:=(j:Int),lL:=1 }) ?_ (.ret ⟨_,bn.2,gj,_,by rw [gb (by omega)],bd,?_,?_,aU⟩)
  ·simp only [aq]
   unfold added
   cases qn l { bA:=bn.1,cd:=(j:Int),lL:=1 }
   ·rfl
   ·show(hA 88 l [_]).bind (fun dg=>some dg)=_
    rw [j2 _ _ (by simp; omega) (by omega)]; rfl
  ·unfold added; split
   ·simp; omega
   ·omega
  ·intro i yI
   have:i∈l∨i= { bA:=bn.1,cd:=(j:Int),lL:=1 } :=by
    unfold added at yI
    split at yI
    ·simpa using yI
    ·exact .inl yI
   rcases this with bk | rfl
   ·have:=yA i bk; omega
   ·simp only; omega
 ·obtain⟨l,hj,hp',own,rfl,an,oR,yA,jF⟩:=hs
  refine .cy (P:=fun _=>True) (fun ak=>by simp at ak) fun bh _=> .cond (fun ak=>by simp at ak) fun ak=> .ret ⟨own,an,oR,yA,jF⟩
structure oS (s:a3) (k:Nat) (hp:aS Cell) (p:Nat) (l:List aA) (own:Nat→Prop) (bc:Nat) (w0:List aA) (jA:Nat→Prop):Prop where
 x:iS s k hp p l own
 y:iS s k hp bc w0 jA
 FT:∀ q,own q→ ¬ jA q
theorem oS.grow {s:a3} {k:Nat} {hp cO:aS Cell} {p bc:Nat} {l w0 CX:List aA} {own jA:Nat→Prop} (t:oS s k hp p l own bc w0 jA) (h:iS s k cO bc CX (lR jA hp cO)) (ay:eL hp cO jA):oS s k cO p l own bc CX (lR jA hp cO):=
 ⟨t.x.pg ay t.FT,h,fun q hq ad=>ad.elim (t.FT q hq) fun ad=>ad.1 (t.x.uk q hq)⟩
theorem oS.same {s:a3} {k:Nat} {hp cO:aS Cell} {p bc:Nat} {l w0 CX:List aA} {own jA:Nat→Prop} (t:oS s k hp p l own bc w0 jA) (h:iS s k cO bc CX jA) (ay:eL hp cO jA):oS s k cO p l own bc CX jA:=
 ⟨t.x.pg ay t.FT,h,t.FT⟩
theorem gy.sub {s:a3} {k:Nat} {l sV:List aA} (h:gy s k l) (hs:sV.Sublist l):gy s k sV:=
 ⟨⟨fun i au=>h.ok.ok i (hs.subset au),h.ok.num.sublist hs,by have:=hs.length_le; have:=h.ok.len; omega⟩,h.key.sublist hs⟩
theorem gy.abO {s:a3} {k:Nat} {l:List aA} (h:gy s k l):gy s k l.reverse:=
 ⟨⟨fun i au=>h.ok.ok i (List.mem_reverse.1 au),by rw [List.pairwise_reverse]; exact h.ok.num.imp fun b3=>Ne.symm b3,by rw [List.length_reverse]; exact h.ok.len⟩,by rw [List.pairwise_reverse]; exact h.key.imp fun {a c} b3=>by rw [AQ]; exact b3⟩
theorem Ux {α:Type} [Inhabited α] {l:List α} {j:Nat} (h:j < l.length):l.drop j=aE l j :: l.drop (j + 1):=by rw [ew _ h]; exact List.drop_eq_getElem_cons h
theorem Uy {s:a3} {k:Nat} {a:aA} {r:List aA} (h:gy s k (a :: r)):jz (a :: r) a.bA=r∧g6 (a :: r) a.bA=some a:=by
 obtain⟨J,_⟩:=List.pairwise_cons.1 h.key
 constructor
 ·unfold jz
  rw [List.filter_cons,if_neg (by rw [Ei]; simp)]
  exact List.filter_eq_self.2 fun c ak=>by rw [AQ,J c ak]; rfl
 ·unfold g6
  rw [List.find?_cons,Ei]
theorem Vc {s:a3} {k:Nat} {l:List aA} (h:gy s k l) {j:Nat} (aH:j < l.length):qn (l.take j) (aE l j)=true∧added (l.take j) (aE l j)=l.take (j + 1):=by
 have e:=Ln l aH
 have hs:gy s k (l.take (j + 1)):=h.sub (List.take_sublist _ _)
 rw [e] at hs
 have J:=List.pairwise_append.1 hs.key
 have ad:=List.pairwise_append.1 hs.ok.num
 have bL:qn (l.take j) (aE l j)=true:=by
  unfold qn
  have ba:g6 (l.take j) (aE l j).bA=none:=List.find?_eq_none.2 fun c ak=>by rw [J.2.2 c ak _ (List.mem_singleton.2 rfl)]; simp
  have aO:iJ (l.take j) (aE l j).cd=false:=by
   unfold iJ
   rw [List.any_eq_false]
   intro c ak
   have:=ad.2.2 c ak _ (List.mem_singleton.2 rfl)
   simpa using this
  rw [ba,aO]; rfl
 refine⟨bL,?_⟩
 unfold added
 rw [if_pos bL,e]
theorem S3 (hp:aS Cell) (aa aj aP:List (BitVec 8)) (bR:Int):dH (zS hp aa aj aP bR) (fun r=>r.1=true):=by
 unfold zS
 refine .my (Eb aa 120 (by omega) (by omega)) fun aG J=> .my (LW aG J) fun aJ ad=> .my (Eb aj 200 (by omega) (by omega)) fun bh aC=> ?_
 obtain⟨s,Gb⟩:=aJ
 obtain⟨h,_⟩:=ad
 simp only at h ⊢
 obtain⟨m,em,gI,ck⟩:=Ni bR (s.b7.length:Int) (by rw [h.lV]; omega) (by rw [h.lV]; omega)
 obtain⟨k,rfl⟩:=Int.eq_ofNat_of_zero_le gI
 have ay:k < 4:=by have:=h.lV; omega
 refine .bind (Vb h ay em hp bh aC 10 (by omega)) fun bn aU=> ?_
 obtain⟨adf,l,hj,cS⟩:=bn
 obtain⟨p,own,rfl,an,hlen,yA,jF⟩:=aU
 simp only at an hlen yA jF
 have yO:=an.kP
 have ao:=an.kP.ok
 refine .my (Eb aP 100 (by omega) (by omega)) fun cw a1=> .eq em (.idx rfl (by rw [h.lV]; exact ay) ?_)
 rw [(h.kl ay).1]
 refine .bind (N6 h ay cS) fun c8 cT=> ?_
 obtain⟨acU,cO⟩:=c8
 obtain⟨bc,qx,a5,yQ⟩:=cT
 simp only at qx a5 yQ
 subst qx
 have t0:oS s k cO p l own bc [] (lR FQ cS cO):=⟨an.pg yQ fun q _ h=>h,a5,fun q hq ad=>ad.elim (fun h=>h) fun ad=>ad.1 (an.uk q hq)⟩
 refine .bind (P:=fun av=> ∃ jA,oS s k av.2.2.2.2 p l own bc av.2.2.1 jA∧av.2.2.1.length≤6)
  (dH.loop 6 (fun j st=> ∃ m1 hj hp' jA,st=((j:Int),m1,hj,hp')∧oS s k hp' p l own bc m1 jA∧m1.length≤j∧gE hj) (by omega) ⟨[],cw,cO,_,rfl,t0,by simp,a1⟩ (fun j st aH hs=> ?_) (fun st hs=> ?_)) fun av Kc=> ?_
 ·obtain⟨m1,Q1,hp',jA,rfl,t,oR,QI⟩:=hs
  refine .cy (P:=fun _=>True) (fun _=>MF _) fun eX _=> .cond (fun ak=> ?_) fun ak=> .ret ⟨jA,t,Nat.le_trans oR (by omega)⟩
  refine .my (Mj Q1 bR QI h) fun fV ⟨fX,k',iT,pr,he⟩=> .eq rfl ?_
  have jE:k'=k:=by rw [em] at pr; simp only [Option.some.injEq] at pr; omega
  subst jE
  generalize db:({ (default:aA) with bA:=fV.1,cd:=bq (100 + (j:Int)) } :aA)=z
  have au:lF s k' z:=⟨by rw [← db]; exact he⟩
  simp only [db]
  refine .bind (Ic h ay t.y au (by omega)) fun gH kG=> ?_
  obtain⟨aq,bd,bN⟩:=kG
  obtain⟨acy,gj⟩:=gH
  simp only at aq bd bN
  refine .eq (a:=added m1 z) ?_ (.ret ⟨_,fV.2,gj,_,by rw [gb (by omega)],t.grow bd bN,?_,fX⟩)
  ·simp only [aq]
   unfold added
   cases qn m1 z
   ·rfl
   ·show(hA 88 m1 [_]).bind (fun dg=>some dg)=_
    rw [j2 _ _ (by simp; omega) (by omega)]; rfl
  ·unfold added; split
   ·simp; omega
   ·omega
 ·obtain⟨m1,Q1,hp',jA,rfl,t,oR,QI⟩:=hs
  refine .cy (P:=fun _=>True) (fun ak=>by simp at ak) fun eX _=> .cond (fun ak=>by simp at ak) fun ak=> .ret ⟨jA,t,oR⟩
 obtain⟨i1,dJ,m1,bC,gj⟩:=av
 obtain⟨jA,t1,abP⟩:=Kc
 simp only at t1 abP ⊢
 have aam:=t1.y.kP
 refine .bind (P:=fun aX=> ∃ q,aX= .inl q∧oS s k q.2.2 p l own bc [] jA)
  (dH.loop m1.length (fun j st=> ∃ hp',st=((j:Int),hp')∧oS s k hp' p l own bc (m1.drop j) jA) (by omega) ⟨gj,rfl,t1⟩ (fun j st aH hs=> ?_) (fun st hs=> ?_)) fun aX kj=> ?_
 ·obtain⟨hp',rfl,t⟩:=hs
  refine .cond (fun _=> .idx rfl aH ?_) fun ak=>by simp at ak; omega
  have hm:aE m1 j∈m1:=by rw [ew _ aH]; exact List.getElem_mem _
  have yZ:=aam.ok.ok _ hm
  have hd:=Ux aH
  have b3:=t.y.kP
  rw [hd] at b3
  obtain⟨iE,gx⟩:=Uy b3
  refine .bind (Uv h ay t.y yZ.e9) fun gQ wP=> ?_
  obtain⟨aq,bd,bN⟩:=wP
  rw [hd,gx] at aq
  rw [hd,iE] at bd
  obtain⟨FZ,acf,po⟩:=gQ
  simp only at aq bd bN
  have acg:FZ=aE m1 j:=congrArg Prod.fst aq
  have ach:acf=true:=congrArg Prod.snd aq
  subst acg ach
  have rl:=yZ.small h ay
  refine .cy (P:=fun y=>y=true) (fun _=>⟨_,G9 rl.1 rl.2,rfl⟩) fun h7 qm=> .cond (fun ak=> ?_) fun _=> .ret ⟨po,by rw [gb (by omega)],t.same bd bN⟩
  rw [qm rfl] at ak; cases ak
 ·obtain⟨hp',rfl,t⟩:=hs
  refine .cond (fun ak=>by simp at ak) fun _=> .ret ⟨_,rfl,?_⟩
  rw [List.drop_length] at t
  exact t
 obtain⟨⟨i2,ev,po⟩,rfl,t2⟩:=kj
 simp only [Sum.elim_inl] at t2 ⊢
 have Km:=yO.abO
 have IU:l.reverse.length=l.length:=List.length_reverse
 have abQ:∀ a,a < l.length→aE l.reverse a=aE l (l.length - 1 - a):=fun a bj=>by
  rw [ew _ (by rw [IU]; exact bj),ew _ (show l.length - 1 - a < l.length by omega)]
  exact List.getElem_reverse _
 refine .bind (P:=fun c4=> ∃ q,c4= .inl q∧ ∃ wc,oS s k q.2.2 p l own bc l.reverse wc)
  (dH.loop l.length (fun j st=> ∃ hp' wc,st=((l.length:Int) - 1 - j,hp')∧oS s k hp' p l own bc (l.reverse.take j) wc) (by omega) ⟨po,jA,by rw [g9 (by omega) (by omega)]; simp,by simpa using t2⟩ (fun j st aH hs=> ?_) (fun st hs=> ?_)) fun c4 abR=> ?_
 ·obtain⟨hp',wc,rfl,t⟩:=hs
  refine .cond (fun _=> .idx (k:=l.length - 1 - j) (by show(l.length:Int) - 1 - j=_; omega) (by omega) ?_) fun ak=>by simp at ak; omega
  have wJ:j < l.reverse.length:=by rw [IU]; exact aH
  rw [← abQ j aH]
  obtain⟨c2,dc⟩:=Vc Km wJ
  have yZ:=Km.ok.ok (aE l.reverse j) (by rw [ew _ wJ]; exact List.getElem_mem _)
  have yP:(l.reverse.take j).length≤900:=by rw [List.length_take]; omega
  refine .bind (Ic h ay t.y yZ (by rw [List.length_take]; omega)) fun hL yS=> ?_
  obtain⟨aq,bd,bN⟩:=yS
  rw [dc] at bd
  rw [c2] at aq
  obtain⟨acz,Kn⟩:=hL
  simp only at aq bd bN
  subst aq
  refine .cond (fun ak=>by cases ak) fun _=> .ret ⟨Kn,_,?_,t.grow bd bN⟩
  show(bq ((l.length:Int) - 1 - j - 1),Kn)=_
  rw [g9 (by omega) (by omega),show(l.length:Int) - 1 - j - 1=(l.length:Int) - 1 - (j + 1:Nat) by omega]
 ·obtain⟨hp',wc,rfl,t⟩:=hs
  refine .cond (fun ak=>by simp at ak; omega) fun _=> .ret ⟨_,rfl,wc,?_⟩
  rw [← IU,List.take_length] at t
  exact t
 obtain⟨⟨i3,hH,Kn⟩,rfl,wc,t3⟩:=abR
 simp only [Sum.elim_inl] at t3 ⊢
 refine .bind (Po h ay t3.x (by omega)) fun nr yT=> ?_
 obtain⟨c2,acV⟩:=nr
 obtain⟨pB,aZ,s1⟩:=yT
 simp only at pB aZ s1 ⊢
 subst pB
 refine .bind (Po h ay t3.y (by omega)) fun ji abS=> ?_
 obtain⟨dc,acW⟩:=ji
 obtain⟨qx,QJ,s2⟩:=abS
 simp only at qx QJ s2 ⊢
 subst qx
 have abT:c2=dc:=U9 yO l.reverse_perm.symm aZ QJ s1 s2
 subst abT
 refine .eq (S2 (fun i au=>(ao.ok i (aZ.mem_iff.1 au)).small h ay) (by rw [aZ.length_eq]; omega)) (.cond (fun ak=>by cases ak) fun _=> ?_)
 refine .my (P:=fun e=> ∃ q,e= .inl q) (bt.tG l.length (fun i st=> ∃ c,st=((i:Int),c)∧gE c) (by omega) ⟨hj,rfl,jF⟩ (fun i st au hs=> ?_) (fun st hs=> ?_)) fun gT uj=> ?_
 ·obtain⟨c,rfl,ak⟩:=hs
  refine .cond (fun _=> .idx rfl au ?_) fun ak=>by simp at ak; omega
  have hm:aE l i∈l:=by rw [ew _ au]; exact List.getElem_mem _
  have yZ:=ao.ok _ hm
  refine(Ug _ ak).bind fun sr abU=>(Ut h ay yZ.e9 _).bind fun ss abV=> .eq (Mn h ay t3.x _) (.eq (Mn h ay t3.y _) ?_)
  rw [← Va ao Km.ok (fun i=>List.mem_reverse.symm) ss]
  obtain⟨w,hw⟩:=aal hm abV
  rw [hw]
  have rl:=(ao.ok w (HO hw)).small h ay
  refine .cy (P:=fun y=>y=true) (fun _=>⟨_,G9 rl.1 rl.2,rfl⟩) fun Ft abW=> .cond (fun ak=> ?_) fun _=> .ret ⟨sr.2,by rw [gb (by omega)],abU⟩
  rw [abW rfl] at ak; cases ak
 ·obtain⟨c,rfl,ak⟩:=hs
  exact .cond (fun ak=>by simp at ak) fun _=> .ret ⟨_,rfl⟩
 obtain⟨q,rfl⟩:=uj
 simp only [Sum.elim_inl]
 exact .bind (VP _) fun wq abX=> .ret abX
theorem SN (aa aj aP:List (BitVec 8)) (bR:Int):zS [] aa aj aP bR (fun r=>r.1=true):=(S3 [] aa aj aP bR).run
end Go.Proofs.YtmnggbjcnoffeaaGreat
