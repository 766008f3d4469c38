/-
  What the programs compute, in plain Lean. Conditions: none.
-/
import Derived.Test.YthkfkliknjiecaaGreatMp0
set_option linter.unusedVariables false
set_option linter.unusedSimpArgs false
set_option maxRecDepth 100000
namespace Go.Proofs.YthkfkliknjiecaaGreat
open Go Gv
structure L5 (kZ hp:aN Cell)(t:Nat)(g:List Bool→Option Int)(r:Nat):Prop where
 cell:∃ c,gr hp t=some c∧c.fZ=32∧c.ep=some r
 tree:oW hp (some r)
 cont:∀ a4,cont hp (some r) a4=g a4
 keeps:fp kZ hp (Own kZ t)
 own:∀ a4 q,c5 hp (some r) a4=some q→Own kZ t q
theorem empty_eq {hp:aN Cell}{p:Nat}{c:ec}(h:cZ hp p=some c):yW hp (some p)=some (!c.fu&&decide (c.df=default)):=by
 refine bk.get ?_;unfold yW;refine .eq rfl (.eq h ?_);refine .cu (P:=fun r=>r=p) (fun _=>⟨p,rfl,rfl⟩) fun o aa=>?_;refine .cu (P:=fun r=>r=c) (fun ae=>⟨c,by rw [aa ae];exact h,rfl⟩) fun cD ae=>.ret ?_;cases hu:c.fu with
 | true=>rfl
 | false=>rw [ae (by rw [hu];rfl)]
theorem YP (v:az)(n:Nat):(dP v n).length=n:=by unfold dP;simp
theorem YQ (v:az){i n:Nat}(h:i≤n):dP v n=dP v i++(dP v n).drop i:=by
 have:dP v i=(dP v n).take i:=by unfold dP;rw [← List.map_take,List.take_range];congr 2;omega
 rw [this,List.take_append_drop]
theorem GI {hp:aN Cell}{r:Ref}{v:az}{i n:Nat}(h:i≤n){p:Nat}(hp':c5 hp r (dP v n)=some p):∃ q,c5 hp r (dP v i)=some q:=by
 rw [YQ v h,mH] at hp';cases e:c5 hp r (dP v i) with
 | none=>rw [e,g7] at hp';cases hp'
 | some q=>exact⟨q,rfl⟩
theorem YR {hp:aN Cell}{t:Nat}{g:List Bool→Option Int}(h:jH hp t g){n:Nat}(aR:n≤32){v:az}(a6:∀ j,j<128→ct v j=true→lead 32 n j=true){id:Int}(bD:g (dP v n)=some id):
 bk (yT hp (some t) v n) (fun r=>r.1=true∧jH r.2 t (fun a4=>if a4=dP v n then none else g a4)∧fp hp r.2 (Own hp t)∧ ∀ q,Own r.2 t q→Own hp t q):=by
 obtain⟨c,aj,hb,bM,Nj⟩:=h.ok
 have afD:∃ p,c5 hp c.ep (dP v n)=some p:=by
  cases e:c5 hp c.ep (dP v n) with
  | none=>rw [← Nj,k7 e] at bD;cases bD
  | some p=>exact⟨p,rfl⟩
 obtain⟨wk,jY⟩:=afD
 have adD:∃ r,c.ep=some r:=by
  obtain⟨q,hq⟩:=GI (Nat.zero_le n) jY;rw [Ce,m9] at hq;exact⟨q,hq⟩
 obtain⟨r,aO⟩:=adD
 rw [aO] at bM Nj jY
 unfold yT
 refine .eq (Rz h aR a6) ?_
 rw [bD]
 refine .cond (fun aj=>by cases aj) fun _=>.eq rfl (.eq aj (.eq rfl ?_))
 rw [aO]
 show bk (Option.bind (qS hp (n:Int) v (some t) _ _) _) _
 refine bk.bind (P:=fun e:(List Int×List Ref) ⊕ Empty=> ∃ bits n3,e= .inl (bits,n3)∧n3.length=n+1∧bits.length=n∧ (∀ j,j≤n→aF n3 j=c5 hp (some r) (dP v j))∧ ∀ j,j<n→aF bits j=((fO (ct v (31 - j)):Nat):Int))
  (Lv aj hb v aR (fun i s=> ∃ bits n3,s=(bits,n3)∧n3.length=i+1∧bits.length=i∧ (∀ j,j≤i→aF n3 j=c5 hp (some r) (dP v j))∧ ∀ j,j<i→aF bits j=((fO (ct v (31 - j)):Nat):Int)) ⟨[],[some r],rfl,rfl,rfl,fun j aH=>?_,fun j aH=>by omega⟩ (fun i s au hs=>?_) (fun s hs=>?_)) fun e he=>?_
 ·have:j=0:=by omega
  subst this
  rw [Ce,m9];rfl
 ·obtain⟨bits,n3,rfl,aa,ae,aG,a0⟩:=hs
  obtain⟨q,hq⟩:=GI (show i≤n by omega) jY
  obtain⟨d,hd⟩:=bM.reads _ _ hq
  have hw:bt ((n3.length:Int) - 1)=(i:Int):=by rw [ho (by omega) (by omega)];omega
  simp only [hw]
  have cf:fO (ct v (31 - i))<2:=by cases ct v (31 - i) <;> decide
  refine .idx rfl (by omega) (.eq (a:=q) (by rw [aG i (Nat.le_refl _)];exact hq) (.idx rfl cf (.eq hd (.eq (iJ _ _ (by simp;omega) (by omega)) (.eq (iJ _ _ (by simp;omega) (by omega)) (.ret ⟨_,_,rfl,by simp;omega,by simp;omega,fun j aH=>?_,fun j aH=>?_⟩))))))
  ·rw [JE]
   by_cases ic:j=n3.length
   ·rw [if_pos ic,show j=i+1 by omega,Cd,mH,hq,h8 hd,m9]
   rw [if_neg ic];exact aG j (by omega)
  rw [JE]
  by_cases ic:j=bits.length
  ·rw [if_pos ic,show j=i by omega]
  rw [if_neg ic];exact a0 j (by omega)
 ·exact⟨s.1,s.2,by obtain⟨bits,n3,rfl,_⟩:=hs;rfl,by obtain⟨bits,n3,rfl,h⟩:=hs;exact h⟩
 obtain⟨bits,n3,rfl,aa,ae,aG,a0⟩:=he
 simp only [Sum.elim_inl]
 obtain⟨d,hd⟩:=bM.reads _ _ jY
 have Nc:=qb.1 hd
 have fx:cZ (dr hp wk (.gM { d with fu:=false })) wk=some { d with fu:=false } :=zw Nc
 refine .idx rfl (by omega) (.eq (a:=wk) (by rw [aG n (Nat.le_refl _)];exact jY) (.eq hd (.eq rfl (.eq fx (.eq rfl ?_)))))
 generalize cY:dr (dr hp wk (.gM { d with fu:=false })) wk (.gM { d with fu:=false,hY:=0 })=di
 have hF:=Hh hd aj
 have pa:cZ di wk=some { d with fu:=false,hY:=0 } :=by rw [← cY];exact zw (qb.1 fx)
 have L6:∀ q,q≠wk→pat di q=pat hp q:=fun q hq=>by rw [← cY,m4 hq.symm,m4 hq.symm]
 obtain⟨s1,s2⟩:=TC bM jY hd pa rfl fun q hq=>wU (L6 q hq)
 have US:=Cs hd pa rfl fun q hq=>wU (L6 q hq)
 have ag0:gr di t=some c:=by rw [F0 (L6 t hF.symm)];exact aj
 have SV:Own hp t wk:= .inr ⟨c,_,aj,by rw [aO];exact jY⟩
 have cV:fp hp di (Own hp t):=by
  rw [← cY];exact(fp.up (own:=Own hp t) SV).trans (fp.up SV) fun q _ h=>h
 have NO:L5 hp di t (fun a4=>if a4=dP v n then none else g a4) r:=⟨⟨c,ag0,hb,aO⟩,s1,fun a4=>by
  rw [s2];by_cases e:a4=dP v n
  ·rw [if_pos e];simp only [if_pos e];rfl
  rw [if_neg e];simp only [if_neg e];exact Nj a4,cV,fun a4 q hq=>.inr ⟨c,a4,aj,by rw [aO,← US];exact hq⟩⟩
 have vQ:bt ((n:Int) - 1)=(n:Int) - 1:=ho (by omega) (by omega)
 rw [vQ]
 refine bk.bind (P:=fun aX=>L5 hp aX.2.2 t (fun a4=>if a4=dP v n then none else g a4) r) (bk.pF n (fun i st=> ∃ hq,st=((n:Int) - 1 - (i:Int),hq)∧L5 hp hq t (fun a4=>if a4=dP v n then none else g a4) r∧ ∀ j,j+i≤n→c5 hq (some r) (dP v j)=aF n3 j) (by omega) ⟨di,by simp,NO,fun j aH=>by rw [US,aG j (by omega)]⟩ (fun i st au hs=>?_) (fun st hs=>?_)) fun aX sL=>?_
 ·obtain⟨hq,rfl,hm,L7⟩:=hs
  have aq:(n:Int) - 1 - (i:Int)=((n - 1 - i:Nat):Int):=by omega
  have aX:bt ((n:Int) - 1 - (i:Int)+1)=((n - i:Nat):Int):=by rw [ho (by omega) (by omega)];omega
  have dd:bt ((n:Int) - 1 - (i:Int) - 1)=(n:Int) - 1 - ((i+1:Nat):Int):=by rw [ho (by omega) (by omega)];omega
  simp only [aX,dd]
  have rv:decide ((n:Int) - 1 - (i:Int)≥0)=true:=by rw [decide_eq_true_eq];omega
  simp only [rv]
  have ki:=L7 (n - i) (by omega)
  have ue:=L7 (n - 1 - i) (by omega)
  obtain⟨ai,kW⟩:=GI (show n - i≤n by omega) jY
  obtain⟨J,vV⟩:=GI (show n - 1 - i≤n by omega) jY
  rw [aG _ (by omega),kW] at ki
  rw [aG _ (by omega),vV] at ue
  obtain⟨br,dq⟩:=hm.tree.reads _ _ ki
  obtain⟨wm,x9⟩:=hm.tree.reads _ _ ue
  refine .cu (P:=fun fF=>fF=n - i) (fun _=>⟨_,mG (by omega),rfl⟩) fun fF jm=>?_
  rw [jm rfl]
  have Aw:aF n3 (n - i)=some ai:=by rw [aG _ (by omega)];exact kW
  have MW:aF n3 (n - 1 - i)=some J:=by rw [aG _ (by omega)];exact vV
  refine .cu (P:=fun y=>y=(!br.fu&&decide (br.df=default))) (fun _=>⟨_,by rw [Aw];exact empty_eq dq,rfl⟩) fun cz hv=>.cond (fun dI=>?_) fun dI=>.ret hm
  rw [Bool.true_and,hv rfl,Bool.and_eq_true,Bool.not_eq_true',decide_eq_true_eq] at dI
  obtain⟨bu,dF⟩:=dI
  have cf:fO (ct v (31 - (n - 1 - i)))<2:=by cases ct v (31 - (n - 1 - i)) <;> decide
  have adE:dP v (n - i)=dP v (n - 1 - i)++[ct v (31 - (n - 1 - i))]:=by rw [← Cd,show n - 1 - i+1=n - i by omega]
  have pX:bH wm.df (fO (ct v (31 - (n - 1 - i))))=some ai:=by
   rw [adE,mH,ue,h8 x9,m9] at ki;exact ki
  have kZ:=qb.1 x9
  refine .idx aq (by omega) (.idx aq (by omega) (.eq MW (.idx (a0 _ (by omega)) cf (.eq x9 (.eq rfl (.ret ?_))))))
  obtain⟨ao,a3,bx⟩:=cut (hp':=dr hq J (.gM { wm with df:=dD wm.df (fO (ct v (31 - (n - 1 - i)))) none })) hm.tree ue x9 pX dq (fun x=>by rw [dF,FV];rfl) bu (zw kZ) fun x ar=>uS ar.symm
  obtain⟨j4,c8,c2,gG⟩:=hm.cell
  have adF:=hm.own _ _ ue
  refine⟨_,rfl,⟨⟨j4,by rw [F2 (Hh x9 c8)];exact c8,c2,gG⟩,ao,fun a4=>by rw [bx];exact hm.cont a4,hm.keeps.trans (fp.up adF) fun q _ h=>h,fun a4 q lH=>?_⟩,fun j aH=>?_⟩
  ·rw [a3] at lH
   split at lH
   ·cases lH
   exact hm.own a4 q lH
  rw [a3,if_neg (fun e=>by have:=congrArg List.length e;simp only [List.length_append,YP,List.length_singleton] at this;omega)]
  exact L7 j (by omega)
 ·obtain⟨hq,rfl,hm,_⟩:=hs
  have rv:decide ((n:Int) - 1 - (n:Int)≥0)=false:=by rw [decide_eq_false_iff_not];omega
  simp only [rv]
  refine .cu (P:=fun _=>True) (fun aj=>by cases aj) fun _ _=>.cu (P:=fun _=>True) (fun aj=>by cases aj) fun _ _=>.cond (fun aj=>by cases aj) fun _=>.ret hm
 obtain⟨mB,c8,c2,gG⟩:=sL.cell
 refine .eq c8 ?_
 rw [gG]
 obtain⟨NP,ur⟩:=sL.tree.reads [] r rfl
 refine .eq (empty_eq ur) (.bind (P:=fun bl=>jH bl t (fun a4=>if a4=dP v n then none else g a4)∧fp hp bl (Own hp t)∧ ∀ q,Own bl t q→Own hp t q) (.cond (fun dI=>.eq rfl (.ret ?_)) fun _=>.ret ?_) fun bl cx=>.ret ⟨rfl,cx⟩)
 ·rw [Bool.and_eq_true,Bool.not_eq_true',decide_eq_true_eq] at dI
  obtain⟨bu,dF⟩:=dI
  have Us:gr (dr aX.2.2 t (.ky { mB with ep:=none })) t=some { mB with ep:=none } :=PZ (s6.1 c8)
  refine⟨⟨_,Us,c2,⟨fun a4 p h=>(by rw [g7] at h;cases h),fun a4 cs p h=>(by rw [g7] at h;cases h),fun a4 p h=>(by rw [g7] at h;cases h)⟩,fun a4=>?_⟩,sL.keeps.trans (fp.up (own:=Own hp t) (.inl rfl)) fun q _ h=>h,fun q hq=>?_⟩
  ·rw [k7 g7,← sL.cont]
   cases a4 with
   | nil=>rw [kK (p:=r) rfl ur,bu];rfl
   | cons b a4=>rw [k7];rw [h8 ur,dF,FV];exact g7
  rcases hq with rfl | ⟨j4,a4,dT,ew⟩
  ·exact .inl rfl
  rw [Us] at dT;cases dT
  rw [g7] at ew;cases ew
 refine⟨⟨mB,c8,c2,by rw [gG];exact sL.tree,fun a4=>by rw [gG];exact sL.cont a4⟩,sL.keeps,fun q hq=>?_⟩
 rcases hq with rfl | ⟨j4,a4,dT,ew⟩
 ·exact .inl rfl
 rw [c8] at dT;cases dT
 rw [gG] at ew
 exact sL.own a4 q ew
def k1 (hp:aN Cell):Nat→Ref→List Int
 | 0,_=>[]
 | _+1,none=>[]
 | n+1,some p=>match cZ hp p with
   | none=>[]
   | some c=>(bif c.fu then [c.hY] else [])++(k1 hp n (bH c.df 0)++k1 hp n (bH c.df 1))
theorem GY {hp:aN Cell}{n p:Nat}{c:ec}(h:cZ hp p=some c):k1 hp (n+1) (some p)=(bif c.fu then [c.hY] else [])++(k1 hp n (bH c.df 0)++k1 hp n (bH c.df 1)):=by
 show(match cZ hp p with | none=>[] | some c=>_)=_;rw [h]
theorem s7 {hp:aN Cell}{p:Nat}{c:ec}(h:cZ hp p=some c)(b:Bool)(a4:List Bool):cont hp (some p) (b::a4)=cont hp (bH c.df (fO b)) a4:=by
 unfold cont;rw [h8 h]
theorem w6 {hp:aN Cell} :∀ {n:Nat} {r:Ref} {id:Int},id∈k1 hp n r→ ∃ a4,cont hp r a4=some id
 | 0,_,_,h=>by cases h
 | _+1,none,_,h=>by cases h
 | n+1,some p,id,h=>by
   cases aj:cZ hp p with
   | none=>
     have:k1 hp (n+1) (some p)= []:=by
      show(match cZ hp p with | none=>[] | some c=>_)=_;rw [aj]
     rw [this] at h;cases h
   | some c=>
     rw [GY aj] at h
     rcases List.mem_append.1 h with h | h
     ·refine⟨[],?_⟩
      rw [kK (p:=p) rfl aj]
      cases hu:c.fu with
      | true=>rw [hu] at h;rw [List.mem_singleton.1 h];rfl
      | false=>rw [hu] at h;cases h
     rcases List.mem_append.1 h with h | h
     ·obtain⟨a4,lH⟩:=w6 h
      exact⟨false::a4,by rw [s7 aj];exact lH⟩
     obtain⟨a4,lH⟩:=w6 h
     exact⟨true::a4,by rw [s7 aj];exact lH⟩
theorem P9 {hp:aN Cell} :∀ {n:Nat} {r:Ref} {id:Int} {a4:List Bool},a4.length<n→cont hp r a4=some id→id∈k1 hp n r
 | 0,_,_,_,an,_=>by omega
 | n+1,none,id,a4,_,h=>by rw [k7 g7] at h;cases h
 | n+1,some p,id,a4,an,h=>by
   cases aj:cZ hp p with
   | none=>
     exfalso
     cases a4 with
     | nil=>
       unfold cont at h
       have:c5 hp (some p) []=some p:=rfl
       rw [this] at h
       simp only [aj] at h;cases h
     | cons b a4=>
       have:c5 hp (some p) (b::a4)=none:=by
        show(match cZ hp p with | none=>none | some c=>c5 hp (bH c.df (fO b)) a4)=none;rw [aj]
       rw [k7 this] at h;cases h
   | some c=>
     rw [GY aj]
     cases a4 with
     | nil=>
       rw [kK (p:=p) rfl aj] at h
       cases hu:c.fu with
       | true=>
         rw [hu] at h
         have:c.hY=id:=by simpa using h
         rw [this];simp
       | false=>rw [hu] at h;cases h
     | cons b a4=>
       rw [s7 aj] at h
       have lf:a4.length<n:=by simp at an;omega
       have:=P9 lf h
       cases b
       ·exact List.mem_append_right _ (List.mem_append_left _ this)
       exact List.mem_append_right _ (List.mem_append_right _ this)
theorem Px {hp:aN Cell} :∀ {n:Nat} {r:Ref},(∀ a4 cs id,cont hp r a4=some id→cont hp r cs=some id→a4=cs)→ (k1 hp n r).Nodup
 | 0,_,_=>List.nodup_nil
 | _+1,none,_=>List.nodup_nil
 | n+1,some p,h=>by
   cases aj:cZ hp p with
   | none=>
     have:k1 hp (n+1) (some p)= []:=by
      show(match cZ hp p with | none=>[] | some c=>_)=_;rw [aj]
     rw [this];exact List.nodup_nil
   | some c=>
     rw [GY aj]
     have hb:∀ b,(k1 hp n (bH c.df (fO b))).Nodup:=fun b=>Px fun a4 cs id aa ae=>by
      have:=h (b::a4) (b::cs) id (by rw [s7 aj];exact aa) (by rw [s7 aj];exact ae);simpa using this
     rw [List.nodup_append,List.nodup_append]
     refine⟨by cases c.fu <;> simp,⟨hb false,hb true,fun a bb j4 mW e=>?_⟩,fun a bb j4 mW e=>?_⟩
     ·subst e
      obtain⟨a4,aa⟩:=w6 bb
      obtain⟨cs,ae⟩:=w6 mW
      have:=h (false::a4) (true::cs) a (by rw [s7 aj];exact aa) (by rw [s7 aj];exact ae)
      simp at this
     subst e
     cases hu:c.fu with
     | false=>rw [hu] at bb;cases bb
     | true=>
       rw [hu] at bb
       have bb:a=c.hY:=List.mem_singleton.1 bb
       have bO:cont hp (some p) []=some a:=by rw [kK (p:=p) rfl aj,hu,bb];rfl
       rcases List.mem_append.1 mW with aa | aa
       ·obtain⟨a4,aa⟩:=w6 aa
        have:=h [] (false::a4) a bO (by rw [s7 aj];exact aa)
        cases this
       obtain⟨a4,aa⟩:=w6 aa
       have:=h [] (true::a4) a bO (by rw [s7 aj];exact aa)
       cases this
theorem Qa:∀ {l m:List Int},l.Nodup→ (∀ x∈l,x∈m)→l.length≤m.length
 | [],m,_,_=>Nat.zero_le _
 | x::l,m,aR,h=>by
   obtain⟨aa,ae⟩:=List.nodup_cons.1 aR;have ar:=h x (by simp);have:=Qa (m:=m.erase x) ae fun y a5=>(List.mem_erase_of_ne fun e=>aa (by rw [← e];exact a5)).2 (h y (by simp [a5]));rw [List.length_erase_of_mem ar] at this;have hp:=List.length_pos_of_mem ar;simp only [List.length_cons];omega
theorem YS (v:az)(n:Int):bk (B4 v n) (fun _=>True):=by
 unfold B4;exact .cond (fun _=>.ret trivial) fun _=>.cond (fun _=>.eq rfl (.ret trivial)) fun _=>.eq rfl (.eq rfl (.ret trivial))
theorem Ks {hp:aN Cell}{t:Nat}{c:fX}(aj:gr hp t=some c):∀ (d f:Nat) (r:Ref) (aT:az) (cG:Int) (je:List dL),d<f→ (∀ a4 p,c5 hp r a4=some p→a4.length<d)→ (∀ a4 p,c5 hp r a4=some p→ ∃ c,cZ hp p=some c)→je.length+(k1 hp d r).length≤20000→
 bk (wq f hp (some t) r aT cG je) (fun o=>o.length=je.length+(k1 hp d r).length)
 | d,0,r,aT,cG,je,a2,_,_,_=>by omega
 | 0,f+1,none,aT,cG,je,a2,hd,aO,an=>⟨je,rfl,rfl⟩
 | 0,f+1,some p,aT,cG,je,a2,hd,aO,an=>by have:=hd [] p rfl;simp at this
 | d+1,f+1,none,aT,cG,je,a2,hd,aO,an=>⟨je,rfl,rfl⟩
 | d+1,f+1,some p,aT,cG,je,a2,hd,aO,an=>by
   obtain⟨e,he⟩:=aO [] p rfl;rw [GY he] at an ⊢;simp only [List.length_append] at an ⊢;have pX:∀ b,(∀ a4 q,c5 hp (bH e.df (fO b)) a4=some q→a4.length<d)∧ ∀ a4 q,c5 hp (bH e.df (fO b)) a4=some q→ ∃ c,cZ hp q=some c:=fun b=>⟨fun a4 q hq=>by
    have:=hd (b::a4) q (by rw [h8 he];exact hq);simp at this;omega,fun a4 q hq=>aO (b::a4) q (by rw [h8 he];exact hq)⟩
   show bk (cond (some p:Ref).isNone (some je) _) _;refine .cond (fun aj=>by cases aj) fun _=>?_;refine .bind (P:=fun y=>y.length=je.length+(bif e.fu then [e.hY] else []).length) ?_ fun aE bm=>?_
   ·unfold Fl;refine .eq rfl (.eq he ?_);cases hu:e.fu with
    | true=>
      rw [hu] at an
      simp only [cond_true,List.length_singleton] at an
      refine .eq (a:=je++[{ cU:=aT,w0:=cG,bP:=e.hY }]) ?_ (.ret (by simp))
      show(g9 32 je _).bind _=_
      rw [iJ _ _ (by simp;omega) (by omega)];rfl
    | false=>exact .eq rfl (.ret (by simp))
   refine .eq rfl (.eq he (.bind (Ks aj d f _ aT (bt (cG+1)) aE (by omega) (pX false).1 (pX false).2 (by rw [bm];show _+_+(k1 hp d (bH e.df 0)).length≤_;omega)) fun aK b4=>?_));have b4:aK.length=aE.length+(k1 hp d (bH e.df 0)).length:=b4;refine .eq rfl (.eq rfl (.eq aj (.bind (YS _ _) fun bG _=>.eq rfl (.bind (Ks aj d f _ _ (bt (cG+1)) aK (by omega) (pX true).1 (pX true).2 (by rw [b4,bm];show _+_+_+(k1 hp d (bH e.df 1)).length≤_;omega)) fun ck iu=>.ret ?_))));have iu:ck.length=aK.length+(k1 hp d (bH e.df 1)).length:=iu;rw [iu,b4,bm];omega
theorem abk {hp:aN Cell}{t:Nat}{g:List Bool→Option Int}(h:jH hp t g)(au:∀ a4 cs id,g a4=some id→g cs=some id→a4=cs)(m:List Int)(hm:∀ a4 id,g a4=some id→id∈m)(an:m.length≤20000):bk (y6 hp (some t)) (fun r=>r=0→ ∀ a4,g a4=none):=by
 obtain⟨c,aj,hb,bM,bD⟩:=h.ok;have aR:(k1 hp 33 c.ep).Nodup:=Px fun a4 cs id aa ae=>au a4 cs id (by rw [← bD];exact aa) (by rw [← bD];exact ae);have hle:(k1 hp 33 c.ep).length≤m.length:=Qa aR fun x ar=>by
  obtain⟨a4,lH⟩:=w6 ar;exact hm a4 x (by rw [← bD];exact lH)
 unfold y6 FO Fc;refine .bind (P:=fun y=>y.length=(k1 hp 33 c.ep).length) (.bind (P:=fun y=>y.length=(k1 hp 33 c.ep).length) (.bind (P:=fun y=>y.length=(k1 hp 33 c.ep).length) (.cond (fun _=>.eq rfl (.eq aj ((show bk (ID hp (some t) c.ep default 0 []) _ from Ks aj 33 ei c.ep default 0 [] (by unfold ei;omega) (fun a4 p hp=>by have:=bM.dep a4 p hp;omega) bM.reads (by simp;omega)).bind fun y a5=>.ret (by simpa using a5)))) fun aj=>by cases aj) fun y a5=>.ret a5) fun y a5=>.ret a5) fun y a5=>.ret fun bO a4=>?_;have bO:(k1 hp 33 c.ep).length=0:=by rw [← a5];have:(y.length:Int)=0:=bO;omega
 cases ag1:g a4 with
 | none=>rfl
 | some id=>
   have Nk:cont hp c.ep a4=some id:=by rw [bD];exact ag1
   have hlen:a4.length<33:=by
    cases a2:c5 hp c.ep a4 with
    | none=>rw [k7 a2] at Nk;cases Nk
    | some p=>have:=bM.dep a4 p a2;omega
   have:=P9 hlen Nk
   rw [List.eq_nil_of_length_eq_zero bO] at this;cases this
theorem ZB (x:cN)(n:Int)(an:x.cg.length≤1000):bk (Fi x n) (fun r=>(r= -1∧jl x.cg n=false)∨ ∃ i:Nat,i<x.cg.length∧r=i∧ (aF x.cg i).cl=n∧jl x.cg n=true∧ ∀ j,j<i→ (aF x.cg j).cl≠n):=SQ x n an
theorem aaA {l:List ax}{n:Int}{i:Nat}(aR:l.Pairwise fun a c=>a.cl≠c.cl)(au:i<l.length)(h:(aF l i).cl=n):
 l.take i++l.drop (i+1)=l.filter (fun c=>c.cl !=n):=by
 rw [eO _ au] at h
 have yj:l=l.take i++l[i]::l.drop (i+1):=by rw [List.getElem_cons_drop,List.take_append_drop]
 rw [yj,List.pairwise_append] at aR
 obtain⟨aa,ae,aG⟩:=aR
 obtain⟨a0,a7⟩:=List.pairwise_cons.1 ae
 conv=>rhs;rw [yj]
 rw [List.filter_append,List.filter_cons_of_neg (by simp [h])]
 congr 1
 ·exact(List.filter_eq_self.2 fun c aj=>by have:=aG c aj l[i] List.mem_cons_self;rw [h] at this;simpa using this).symm
 exact(List.filter_eq_self.2 fun c aj=>by have:=a0 c aj;rw [h] at this;simp;exact fun e=>this e.symm).symm
theorem jo.filter {s:aZ}{k:Nat}{l:List ax}(h:jo s k l)(q:ax→Bool):jo s k (l.filter q) where
 ok i au:=h.ok i (List.mem_filter.1 au).1
 num:=h.num.sublist List.filter_sublist
 len:=Nat.le_trans (List.length_filter_le _ _) h.len
theorem YT {s:aZ}{k:Nat}{l:List ax}(an:jo s k l)(n:Int):
 A0 (o5 s k l) n=some (jl l n,o5 s k (l.filter fun c=>c.cl !=n)):=by
 refine bk.get ?_
 unfold A0
 obtain⟨js,gP⟩:=an.e1
 refine(ZB (o5 s k l) n (by show(e1 _ l).length≤1000;omega)).bind fun aE aa=>?_
 rcases aa with⟨rfl,ae⟩ | ⟨j,ae,rfl,aG,a0,a7⟩
 ·have l4:jl l n=false:=by rw [← ae];exact GD.symm
  refine .cond (fun _=>.ret ?_) fun aj=>by simp at aj
  rw [l4,List.filter_eq_self.2 fun c aj=>by simpa using QD l4 c aj]
 have v8:jl l n=true:=by rw [← a0];exact GD.symm
 refine .cond (fun aj=>by simp at aj;omega) fun _=>?_
 have aH:j<(e1 (eT s k) l).length:=ae
 refine .eq (a:=e1 (eT s k) (l.filter fun c=>c.cl !=n)) ?_ (.ret ?_)
 ·show DM (e1 (eT s k) l) _ _=_
  unfold DM
  rw [e2 (by omega),if_pos ⟨by omega,by omega,by omega⟩]
  have ag2:(e1 (eT s k) l).Pairwise fun a c=>a.cl≠c.cl:=((Kl l).symm.pairwise_iff fun cA=>fun e=>cA e.symm).1 an.num
  rw [← YG (q3 s k) an.v7,← aaA ag2 aH aG]
  simp
 rw [v8];rfl
def gb (l:List ax)(e:a8):List ax:=l.filter fun c=> !gn c.bj e
theorem m6 {l:List ax}{e:a8}{c:ax} :c∈gb l e↔c∈l∧gn c.bj e=false:=by
 unfold gb;rw [List.mem_filter];simp
theorem h5.gb {s:aZ}{k:Nat}{l:List ax}(h:h5 s k l)(e:a8):h5 s k (Go.Proofs.YthkfkliknjiecaaGreat.gb l e):=
 ⟨h.ok.filter _,h.key.sublist List.filter_sublist⟩
theorem Gn {s:aZ}{k:Nat}{l:List ax}(h:h5 s k l){e:a8}{i:ax}(au:i∈l)(aw:gn i.bj e=true):gb l e=l.filter fun c=>c.cl !=i.cl:=by
 unfold gb;refine List.filter_congr fun c aj=>?_;by_cases aq:c=i
 ·rw [aq,aw];simp
 have aa:gn c.bj e=false:=by
  rw [Bool.eq_false_iff];intro ae;exact aq (h.uniq aj au (ta ae (by rw [xb];exact aw)))
 have ae:c.cl≠i.cl:=fun ae=>aq (h.ok.uniq aj au ae);rw [aa];simp [ae]
theorem afE {s:aZ}(h:c1 s){hp:aN Cell}{q:Nat}{l:List ax}{own:Nat→Prop}(hq:xm s hp q l own)(an:h5 s 0 l){i:ax}(au:i∈l):
 bk (Bc hp ⟨some q⟩ i) (fun hp'=>xm s hp' q (gb l i.bj) own∧fp hp hp' own):=by
 obtain⟨m,em,aa,ae,aG,a0,a7,jX⟩:=hq.ok
 have hE:=(an.ok.ok i au).dS
 have bD:dW em (fl i.bj)=some i.cl:=(a7 _ _).2 ⟨i,au,rfl,rfl⟩
 unfold Bc Ft uJ
 refine .eq (GH (hE.HG h (by decide)).1) ?_
 refine .eq (a:=(true,dr hp m (Cell.o6 (iP em (fl i.bj))))) ?_ (.ret ?_)
 ·show((nK hp q).bind _).bind _=_
  rw [aa]
  show((mM hp m).bind _).bind _=_
  rw [ae]
  show cond (!(dW em (fl i.bj)).isSome) _ _=_
  rw [bD]
  show(nK hp q).bind _=_
  rw [aa]
  show(mM hp m).bind _=_
  rw [ae];rfl
 have EI:q≠m:=fun e=>by
  subst e;have:=u4 aa;rw [sg ae] at this;cases this
 refine⟨⟨m,_,by rw [Jm (m4 EI.symm)];exact aa,P4 (sg ae),aG,a0,fun c9 n=>?_,jX.del⟩,.up a0⟩
 rw [Cm jX]
 by_cases hF:c9=fl i.bj
 ·rw [if_pos hF]
  refine⟨fun e=>(by cases e),fun⟨c,aj,bn,dn⟩=>?_⟩
  obtain⟨ao,a3⟩:=m6.1 aj
  rw [(EH h (an.ok.ok c ao).dS hE).2 (bn.trans hF)] at a3;cases a3
 rw [if_neg hF,a7]
 constructor
 ·rintro ⟨c,aj,bn,dn⟩
  refine⟨c,m6.2 ⟨aj,?_⟩,bn,dn⟩
  rw [Bool.eq_false_iff];intro fh
  exact hF (by rw [← bn];exact(EH h (an.ok.ok c aj).dS hE).1 fh)
 rintro ⟨c,aj,bn⟩
 exact⟨c,(m6.1 aj).1,bn⟩
theorem afF {s:aZ}(h:c1 s){hp:aN Cell}{m:Nat}{l:List ax}{own:Nat→Prop}(hq:nf s hp m l own)(an:h5 s 1 l){i:ax}(au:i∈l):
 bk (A6 hp ⟨0,32,⟨some m⟩⟩ i) (fun hp'=>nf s hp' m (gb l i.bj) own∧fp hp hp' own):=by
 obtain⟨em,mX,ae,aG,a0,a7,jX⟩:=hq.ok
 have hE:=(an.ok.ok i au).dS
 have ha:=vM h hE
 have bM:∃ t,dW em (gU (fl i.bj))=some (some t):=by
  cases bD:dW em (gU (fl i.bj)) with
  | none=>exact absurd rfl (a0 _ bD i au)
  | some r=>obtain⟨t,g,rfl,_⟩:=aG _ _ bD;exact⟨t,rfl⟩
 obtain⟨t,bM⟩:=bM
 obtain⟨fT,g,e,ao,a3,bx⟩:=aG _ _ bM
 cases e
 obtain⟨n,aR⟩:=Int.eq_ofNat_of_zero_le ha.pre.1
 have DX:n≤32:=by have:=ha.pre.2;omega
 have vw:=JW ha
 have hp':dP (aF i.bj.bU 0).cU n=kj i.bj:=by unfold kj;rw [aR];rfl
 have ag3:g (kj i.bj)=some i.cl:=(bx _ _).2 ⟨i,au,rfl,rfl,rfl⟩
 have Ut:∀ c∈l,gU (fl c.bj)=gU (fl i.bj)→ (gn c.bj i.bj=false↔kj c.bj≠kj i.bj):=fun c aj ar=>by
  rw [Bool.eq_false_iff,ne_eq,AI h (an.ok.ok c aj).dS hE];exact⟨fun aa ae=>aa ⟨ar,ae⟩,fun aa ae=>aa ae.2⟩
 have l3:∀ c∈l,gU (fl c.bj)≠gU (fl i.bj)→gn c.bj i.bj=false:=fun c aj ar=>by
  rw [Bool.eq_false_iff,ne_eq,AI h (an.ok.ok c aj).dS hE];exact fun aa=>ar aa.1
 unfold A6
 refine .eq (Kq h hE _) (.eq rfl (.eq mX (.eq rfl ?_)))
 simp only [bM]
 rw [aR] at vw ⊢
 refine(show bk (yT hp (some t) (aF i.bj.bU 0).cU (n:Int)) _ from YR ao DX vw (by rw [hp'];exact ag3)).bind fun aK aO=>?_
 obtain⟨_,js,gP,ph⟩:=aO
 rw [hp'] at js
 obtain⟨aiu,di⟩:=aK
 simp only at js gP ph ⊢
 have AH:∀ q,Own hp t q→q≠m:=fun q Ng e=>by
  have:=nd mX;rw [← e] at this;rcases ao.GX Ng with⟨c,aj⟩ | ⟨c,aj⟩ <;> rw [aj] at this <;> cases this
 have lg:pat di m=pat hp m:=gP.rest m (jF (nd mX)) fun hq=>AH m hq rfl
 have L8:kt di m=some em:=by rw [F3 lg];exact mX
 have DY:∀ a4 uB,(if a4=kj i.bj then none else g a4)=some uB↔ ∃ c∈gb l i.bj,gU (fl c.bj)=gU (fl i.bj)∧kj c.bj=a4∧c.cl=uB:=fun a4 uB=>by
  by_cases lH:a4=kj i.bj
  ·rw [if_pos lH];refine⟨fun e=>(by cases e),fun⟨c,aj,bn,dn,_⟩=>?_⟩;obtain⟨c8,c2⟩:=m6.1 aj;exact absurd (dn.trans lH) ((Ut c c8 bn).1 c2)
  rw [if_neg lH,bx];constructor
  ·rintro ⟨c,aj,bn,dn,fh⟩;exact⟨c,m6.2 ⟨aj,(Ut c aj bn).2 fun e=>lH (dn.symm.trans e)⟩,bn,dn,fh⟩
  rintro ⟨c,aj,bn⟩;exact⟨c,(m6.1 aj).1,bn⟩
 have sj:∀ c9 fT,c9≠gU (fl i.bj)→dW em c9=some (some fT)→ ∃ fa,jH hp fT fa∧jH di fT fa∧ (∀ q,Own hp fT q→own q)∧ (∀ q,Own di fT q↔Own hp fT q)∧ ∀ a4 n,fa a4=some n↔ ∃ c∈gb l i.bj,gU (fl c.bj)=c9∧kj c.bj=a4∧c.cl=n:=fun c9 fT db aO=>by
  obtain⟨agX,fa,e,c8,c2,gG⟩:=aG c9 _ aO;cases e;obtain⟨dT,ew⟩:=c8.congr (hp':=di) fun q hq=>gP.rest q (c8.xl hq) fun kA=>a7 _ _ _ _ bM aO db.symm q kA hq;refine⟨fa,c8,dT,c2,ew,fun a4 n=>?_⟩;rw [gG];constructor
  ·rintro ⟨c,aj,bn,dn⟩;exact⟨c,m6.2 ⟨aj,l3 c aj (by rw [bn];exact db)⟩,bn,dn⟩
  rintro ⟨c,aj,bn⟩;exact⟨c,(m6.1 aj).1,bn⟩
 have cV:fp hp di own:=⟨gP.keys,fun q hq gf=>gP.rest q hq fun kA=>gf (a3 q kA)⟩
 have cY:nf s di m (gb l i.bj) own:=by
  refine⟨em,L8,ae,fun c9 k5 jN=>?_,fun c9 hF c aj=>a0 c9 hF c (m6.1 aj).1,fun c9 kC t1 t2 j0 k0 db q ki nU=>?_,jX⟩
  ·by_cases hF:c9=gU (fl i.bj)
   ·subst hF;rw [bM] at jN;cases jN;exact⟨t,_,rfl,js,fun q hq=>a3 q (ph q hq),DY⟩
   obtain⟨fT,fa,e,_⟩:=aG c9 k5 jN;subst e;obtain⟨yl,c8,c2,gG,km,pZ⟩:=sj c9 fT hF jN;exact⟨fT,yl,rfl,c2,fun q hq=>gG q ((km q).1 hq),pZ⟩
  have fc:∀ c9 t1,dW em c9=some (some t1)→ ∀ q,Own di t1 q→Own hp t1 q:=fun c9 t1 j0 q ki=>by
   by_cases aq:c9=gU (fl i.bj)
   ·subst aq;rw [bM] at j0;cases j0;exact ph q ki
   obtain⟨_,_,_,_,km,_⟩:=sj c9 t1 aq j0;exact(km q).1 ki
  exact a7 _ _ _ _ j0 k0 db q (fc c9 t1 j0 q ki) (fc kC t2 k0 q nU)
 refine .eq L8 (.eq rfl ?_)
 simp only [bM]
 refine(show bk (y6 di (some t)) _ from abk js (fun a4 cs id aa ae=>?_) (l.map (·.cl)) (fun a4 id aa=>?_) (by rw [List.length_map];have:=an.ok.len;omega)).bind fun bs bn=>?_
 ·obtain⟨c,aj,_,dT,ew⟩:=(DY _ _).1 aa
  obtain⟨d,hd,_,d1,d2⟩:=(DY _ _).1 ae
  have:=an.ok.uniq (m6.1 aj).1 (m6.1 hd).1 (ew.trans d2.symm)
  rw [← dT,← d1,this]
 ·obtain⟨c,aj,_,dT,ew⟩:=(DY _ _).1 aa
  exact List.mem_map.2 ⟨c,(m6.1 aj).1,ew⟩
 refine .bind (P:=fun hp'=>nf s hp' m (gb l i.bj) own∧fp hp hp' own) (.cond (fun dI=>.eq rfl (.ret ?_)) fun _=>.ret ⟨cY,cV⟩) fun bl cx=>.ret cx
 have bn:=bn (by simpa using dI)
 have Am:=nd L8
 have L9:∀ fT fa,jH di fT fa→jH (dr di m (Cell.mQ (iP em (gU (fl i.bj))))) fT fa∧ ∀ q,Own (dr di m (Cell.mQ (iP em (gU (fl i.bj))))) fT q↔Own di fT q:=fun fT fa yk=>yk.congr fun q qI=>m4 fun e=>by
  rw [e] at Am;rcases yk.GX qI with⟨c,aj⟩ | ⟨c,aj⟩ <;> rw [aj] at Am <;> cases Am
 refine⟨⟨_,P5 Am,ae,fun c9 k5 jN=>?_,fun c9 hF c aj=>?_,fun c9 kC t1 t2 j0 k0 db q ki nU=>?_,jX.del⟩,cV.trans (fp.up ae) fun q _ hq=>hq⟩
 ·rw [Cm jX] at jN
  split at jN
  ·cases jN
  rename_i hF
  obtain⟨fT,fa,e,_⟩:=aG c9 k5 jN
  subst e
  obtain⟨yl,c8,c2,gG,km,pZ⟩:=sj c9 fT hF jN
  obtain⟨dT,ew⟩:=L9 fT yl c2
  exact⟨fT,yl,rfl,dT,fun q hq=>gG q ((km q).1 ((ew q).1 hq)),pZ⟩
 ·rw [Cm jX] at hF
  split at hF
  ·rename_i e
   intro ar
   have:=(DY _ _).2 ⟨c,aj,ar.trans e,rfl,rfl⟩
   rw [bn] at this;cases this
  exact a0 c9 hF c (m6.1 aj).1
 rw [Cm jX] at j0 k0
 split at j0
 ·cases j0
 split at k0
 ·cases k0
 rename_i aq aX
 obtain⟨agS,c8,c2,gG,km,_⟩:=sj c9 t1 aq j0
 obtain⟨agT,dT,ew,iH,Iz,_⟩:=sj kC t2 aX k0
 exact a7 _ _ _ _ j0 k0 db q ((km q).1 (((L9 t1 _ c2).2 q).1 ki)) ((Iz q).1 (((L9 t2 _ ew).2 q).1 nU))
theorem srem {s:aZ}{k:Nat}{hp:aN Cell}{q:Nat}{l:List ax}{own:Nat→Prop}(hq:xn s k hp q l own)(an:h5 s k l){i:ax}(au:i∈l):
 dz (Bd hp ⟨some q⟩ i) (fun hp'=>xn s k hp' q (gb l i.bj) own∧fp hp hp' own):=by
 obtain⟨key,cap,aa,ae⟩:=hq.ok
 unfold Bd
 refine .eq rfl (.eq aa (.eq (YT an.ok _) (.any fun aB=>.eq rfl (.ret ?_))))
 rw [Gn an au (u1 _)]
 exact⟨⟨aB.1,aB.2,P6 (va aa),ae⟩,.up ae⟩
theorem afG {s:aZ}(h:c1 s){k:Nat}{hp:aN Cell}{f:g6}{l:List ax}{own:Nat→Prop}(hq:qp s k hp f l own)(an:h5 s k l){i:ax}(au:i∈l):
 dz (IK hp f i) (fun hp'=>qp s k hp' f (gb l i.bj) own∧fp hp hp' own):=by
 rcases hq with⟨rfl,q,rfl,hq⟩ | ⟨rfl,m,rfl,hq⟩ | ⟨cV,q,rfl,hq⟩
 ·exact dz.of ((afE h hq an au).mono fun hp' aO=>⟨.inl ⟨rfl,q,rfl,aO.1⟩,aO.2⟩)
 ·exact dz.of ((afF h hq an au).mono fun hp' aO=>⟨.inr (.inl ⟨rfl,m,rfl,aO.1⟩),aO.2⟩)
 exact(srem hq an au).mono fun hp' aO=>⟨.inr (.inr ⟨cV,q,rfl,aO.1⟩),aO.2⟩
theorem OR {α β:Type}[DecidableEq α]:∀ {l:List (α×β)} {x:α},oH l→iP l x=l.filter fun a=>decide (a.1≠x)
 | [],_,_=>rfl
 | (k,w)::r,x,h=>by
   obtain⟨aa,ae⟩:=List.pairwise_cons.1 h;unfold iP;by_cases e:x=k
   ·rw [if_pos e,List.filter_cons_of_neg (by simp [e])];exact(List.filter_eq_self.2 fun a bb=>by simpa using fun e'=>aa a bb (by rw [← e,e'])).symm
   rw [if_neg e,List.filter_cons_of_pos (by simpa using fun e'=>e e'.symm),OR ae]
theorem tQ.Is {s:aZ}{k:Nat}{em:List (Int×ax)}{l:List ax}(h:tQ em l)(an:jo s k l):oH em:=by
 refine(h.pairwise_iff fun cA=>Ne.symm cA).2 ?_;rw [List.pairwise_map];exact an.num.imp fun cA=>cA
theorem YU {s:aZ}(h:c1 s){k:Nat}(aw:k<4){hp:aN Cell}{p:Nat}{l:List ax}{own:Nat→Prop}(ar:kT s k hp p l own){e:a8}(he:hH s k e):
 dz (Bq hp (some p) e) (fun r=>(r.1,r.2.1)=jq (e0 l e)∧kT s k r.2.2 p (gb l e) own∧fp hp r.2.2 own):=by
 obtain⟨f,m,em,aa,ae,aG,a0,a7,bn⟩:=ar.cell
 have hm:=qZ ae
 have hp':=mJ aa
 have lg:p≠m:=fun e=>by rw [e,hm] at hp';cases hp'
 unfold Bq
 refine .eq (QN h aw ar he) ?_
 refine .bind (P:=fun bl=>kT s k bl p (gb l e) own∧fp hp bl own) (.cond (fun aj=>?_) fun aj=>.ret ?_) fun bl cx=>.ret ⟨rfl,cx⟩
 ·cases a2:e0 l e with
  | none=>rw [a2] at aj;cases aj
  | some i=>
    obtain⟨au,kB⟩:=qV a2
    have ag4:gb l i.bj=gb l e:=by
     rw [Gn ar.iI au (u1 _),Gn ar.iI au kB]
    refine .eq rfl (.eq aa (.bind (afG h bn ar.iI au) fun di aO=>?_))
    obtain⟨js,gP⟩:=aO
    have js:qp s k di f (gb l i.bj) (fun q=>own q∧q≠m∧q≠p):=js
    rw [ag4] at js
    show dz (av.bind (av.of (iq di p)) fun cD=>av.bind (av.of cD.kI.p) fun cR=>av.bind (av.of (lx di cR)) fun g3=>av.bind (av.of (some (dr di cR (Cell.lb (iP g3 i.cl))))) fun cP=>av.ret cP) _
    have c8:pat di p=some (.oj ⟨pq k,(ih s k:Int),f,⟨some m⟩⟩):=by rw [gP.rest p (jF hp') (fun hq=>hq.2.2 rfl)];exact hp'
    have c2:pat di m=some (.lb em):=by rw [gP.rest m (jF hm) (fun hq=>hq.2.1 rfl)];exact hm
    refine .eq (by unfold iq;rw [c8]) (.eq rfl (.eq (by unfold lx;rw [c2]) (.eq rfl (.ret ?_))))
    have ag5:fp hp di own:=⟨gP.keys,fun q hq gf=>gP.rest q hq fun h=>gf h.1⟩
    have l2:fp hp (dr di m (Cell.lb (iP em i.cl))) own:=ag5.trans (fp.up (own:=own) a0) fun q _ hq=>hq
    refine⟨⟨ar.iI.gb e,⟨f,m,_,by unfold iq;rw [m4 lg.symm,c8],ZA c2,aG,a0,?_,js.congr (fun q _ hq=>hq) fun q hq=>m4 hq.2.1.symm⟩,fun q hq=>l2.keys q (ar.uq q hq)⟩,l2⟩
    unfold tQ
    rw [OR (a7.Is ar.iI.ok),Gn ar.iI au kB]
    refine(a7.filter _).trans ?_
    rw [List.filter_map]
    have:((fun a:Int×ax=>decide (a.1≠i.cl)) ∘ fun c:ax=>(c.cl,c))=fun c=>c.cl !=i.cl:=by
     funext c;show decide (c.cl≠i.cl)=_;by_cases e:c.cl=i.cl <;> simp [e]
    rw [this]
 have a2:e0 l e=none:=by
  cases a2:e0 l e with
  | none=>rfl
  | some i=>rw [a2] at aj;cases aj
 have:gb l e=l:=by
  unfold gb;exact List.filter_eq_self.2 fun c aj=>by rw [tb a2 c aj];rfl
 rw [this]
 exact⟨ar,.refl⟩
theorem Jn {hp hp':aN Cell}{p:Nat}(h:pat hp' p=pat hp p):jR hp' p=jR hp p:=by unfold jR;rw [h]
theorem Jo {hp hp':aN Cell}{p:Nat}(h:pat hp' p=pat hp p):ni hp' p=ni hp p:=by unfold ni;rw [h]
theorem ZC {hp:aN Cell}{p:Nat}{k:Cell}{x:ij}(h:pat hp p=some k):jR (dr hp p (.pH x)) p=some x:=by unfold jR;rw [tq h]
theorem ZD {hp:aN Cell}{p:Nat}{k:Cell}{x:List (Int×Ref)}(h:pat hp p=some k):ni (dr hp p (.qt x)) p=some x:=by unfold ni;rw [tq h]
structure xo (s:aZ)(hp:aN Cell)(p m:Nat)(hg:List (Int×Ref))(n:Nat)(ls:Nat→List ax)(own:Nat→Nat→Prop):Prop where
 has:∀ k,k<n→ ∃ q,dW hg ((k:Int)+1)=some (some q)∧kT s k hp q (ls k) (own k)
 no:∀ x:Int,x<1∨ (n:Int)<x→dW hg x=none
 EJ:∀ k k',k<n→k'<n→k≠k'→ ∀ q,own k q→ ¬ own k' q
 out:∀ k,k<n→ ¬ own k p∧ ¬ own k m
theorem xo.congr {s:aZ}{hp hp':aN Cell}{p m:Nat}{hg:List (Int×Ref)}{n:Nat}{ls:Nat→List ax}{own:Nat→Nat→Prop}(h:xo s hp p m hg n ls own)(aw:∀ q,q∈eZ hp→q∈eZ hp')(bb:∀ k,k<n→ ∀ q,own k q→pat hp' q=pat hp q):xo s hp' p m hg n ls own:=
 ⟨fun k jX=>by obtain⟨q,aa,ae⟩:=h.has k jX;exact⟨q,aa,ae.congr aw (bb k jX)⟩,h.no,h.EJ,h.out⟩
structure gz (s:aZ)(hp:aN Cell)(p:Nat)(ls:Nat→List ax)(next:Int):Prop where
 cell:∃ m hg own,jR hp p=some ⟨s,⟨some m⟩,next⟩∧ni hp m=some hg∧xo s hp p m hg 4 ls own
def mn (ls:Nat→List ax)(k:Nat)(l:List ax):Nat→List ax:=fun j=>if j=k then l else ls j
theorem Gp {s:aZ}{hp:aN Cell}{p:Nat}{ls:Nat→List ax}{next:Int}(h:gz s hp p ls next){k:Nat}(aw:k<4):∃ q own,mD hp (some p) ((k:Int)+1)=some (some q)∧kT s k hp q (ls k) own:=by
 obtain⟨m,hg,own,aa,ae,aG⟩:=h.cell;obtain⟨q,a0,a7⟩:=aG.has k aw;refine⟨q,own k,?_,a7⟩;refine bk.get ?_;unfold mD;refine .cond (fun aj=>by cases aj) fun _=>.eq rfl (.eq aa (.eq rfl (.eq ae (.eq rfl (.ret ?_)))));rw [a0];rfl
theorem JX {s:aZ}{hp:aN Cell}{p:Nat}{ls:Nat→List ax}{next:Int}(h:gz s hp p ls next){x:Int}(ar:x<1∨4<x):mD hp (some p) x=some none:=by
 obtain⟨m,hg,own,aa,ae,aG⟩:=h.cell;refine bk.get ?_;unfold mD;refine .cond (fun aj=>by cases aj) fun _=>.eq rfl (.eq aa (.eq rfl (.eq ae (.eq rfl (.ret ?_)))));rw [aG.no x (by omega)];rfl
theorem abl {s:aZ}{hp:aN Cell}{p:Nat}{ls:Nat→List ax}{next:Int}(h:gz s hp p ls next){k:Nat}(aw:k<4):uL hp (some p) ((k:Int)+1)=some ((ls k).length:Int):=by
 obtain⟨q,own,aa,ae⟩:=Gp h aw;refine bk.get ?_;unfold uL;exact .eq aa (.eq (RB ae) (.ret rfl))
theorem aaB {s:aZ}(hs:c1 s){hp:aN Cell}{p:Nat}{ls:Nat→List ax}{next:Int}(h:gz s hp p ls next){k:Nat}(aw:k<4):BC hp (some p) ((k:Int)+1)=some (aF s.bE k).hn:=by
 obtain⟨m,hg,own,aa,ae,aG⟩:=h.cell;refine bk.get ?_;unfold BC;refine .eq rfl (.eq aa ((Jk hs aw).bind fun aE aq=>?_));subst aq;exact .idx rfl (by rw [hs.kS];exact aw) (.ret rfl)
theorem aaC {s:aZ}{hp:aN Cell}{p:Nat}{ls:Nat→List ax}{next:Int}(h:gz s hp p ls next):BE hp (some p)=some next:=by
 obtain⟨m,hg,own,aa,ae,aG⟩:=h.cell;refine bk.get ?_;unfold BE;exact .cond (fun aj=>by cases aj) fun _=>.eq rfl (.eq aa (.ret rfl))
theorem aaD (o:Option ax):(jq o).2=o.isSome:=by cases o <;> rfl
theorem gz.change {s:aZ}{hp hp':aN Cell}{p:Nat}{ls:Nat→List ax}{next:Int}{m:Nat}{hg:List (Int×Ref)}{own:Nat→Nat→Prop}(aa:jR hp p=some ⟨s,⟨some m⟩,next⟩)(ae:ni hp m=some hg)(aG:xo s hp p m hg 4 ls own){k:Nat}(aw:k<4){q:Nat}(hq:dW hg ((k:Int)+1)=some (some q)){l:List ax}{own':Nat→Prop}
 (ar:kT s k hp' q l own') (bg:∀ x,own' x→own k x∨x ∉ eZ hp) (yc:fp hp hp' (own k)):gz s hp' p (mn ls k l) next:=by
 have kZ:=jF (na aa)
 have ha:=jF (xd ae)
 have b0:=(aG.out k aw).1
 have cR:=(aG.out k aw).2
 refine⟨m,hg,fun j=>if j=k then own' else own j,by rw [Jn (yc.rest p kZ b0)];exact aa,by rw [Jo (yc.rest m ha cR)];exact ae,⟨fun j aH=>?_,aG.no,fun j qN aH rF db x kW pd=>?_,fun j aH=>?_⟩⟩
 ·by_cases e:j=k
  ·subst e
   refine⟨q,hq,?_⟩
   unfold mn
   rw [if_pos rfl,if_pos rfl];exact ar
  obtain⟨m0,ao,a3⟩:=aG.has j aH
  refine⟨m0,ao,?_⟩
  unfold mn
  rw [if_neg e,if_neg e]
  exact a3.ra yc fun x ar=>aG.EJ j k aH aw e x ar
 ·have key:∀ j,j<4→j≠k→own' x→ ¬ own j x:=fun j aH db a0 a7=>by
   obtain⟨m0,ao,a3⟩:=aG.has j aH;rcases bg x a0 with bn | bn
   ·exact aG.EJ j k aH aw db x a7 bn
   exact bn (a3.uq x a7)
  by_cases e:j=k
  ·rw [if_pos e] at kW
   rw [if_neg (fun e'=>db (e.trans e'.symm))] at pd
   exact key qN rF (fun e'=>db (e.trans e'.symm)) kW pd
  rw [if_neg e] at kW
  by_cases e':qN=k
  ·rw [if_pos e'] at pd;exact key j aH e pd kW
  rw [if_neg e'] at pd;exact aG.EJ j qN aH rF db x kW pd
 by_cases e:j=k
 ·rw [if_pos e]
  refine⟨fun h=>?_,fun h=>?_⟩
  ·rcases bg p h with a0 | a0
   ·exact b0 a0
   exact a0 kZ
  rcases bg m h with a0 | a0
  ·exact cR a0
  exact a0 ha
 rw [if_neg e];exact aG.out j aH
theorem gz.next' {s:aZ}{hp:aN Cell}{p:Nat}{ls:Nat→List ax}{next:Int}(h:gz s hp p ls next)(n:Int){c:ij}(aj:jR hp p=some c):gz s (dr hp p (Cell.pH { c with lr:=n })) p ls n:=by
 obtain⟨m,hg,own,aa,ae,aG⟩:=h.cell;rw [aa] at aj;cases aj;have vY:=na aa;have lg:p≠m:=fun e=>by rw [e,xd ae] at vY;cases vY
 exact⟨m,hg,own,ZC vY,by rw [Jo (m4 lg)];exact ae,aG.congr (fun q hq=>by rw [sd];exact hq) fun k aw q hq=>m4 fun e=>(aG.out k aw).1 (e ▸ hq)⟩
theorem Gg {s:aZ}(hs:c1 s){hp:aN Cell}{p:Nat}{ls:Nat→List ax}{next:Int}(h:gz s hp p ls next){k:Nat}(aw:k<4){e:a8}(he:hH s k e)(qQ:Int)(ot:∀ i∈ls k,i.cl<next)(hlen:(ls k).length<900)(aR:0≤next∧next<1000000):
 dz (rV hp (some p) e qQ) (fun r=>
  if (e0 (ls k) e).isSome=true then r=(0,17,hp) else if (aF s.bE k).hn≤ ((ls k).length:Int) then r=(0,18,hp)
  else r.1=next∧r.2.1=0∧gz s r.2.2 p (mn ls k (ls k++[{ bj:=e,cl:=next,il:=qQ }])) (next+1)):=by
 obtain⟨m,hg,own,aa,ae,aG⟩:=h.cell
 obtain⟨q,a0,a7⟩:=aG.has k aw
 have EK:mD hp (some p) ((k:Int)+1)=some (some q):=by
  refine bk.get ?_;unfold mD;refine .cond (fun aj=>by cases aj) fun _=>.eq rfl (.eq aa (.eq rfl (.eq ae (.eq rfl (.ret ?_)))));rw [a0];rfl
 unfold rV
 rw [he.gE]
 refine .eq EK (.cond (fun aj=>by cases aj) fun _=>.eq (QN hs aw a7 he) ?_)
 rw [aaD]
 refine .cond (fun aj=>.ret (by rw [if_pos aj])) fun aj=>.eq (RB a7) (.eq (aaB hs h aw) (.cond (fun eL=>.ret ?_) fun eL=>?_))
 ·rw [if_neg (by rw [aj];simp),if_pos (by simpa using eL)]
 have eL: ¬ (aF s.bE k).hn≤ ((ls k).length:Int):=by simpa using eL
 have a2:e0 (ls k) e=none:=by
  cases a2:e0 (ls k) e with
  | none=>rfl
  | some _=>rw [a2] at aj;cases aj
 have au:jZ s k ({ bj:=e,cl:=next,il:=qQ } :ax):=⟨he⟩
 have k4:jl (ls k) next=false:=by
  unfold jl;rw [List.any_eq_false];intro c mx;have:=ot c mx;simp;omega
 have bM:qJ (ls k) ({ bj:=e,cl:=next,il:=qQ } :ax)=true:=by
  unfold qJ;simp only [a2,k4];rfl
 refine .eq rfl (.eq aa (.eq rfl (.bind (KS hs aw a7 au hlen) fun cz bn=>?_)))
 obtain⟨_,a3,bx⟩:=bn
 have bg:∀ x,ml (own k) hp cz.2 x→own k x∨x ∉ eZ hp:=fun x ar=>ar.imp id fun h=>h.1
 have eu:=gz.change aa ae aG aw a0 a3 bg bx
 unfold added at eu
 rw [if_pos bM] at eu
 obtain⟨p4,aiv,own',c8,_⟩:=eu.cell
 refine .eq c8 (.eq rfl (.ret ?_))
 rw [if_neg (by rw [aj];simp),if_neg eL]
 have hw:bt (next+1)=next+1:=ho (by omega) (by omega)
 refine⟨rfl,rfl,?_⟩
 have:=eu.next' (next+1) c8
 simp only [hw]
 exact this
theorem Gh {s:aZ}(hs:c1 s){hp:aN Cell}{p:Nat}{ls:Nat→List ax}{next:Int}(h:gz s hp p ls next){k:Nat}(aw:k<4){e:a8}(he:hH s k e):
 dz (sW hp (some p) e) (fun r=>(match e0 (ls k) e with | some i=>(r.1,r.2.1)=(i,0) | none=>(r.1,r.2.1)=(default,16))∧gz s r.2.2 p (mn ls k (gb (ls k) e)) next):=by
 obtain⟨m,hg,own,aa,ae,aG⟩:=h.cell
 obtain⟨q,a0,a7⟩:=aG.has k aw
 have EK:mD hp (some p) ((k:Int)+1)=some (some q):=by
  refine bk.get ?_;unfold mD;refine .cond (fun aj=>by cases aj) fun _=>.eq rfl (.eq aa (.eq rfl (.eq ae (.eq rfl (.ret ?_)))));rw [a0];rfl
 unfold sW
 rw [he.gE]
 refine .eq EK (.cond (fun aj=>by cases aj) fun _=>.bind (YU hs aw a7 he) fun aK bn=>?_)
 obtain⟨ao,a3,bx⟩:=bn
 have eu:=gz.change aa ae aG aw a0 a3 (fun x ar=>.inl ar) bx
 have aq:aK.1=(jq (e0 (ls k) e)).1:=congrArg Prod.fst ao
 have aX:aK.2.1=(jq (e0 (ls k) e)).2:=congrArg Prod.snd ao
 cases a2:e0 (ls k) e with
 | none=>
   rw [a2] at aq aX
   refine .cond (fun _=>.ret ⟨rfl,eu⟩) fun aj=>by rw [aX] at aj;cases aj
 | some i=>
   rw [a2] at aq aX
   refine .cond (fun aj=>by rw [aX] at aj;cases aj) fun _=>.ret ⟨?_,eu⟩
   rw [aq];rfl
theorem RD {s:aZ}(hs:c1 s)(hp:aN Cell):dz (zs hp s) (fun r=> ∃ p,r.1=some p∧gz s r.2 p (fun _=>[]) 1):=by
 unfold zs;refine .mk fun m hm=>.eq rfl (.mk fun p cP=>?_);simp only at cP ⊢;have lg:p≠m:=fun e=>cP (by rw [e];exact List.mem_cons_self);have wm:jR ((p,Cell.pH ⟨s,⟨some m⟩,1⟩)::(m,Cell.qt [])::hp) p=some ⟨s,⟨some m⟩,1⟩:=by unfold jR;rw [qU,if_pos rfl]
 have d0:ni ((p,Cell.pH ⟨s,⟨some m⟩,1⟩)::(m,Cell.qt [])::hp) m=some []:=by unfold ni;rw [qU,if_neg lg,qU,if_pos rfl]
 refine .eq wm ?_;simp only;refine .bind (P:=fun aq=> ∃ hg own,jR aq.2.2 p=some ⟨s,⟨some m⟩,1⟩∧ni aq.2.2 m=some hg∧xo s aq.2.2 p m hg 4 (fun _=>[]) own)
  (dz.loop 4 (fun i st=> ∃ hp' hg own,st=((i:Int),hp')∧jR hp' p=some ⟨s,⟨some m⟩,1⟩∧ni hp' m=some hg∧xo s hp' p m hg i (fun _=>[]) own) (by omega) ⟨_,[],fun _ _=>False,rfl,wm,d0,⟨fun k aw=>by omega,fun _ _=>rfl,fun k k' aw=>by omega,fun k aw=>by omega⟩⟩ (fun i st au eu=>?_) (fun st eu=>?_)) fun aq aa=>.ret ⟨p,rfl,?_⟩
 ·obtain⟨hp',hg,own,rfl,ao,a3,bx⟩:=eu;have vY:=na ao;have EC:=xd a3;refine .cond (fun _=>.idx rfl (by rw [hs.kS];exact au) (.eq ao ?_)) fun aj=>by have:=hs.kS;simp at aj;omega
  rw [(hs.gE au).1];refine .bind (abj hs au hp') fun aE aa=>?_;obtain⟨q,e,ar,aw⟩:=aa;obtain⟨aiw,di⟩:=aE;simp only at e ar aw;subst e;have aW:jR di p=some ⟨s,⟨some m⟩,1⟩:=by rw [Jn (aw.rest p (jF vY) id)];exact ao
  have bI:ni di m=some hg:=by rw [Jo (aw.rest m (jF EC) id)];exact a3
  have HH:=xd bI;refine .eq (a:=()) (by unfold D7;rw [if_pos aW]) (.eq rfl (.eq bI (.eq rfl (.ret ?_))));have Am:m≠p:=fun e=>by rw [e] at HH;rw [na aW] at HH;cases HH
  have vZ:∀ x,x≠m→pat (dr di m (Cell.qt (gK hg ((i:Int)+1) (some q)))) x=pat di x:=fun x ar=>m4 ar.symm;have hold:∀ j,j<i→ ∀ x,own j x→pat (dr di m (Cell.qt (gK hg ((i:Int)+1) (some q)))) x=pat hp' x:=fun j aH x ar=>by
   obtain⟨m0,_,ew⟩:=bx.has j aH;rw [vZ x fun e=>(bx.out j aH).2 (e ▸ ar)];exact aw.rest x (ew.uq x ar) id
  have qu:∀ x,ml AJ hp' di x→x ∉ eZ hp':=fun x ar=>ar.elim (fun h=>h.elim) fun h=>h.1;refine⟨_,gK hg ((i:Int)+1) (some q),fun j=>if j=i then ml AJ hp' di else own j,by simp only [e2 (show i<2 ^ 62 by omega)],by rw [Jn (vZ p Am.symm)];exact aW,ZD HH,⟨fun j aH=>?_,fun x ar=>?_,fun j qN aH rF db x kW pd=>?_,fun j aH=>?_⟩⟩
  ·by_cases e:j=i
   ·subst e;refine⟨q,by rw [uU,if_pos rfl],?_⟩;rw [if_pos rfl];exact ar.congr (fun x ar=>by rw [sd];exact ar) fun x kW=>vZ x fun e=>qu x kW (e ▸ jF EC)
   obtain⟨m0,dT,ew⟩:=bx.has j (by omega);refine⟨m0,by rw [uU,if_neg (by omega)];exact dT,?_⟩;rw [if_neg e];exact ew.congr (fun x ar=>by rw [sd];exact aw.keys x ar) (hold j (by omega))
  ·rw [uU,if_neg (by omega)];exact bx.no x (by omega)
  ·have key:∀ j,j<i→ml AJ hp' di x→ ¬ own j x:=fun j aH aa ae=>by
    obtain⟨m0,_,ew⟩:=bx.has j aH;exact qu x aa (ew.uq x ae)
   by_cases e:j=i
   ·rw [if_pos e] at kW;rw [if_neg (fun e'=>db (e.trans e'.symm))] at pd;exact key qN (by omega) kW pd
   rw [if_neg e] at kW;by_cases e':qN=i
   ·rw [if_pos e'] at pd;exact key j (by omega) pd kW
   rw [if_neg e'] at pd;exact bx.EJ j qN (by omega) (by omega) db x kW pd
  by_cases e:j=i
  ·rw [if_pos e];exact⟨fun h=>qu p h (jF vY),fun h=>qu m h (jF EC)⟩
  rw [if_neg e];exact bx.out j (by omega)
 ·obtain⟨hp',hg,own,rfl,ao,a3,bx⟩:=eu;refine .cond (fun aj=>by have:=hs.kS;simp at aj;omega) fun _=>.ret ⟨hg,own,ao,a3,bx⟩
 obtain⟨hg,own,c8,c2,gG⟩:=aa;exact⟨m,hg,own,c8,c2,gG⟩
theorem ZE {l:List ax}{e:a8}{i:ax}(h:e0 l e=none)(au:gn i.bj e=true):e0 (l++[i]) e=some i:=by
 unfold e0 at h ⊢;rw [List.find?_append,h,Option.none_or];simp [au]
def uu:a8:= { (default:a8) with cO:=1,bU:= [({ (default:bW) with fm:=true } :bW)],h7:=1 }
theorem abm {s:aZ}(h:c1 s):hH s 0 uu:=by
 refine⟨rfl,by rw [h.Hi];rfl,fun i au=>?_,by decide,fun _=>rfl⟩;rw [h.Hi] at au ⊢;have:i=0:=by have:i<1:=au;omega
 subst this;show pG 1 (gT p3) { (default:bW) with fm:=true };have bO:∀ j,ct ({ (default:bW) with fm:=true } :bW).cU j=false:=fun j=>zD j;exact⟨fun h=>(by cases h),fun _=>rfl,fun _ j _ a6=>(by rw [bO] at a6;cases a6),fun h=>(by cases h),fun h=>(by cases h),DU,fun h=>(by cases h),fun _=>rfl,fun _=>rfl,fun h=>(by cases h),fun h=>(by cases h),fun h=>(by cases h),fun _=>rfl⟩
theorem m5 {ls:Nat→List ax}{k:Nat}{l:List ax} :mn ls k l k=l:=by unfold mn;rw [if_pos rfl]
theorem oT {ls:Nat→List ax}{k j:Nat}{l:List ax}(h:j≠k):mn ls k l j=ls j:=by unfold mn;rw [if_neg h]
theorem YV (hp:aN Cell):dz (zk hp) (fun r=>r.1=true):=by
 unfold zk;refine .l6 (Ki [] 0 (by decide) (by decide)) fun aE aa=>.l6 (O5 _ aa) fun aK ae=>?_;obtain⟨s,wm⟩:=aK;obtain⟨h,_⟩:=ae;simp only at h ⊢;have he:=abm h;have dI:=h.size (show 0<4 by decide);refine .bind (RD h hp) fun bs aG=>?_;obtain⟨p,dd,aG⟩:=aG;obtain⟨aix,cP⟩:=bs;simp only at dd aG;subst dd;refine .eq rfl ?_;show dz (av.bind (rV cP (some p) uu 1) fun bG=>_) _;refine .bind (Gg h aG (k:=0) (by decide) he 1 (fun i au=>by cases au) (by decide) (by decide)) fun bG a0=>?_;rw [if_neg (by decide),if_neg (by simp;omega)] at a0;obtain⟨c8,c2,gG⟩:=a0;refine .bind (show dz (sW bG.2.2 (some p) uu) _ from Gh h gG (k:=0) (by decide) he) fun cz a7=>?_;rw [m5] at a7;have a2:e0 ([]++[({ bj:=uu,cl:=1,il:=1 } :ax)]) uu=some { bj:=uu,cl:=1,il:=1 } :=ZE rfl (u1 _);rw [a2] at a7;obtain⟨dT,ew⟩:=a7;have aO:gb ([]++[({ bj:=uu,cl:=1,il:=1 } :ax)]) uu= []:=by
  unfold gb;rw [List.nil_append,List.filter_cons_of_neg (by simp [u1])];rfl
 rw [aO] at ew;refine .bind (show dz (rV cz.2.2 (some p) uu 1) _ from Gg h ew (k:=0) (by decide) he 1 (fun i au=>by rw [m5] at au;cases au) (by rw [m5];decide) (by decide)) fun ck bn=>?_;rw [m5,if_neg (by decide),if_neg (by simp;omega)] at bn;obtain⟨br,cD,g3⟩:=bn;refine .eq rfl (.ret ?_);have jA:cz.2.1=0:=congrArg Prod.snd dT;simp only [c8,c2,jA,br,cD];rfl
theorem JY (l:List ax)(e:a8):(gb l e).length≤l.length:=List.length_filter_le _ _
structure kE {α:Type}(f:α→α→Int):Prop where
 neg:∀ x y,f x y<0↔0<f y x
 qR:∀ x y z,f x y≤0→f y z≤0→f x z≤0
theorem kE.self {α:Type}{f:α→α→Int}(h:kE f)(x:α):f x x=0:=by have:=h.neg x x;omega
theorem kE.on {α β:Type}{f:β→β→Int}(h:kE f)(g:α→β):kE (fun x y=>f (g x) (g y)):=⟨fun x y=>h.neg _ _,fun x y z=>h.qR _ _ _⟩
theorem kE.rev {α:Type}{f:α→α→Int}(h:kE f):kE (fun x y=>f y x):=⟨fun x y=>h.neg y x,fun x y z aa ae=>h.qR z y x ae aa⟩
def j1 {α:Type}(f g:α→α→Int)(x y:α):Int:=if f x y=0 then g x y else f x y
theorem w7 {α:Type}{f g:α→α→Int}{x y:α}(h:j1 f g x y=0):f x y=0∧g x y=0:=by
 unfold j1 at h;split at h
 ·rename_i e;exact⟨e,h⟩
 rename_i e;exact absurd h e
theorem kE.j1 {α:Type}{f g:α→α→Int}(h:kE f)(k:kE g):kE (Go.Proofs.YthkfkliknjiecaaGreat.j1 f g) where
 neg x y:=by
  unfold Go.Proofs.YthkfkliknjiecaaGreat.j1;have aa:=h.neg x y;have ae:=h.neg y x;by_cases e:f x y=0
  ·rw [if_pos e,if_pos (by omega)];exact k.neg x y
  rw [if_neg e,if_neg (by omega)];exact aa
 qR x y z:=by
  unfold Go.Proofs.YthkfkliknjiecaaGreat.j1;intro aa ae;have c8:f x y≤0:=by by_cases e:f x y=0 <;> simp [e] at aa <;> omega
  have c2:f y z≤0:=by by_cases e:f y z=0 <;> simp [e] at ae <;> omega
  have gG:=h.qR x y z c8 c2;by_cases e:f x z=0
  ·have wj:f z x≤0:=by have:=h.neg x z;have:=h.neg z x;omega
   have dT:=h.qR z x y wj c8;have ew:=h.qR y z x c2 wj;have br:f y z=0:=by have:=h.neg y z;omega
   have cD:f x y=0:=by have:=h.neg x y;omega
   rw [if_pos cD] at aa;rw [if_pos br] at ae;rw [if_pos e];exact k.qR x y z aa ae
  rw [if_neg e];exact gG
theorem Ly {x y:Int} :fr x y<0↔x<y:=by unfold fr;split <;> (try split) <;> omega
theorem z3 {x y:Int} :0<fr x y↔y<x:=by unfold fr;split <;> (try split) <;> omega
theorem mI {x y:Int} :fr x y=0↔x=y:=by unfold fr;split <;> (try split) <;> omega
theorem tB:kE fr:=⟨fun x y=>by rw [Ly,z3],fun x y z aa ae=>by
 have a:= @z3 x y;have b:= @z3 y z;have c:= @z3 x z;omega⟩
def lc {α:Type}(g:α→α→Int):List α→List α→Int
 | [],[]=>0
 | [],_::_=> -1
 | _::_,[]=>1
 | a::r,b::t=>if g a b=0 then lc g r t else g a b
theorem RE {α:Type}{g:α→α→Int}(h:kE g):∀ (x y:List α),lc g x y<0↔0<lc g y x
 | [],[]=>by simp [lc]
 | [],_::_=>by simp [lc]
 | _::_,[]=>by simp [lc]
 | a::r,b::t=>by
   have aa:=h.neg a b;have ae:=h.neg b a;unfold lc;by_cases e:g a b=0
   ·rw [if_pos e,if_pos (by omega)];exact RE h r t
   rw [if_neg e,if_neg (by omega)];exact aa
theorem SW {α:Type}{g:α→α→Int}(h:kE g):∀ (x y z:List α),lc g x y≤0→lc g y z≤0→lc g x z≤0
 | [],_,[],_,_=>by simp [lc]
 | [],_,_::_,_,_=>by simp [lc]
 | _::_,[],_,aa,_=>by simp [lc] at aa
 | _::_,_::_,[],_,ae=>by simp [lc] at ae
 | a::r,b::t,c::u,aa,ae=>by
   unfold lc at aa ae ⊢;have c8:g a b≤0:=by by_cases e:g a b=0 <;> simp [e] at aa <;> omega
   have c2:g b c≤0:=by by_cases e:g b c=0 <;> simp [e] at ae <;> omega
   have gG:=h.qR a b c c8 c2;by_cases e:g a c=0
   ·have wj:g c a≤0:=by have:=h.neg a c;have:=h.neg c a;omega
    have dT:=h.qR c a b wj c8;have ew:=h.qR b c a c2 wj;have br:g b c=0:=by have:=h.neg b c;omega
    have cD:g a b=0:=by have:=h.neg a b;omega
    rw [if_pos cD] at aa;rw [if_pos br] at ae;rw [if_pos e];exact SW h r t u aa ae
   rw [if_neg e];exact gG
theorem Lz {α:Type}{g:α→α→Int}(h:kE g):kE (lc g):=⟨RE h,SW h⟩
theorem Kt {α:Type}{g:α→α→Int}(h:∀ a b,g a b=0→a=b):∀ {x y:List α},lc g x y=0→x=y
 | [],[],_=>rfl
 | [],_::_,e=>by simp [lc] at e
 | _::_,[],e=>by simp [lc] at e
 | a::r,b::t,e=>by
   unfold lc at e;split at e
   ·rename_i aq;rw [h a b aq,Kt h e]
   rename_i aq;exact absurd e aq
def gQ (v:az):Int:=((v.dg.toNat * 18446744073709551616+v.bX.toNat:Nat):Int)
theorem zP {x y:az}(h:gQ x=gQ y):x=y:=by
 obtain⟨a,b⟩:=x;obtain⟨c,d⟩:=y;unfold gQ at h;simp only at h;first
 | (have aa:=a.isLt;have ae:=b.isLt;have aG:=c.isLt;have a0:=d.isLt
    have aq:a=c:=BitVec.eq_of_toNat_eq (by omega)
    have aX:b=d:=BitVec.eq_of_toNat_eq (by omega)
    rw [aq,aX])
theorem QO (x y:az):p8 x y=some (fr (gQ x) (gQ y)):=by
 unfold p8;by_cases e:x=y
 ·subst e;simp only [decide_true,cond_true];rw [mI.2 rfl]
 simp only [e,decide_false,cond_false,Option.bind_some];have db:gQ x≠gQ y:=fun h=>e (zP h);have cf:((decide (x.dg<y.dg))||((x.dg==y.dg)&&(decide (x.bX<y.bX))))=decide (gQ x<gQ y):=by
  rw [Bool.eq_iff_iff];simp only [Bool.or_eq_true,Bool.and_eq_true,decide_eq_true_eq,beq_iff_eq,BitVec.lt_def];unfold gQ;have aa:=x.dg.isLt;have ae:=x.bX.isLt;have aG:=y.dg.isLt;have a0:=y.bX.isLt;constructor
  ·rintro (h | ⟨h,de⟩)
   ·omega
   rw [h];omega
  intro h;by_cases cA:x.dg.toNat<y.dg.toNat
  ·exact .inl cA
  have:x.dg.toNat=y.dg.toNat:=by omega
  exact .inr ⟨BitVec.eq_of_toNat_eq this,by omega⟩
 rw [cf];unfold fr;by_cases a6:gQ x<gQ y
 ·simp [a6]
 rw [decide_eq_false a6,if_neg a6,if_pos (by omega)];rfl
def mo:List Int→Int
 | []=>0
 | a::r=>if a=0 then mo r else a
theorem Py {l:List Int}(an:l.length≤1000):s5 l=some (mo l):=by
 refine bk.get ?_;unfold s5;refine .bind (P:=fun e=>(∃ q,e= .inl q∧mo l=0)∨ ∃ q:Int×Int×Int×Bool×Bool,e= .inr q∧q.1=mo l)
  (bk.pF l.length (fun j st=>st=(j:Int)∧mo l=mo (l.drop j)) (by omega) ⟨rfl,rfl⟩ (fun j st aH hs=>?_) (fun st hs=>?_)) fun e he=>?_
 ·obtain⟨rfl,hs⟩:=hs;rw [List.drop_eq_getElem_cons aH] at hs;have hs:mo l=if l[j]=0 then mo (l.drop (j+1)) else l[j]:=hs;refine .cond (fun _=>.idx rfl aH ?_) fun aj=>by simp at aj;omega
  rw [eO _ aH];refine .cond (fun aj=>.ret (.inr ⟨_,rfl,?_⟩)) fun aj=>.ret ⟨e2 (by omega),?_⟩
  ·have:l[j]≠0:=by simpa using aj
   rw [hs,if_neg this]
  have:l[j]=0:=by simpa using aj
  rw [hs,if_pos this]
 ·obtain⟨rfl,hs⟩:=hs;refine .cond (fun aj=>by simp at aj) fun _=>.ret (.inl ⟨_,rfl,?_⟩);rw [hs,List.drop_length];rfl
 rcases he with⟨q,rfl,hq⟩ | ⟨q,rfl,hq⟩
 ·simp only [Sum.elim_inl];exact .ret hq.symm
 simp only [Sum.elim_inr];exact .ret hq
theorem VI {g:bW→bW→Int}{f:bW→bW→Option Int}(a2:∀ a b,f a b=some (g a b)){xs ys:List bW}(ar:xs.length≤100000)(a5:ys.length≤100000):AV xs ys f=some (lc g xs ys):=by
 refine bk.get ?_;unfold AV;refine .bind (P:=fun e=>(∃ q,e= .inl q∧lc g xs ys=if xs.length<ys.length then -1 else 0)∨ ∃ q:Int×Int×Int×Bool×Bool,e= .inr q∧q.1=lc g xs ys)
  (bk.pF xs.length (fun j st=>st=(j:Int)∧j≤ys.length∧lc g xs ys=lc g (xs.drop j) (ys.drop j)) (by omega) ⟨rfl,by omega,rfl⟩ (fun j st aH hs=>?_) (fun st hs=>?_)) fun e he=>?_
 ·obtain⟨rfl,ym,hs⟩:=hs;refine .cond (fun _=>.idx rfl aH (.cond (fun aj=>.ret (.inr ⟨_,rfl,?_⟩)) fun aj=>?_)) fun aj=>by simp at aj;omega
  ·have aj:ys.length≤j:=by simpa using aj
   rw [hs,List.drop_eq_getElem_cons aH,List.drop_eq_nil_of_le aj];rfl
  have cf:j<ys.length:=by simpa using aj
  rw [List.drop_eq_getElem_cons aH,List.drop_eq_getElem_cons cf] at hs;refine .idx rfl cf (.eq (a2 _ _) ?_);rw [eO _ aH,eO _ cf];have hs:lc g xs ys=if g xs[j] ys[j]=0 then lc g (xs.drop (j+1)) (ys.drop (j+1)) else g xs[j] ys[j]:=hs;refine .cond (fun aj=>.ret (.inr ⟨_,rfl,?_⟩)) fun aj=>.ret ⟨e2 (by omega),cf,?_⟩
  ·have:g xs[j] ys[j]≠0:=by simpa using aj
   rw [hs,if_neg this]
  have:g xs[j] ys[j]=0:=by simpa using aj
  rw [hs,if_pos this]
 ·obtain⟨rfl,ym,hs⟩:=hs;refine .cond (fun aj=>by simp at aj) fun _=>.ret (.inl ⟨_,rfl,?_⟩);rw [hs,List.drop_length];cases hd:ys.drop xs.length with
  | nil=>
    have:=List.drop_eq_nil_iff.1 hd
    rw [if_neg (by omega)];rfl
  | cons z lL=>
    have:ys.length - xs.length=lL.length+1:=by rw [← List.length_drop,hd];rfl
    rw [if_pos (by omega)];rfl
 rcases he with⟨q,rfl,hq⟩ | ⟨q,rfl,hq⟩
 ·simp only [Sum.elim_inl];refine .cond (fun aj=>.ret ?_) fun aj=>.ret ?_
  ·rw [hq,if_pos (by simpa using aj)]
  rw [hq,if_neg (by simpa using aj)]
 simp only [Sum.elim_inr];exact .ret hq
theorem VJ {g:az→az→Int}{f:az→az→Option Int}(a2:∀ a b,f a b=some (g a b)){xs ys:List az}(ar:xs.length≤100000)(a5:ys.length≤100000):AW xs ys f=some (lc g xs ys):=by
 refine bk.get ?_;unfold AW;refine .bind (P:=fun e=>(∃ q,e= .inl q∧lc g xs ys=if xs.length<ys.length then -1 else 0)∨ ∃ q:Int×Int×Int×Bool×Bool,e= .inr q∧q.1=lc g xs ys)
  (bk.pF xs.length (fun j st=>st=(j:Int)∧j≤ys.length∧lc g xs ys=lc g (xs.drop j) (ys.drop j)) (by omega) ⟨rfl,by omega,rfl⟩ (fun j st aH hs=>?_) (fun st hs=>?_)) fun e he=>?_
 ·obtain⟨rfl,ym,hs⟩:=hs;refine .cond (fun _=>.idx rfl aH (.cond (fun aj=>.ret (.inr ⟨_,rfl,?_⟩)) fun aj=>?_)) fun aj=>by simp at aj;omega
  ·have aj:ys.length≤j:=by simpa using aj
   rw [hs,List.drop_eq_getElem_cons aH,List.drop_eq_nil_of_le aj];rfl
  have cf:j<ys.length:=by simpa using aj
  rw [List.drop_eq_getElem_cons aH,List.drop_eq_getElem_cons cf] at hs;refine .idx rfl cf (.eq (a2 _ _) ?_);rw [eO _ aH,eO _ cf];have hs:lc g xs ys=if g xs[j] ys[j]=0 then lc g (xs.drop (j+1)) (ys.drop (j+1)) else g xs[j] ys[j]:=hs;refine .cond (fun aj=>.ret (.inr ⟨_,rfl,?_⟩)) fun aj=>.ret ⟨e2 (by omega),cf,?_⟩
  ·have:g xs[j] ys[j]≠0:=by simpa using aj
   rw [hs,if_neg this]
  have:g xs[j] ys[j]=0:=by simpa using aj
  rw [hs,if_pos this]
 ·obtain⟨rfl,ym,hs⟩:=hs;refine .cond (fun aj=>by simp at aj) fun _=>.ret (.inl ⟨_,rfl,?_⟩);rw [hs,List.drop_length];cases hd:ys.drop xs.length with
  | nil=>
    have:=List.drop_eq_nil_iff.1 hd
    rw [if_neg (by omega)];rfl
  | cons z lL=>
    have:ys.length - xs.length=lL.length+1:=by rw [← List.length_drop,hd];rfl
    rw [if_pos (by omega)];rfl
 rcases he with⟨q,rfl,hq⟩ | ⟨q,rfl,hq⟩
 ·simp only [Sum.elim_inl];refine .cond (fun aj=>.ret ?_) fun aj=>.ret ?_
  ·rw [hq,if_pos (by simpa using aj)]
  rw [hq,if_neg (by simpa using aj)]
 simp only [Sum.elim_inr];exact .ret hq
def l7 (m:bW):Int:=if m.fm=true then 1 else 0
theorem abn (m:bW):y4 m=some (l7 m):=by
 unfold y4 l7;cases m.fm <;> rfl
def n7:bW→bW→Int:=j1 (fun x y=>fr (l7 x) (l7 y)) (j1 (fun x y=>fr (gQ x.cU) (gQ y.cU)) (j1 (fun x y=>fr (gQ x.gy) (gQ y.gy)) (j1 (fun x y=>fr x.en y.en) (fun x y=>fr (gQ x.jG) (gQ y.jG)))))
theorem LA:kE n7:=(tB.on l7).j1 ((tB.on fun x:bW=>gQ x.cU).j1 ((tB.on fun x:bW=>gQ x.gy).j1 ((tB.on fun x:bW=>x.en).j1 (tB.on fun x:bW=>gQ x.jG))))
theorem QP {x y:bW}(h:n7 x y=0):x=y:=by
 obtain⟨aa,h⟩:=w7 h;obtain⟨ae,h⟩:=w7 h;obtain⟨aG,h⟩:=w7 h;obtain⟨a0,a7⟩:=w7 h;refine Kp ?_ (zP (mI.1 ae)) (zP (mI.1 aG)) (mI.1 a0) (zP (mI.1 a7));have:=mI.1 aa;unfold l7 at this;cases ar:x.fm <;> cases a5:y.fm <;> simp [ar,a5] at this <;> rfl
theorem TF (a b c d e:Int):mo [a,b,c,d,e]=if a=0 then(if b=0 then(if c=0 then(if d=0 then e else d) else c) else b) else a:=by
 have:(if e=0 then 0 else e)=e:=by split <;> omega
 show(if a=0 then(if b=0 then(if c=0 then(if d=0 then(if e=0 then 0 else e) else d) else c) else b) else a)=_;rw [this]
theorem XD (x y:bW):Bn x y=some (n7 x y):=by
 unfold Bn;by_cases e:x=y
 ·subst e;simp only [decide_true,cond_true];rw [LA.self]
 simp only [e,decide_false,cond_false,abn,xk,QO,Option.bind_some];rw [Py (by simp),TF];rfl
def rS:a8→a8→Int:=j1 (fun x y=>fr x.cO y.cO) (j1 (fun x y=>fr y.fP x.fP) (j1 (fun x y=>lc n7 x.bU y.bU) (j1 (fun x y=>fr x.h7 y.h7) (fun x y=>lc (fun v w=>fr (gQ v) (gQ w)) x.hl y.hl))))
theorem adG:kE rS:=(tB.on fun x:a8=>x.cO).j1 ((tB.on fun x:a8=>x.fP).rev.j1 (((Lz LA).on fun x:a8=>x.bU).j1 ((tB.on fun x:a8=>x.h7).j1 ((Lz (tB.on gQ)).on fun x:a8=>x.hl))))
theorem SX {x y:a8}(h:rS x y=0):gn x y=true:=by
 obtain⟨aa,h⟩:=w7 h;obtain⟨ae,h⟩:=w7 h;obtain⟨aG,h⟩:=w7 h;exact si.2 ⟨mI.1 aa,Kt (fun a b=>QP) aG,(mI.1 ae).symm⟩
theorem aaE {x y:a8}(aa:x.bU.length≤1000)(ae:y.bU.length≤1000)(aG:x.hl.length≤1000)(a0:y.hl.length≤1000):BR x y=some (rS x y):=by
 unfold BR;rw [xk,xk,xk,VI XD (by omega) (by omega),VJ QO (by omega) (by omega)];simp only [Option.bind_some];rw [Py (by simp),TF];rfl
theorem JZ {α:Type}{m:Option (List α)}{P:List α→Prop}{n:Nat}(h:bk m (fun r=>r.length=n∧P r)):bk (sv n m) P:=by
 obtain⟨r,aa,ae,aG⟩:=h;refine⟨r,?_,aG⟩;unfold sv;rw [aa];simp [ae]
theorem Pz {α:Type}[Inhabited α]{xs:List α}{k:Nat}{v:α}(aw:k<xs.length)(i:Nat):aF (eV xs k v) i=if i=k then v else aF xs i:=by
 unfold aF eV;by_cases e:i=k
 ·subst e;rw [if_pos rfl];simp [aw]
 rw [if_neg e];simp [List.getElem?_set_ne (Ne.symm e)]
theorem GJ {j:Nat}(aa:1≤j)(h:j<2 ^ 62):bt ((j:Int) - 1)=((j - 1:Nat):Int):=by rw [ho] <;> omega
def qK {α:Type}[Inhabited α](c:α→α→Int)(ys:List α)(n:Nat):Prop:= ∀ p q,p<q→q<n→c (aF ys p) (aF ys q)≤0
def AQ {α:Type}[Inhabited α](c:α→α→Int)(ys:List α)(b i:Nat):Prop:= ∀ p q,p<q→q≤i→q≠b→c (aF ys p) (aF ys q)≤0
theorem AQ.stop {α:Type}[Inhabited α]{c:α→α→Int}(aj:kE c){ys:List α}{b i:Nat}(h:AQ c ys b i)(hb:b≤i)(hs:b=0∨0≤c (aF ys b) (aF ys (b - 1))):qK c ys (i+1):=fun p q vP hq=>by
 by_cases e:q=b
 ·subst e;rcases hs with rfl | hs
  ·omega
  have aa:c (aF ys (q - 1)) (aF ys q)≤0:=by have:=aj.neg (aF ys q) (aF ys (q - 1));have:=aj.neg (aF ys (q - 1)) (aF ys q);omega
  by_cases aX:p=q - 1
  ·rw [aX];exact aa
  exact aj.qR _ _ _ (h p (q - 1) (by omega) (by omega) (by omega)) aa
 exact h p q vP (by omega) e
theorem AQ.swap {α:Type}[Inhabited α]{c:α→α→Int}{ys:List α}{b i:Nat}(h:AQ c ys b i)(hb:b≤i)(aa:1≤b)(au:i<ys.length)(cf:c (aF ys b) (aF ys (b - 1))<0):
 AQ c (eV (eV ys b (aF ys (b - 1))) (b - 1) (aF ys b)) (b - 1) i:=fun p q vP hq db=>by
 have bD:∀ a,aF (eV (eV ys b (aF ys (b - 1))) (b - 1) (aF ys b)) a=if a=b - 1 then aF ys b else if a=b then aF ys (b - 1) else aF ys a:=fun a=>by
  rw [Pz (by unfold eV;rw [List.length_set];omega),Pz (by omega)]
 rw [bD,bD,if_neg db]
 by_cases aq:q=b
 ·rw [if_pos aq]
  by_cases aX:p=b - 1
  ·rw [if_pos aX];omega
  rw [if_neg aX,if_neg (by omega)]
  exact h p (b - 1) (by omega) (by omega) (by omega)
 rw [if_neg aq]
 by_cases aX:p=b - 1
 ·rw [if_pos aX]
  exact h b q (by omega) hq aq
 rw [if_neg aX]
 by_cases dd:p=b
 ·rw [if_pos dd]
  exact h (b - 1) q (by omega) hq aq
 rw [if_neg dd]
 exact h p q vP hq aq
theorem swap_perm {α:Type}[Inhabited α]{ys:List α}{b:Nat}(hb:b<ys.length):(eV (eV ys b (aF ys (b - 1))) (b - 1) (aF ys b)).Perm ys:=by
 have aa:b - 1<ys.length:=by omega
 unfold eV;rw [eO _ aa,eO _ hb];exact List.set_set_perm hb aa
theorem YW {f:ax→ax→Option Int}{c:ax→ax→Int}(aj:kE c){xs:List ax}(hlen:xs.length≤1000)(a2:∀ a∈xs,∀ b∈xs,f a b=some (c a b)):
 bk (AR xs 0 (xs.length:Int) f) (fun r=>r.Perm xs∧qK c r xs.length):=by
 unfold AR
 refine .bind (P:=fun e=>e.2.2.Perm xs∧qK c e.2.2 xs.length) (bk.pF (xs.length - 1) (fun j st=> ∃ ys,st=(((j+1:Nat):Int),ys)∧ys.Perm xs∧qK c ys (j+1)) (by omega) ⟨xs,rfl,.refl _,fun p q aa ae=>by omega⟩ (fun j st aH hs=>?_) (fun st hs=>?_)) fun e he=>.ret he
 ·obtain⟨ys,rfl,hp,hs⟩:=hs
  refine .cond (fun _=>?_) fun aj=>by simp at aj;omega
  refine .bind (P:=fun e=>e.2.2.Perm xs∧qK c e.2.2 (j+2)) (bk.pF (j+1) (fun a st=> ∃ lL,st=(((j+1 - a:Nat):Int),lL)∧lL.Perm xs∧AQ c lL (j+1 - a) (j+1)) (by omega) ⟨ys,rfl,hp,fun p q aa ae aG=>hs p q aa (by omega)⟩ (fun a st bb hs=>?_) (fun st hs=>?_)) fun e he=>.ret ⟨e.2.2,by rw [e2 (by omega)],he.1,he.2⟩
  ·obtain⟨lL,rfl,dI,hm⟩:=hs
   have T1:=dI.length_eq
   generalize hb:j+1 - a=b at hm
   have nt:1≤b:=by omega
   have pc:b<lL.length:=by omega
   have HI:b - 1<lL.length:=by omega
   have hd:decide ((b:Int)>0)=true:=by rw [decide_eq_true_eq];omega
   have fc:∀ i,i<lL.length→aF lL i∈xs:=fun i au=>dI.mem_iff.1 (by rw [eO _ au];exact List.getElem_mem _)
   refine .cu (P:=fun k=>k=b) (fun _=>⟨_,mG pc,rfl⟩) fun aW aq=>.cu (P:=fun k=>k=b - 1) (fun _=>⟨b - 1,by rw [GJ nt (by omega)];exact mG HI,rfl⟩) fun bI aX=>?_
   rw [aq hd,aX hd]
   refine .cu (P:=fun y=>y=c (aF lL b) (aF lL (b - 1))) (fun _=>⟨_,a2 _ (fc _ pc) _ (fc _ HI),rfl⟩) fun aE dd=>?_
   rw [dd hd]
   refine .cond (fun sM=>?_) fun sM=>.ret ⟨dI,hm.stop aj (by omega) (.inr ?_)⟩
   ·rw [Bool.and_eq_true,decide_eq_true_eq,decide_eq_true_eq] at sM
    refine .eq (a:=b - 1) (by rw [GJ nt (by omega)];exact mG HI) (.idx rfl pc (.idx rfl pc (.eq (a:=b - 1) (by rw [GJ nt (by omega)];exact mG (by unfold eV;rw [List.length_set];exact HI)) (.ret ⟨_,?_,(swap_perm pc).trans dI,?_⟩))))
    ·rw [GJ nt (by omega),show j+1 - (a+1)=b - 1 by omega]
    rw [show j+1 - (a+1)=b - 1 by omega]
    exact hm.swap (by omega) nt (by omega) sM.2
   rw [hd,Bool.true_and,decide_eq_false_iff_not] at sM
   omega
  obtain⟨lL,rfl,dI,hm⟩:=hs
  have hd:decide (((j+1 - (j+1):Nat):Int)>0)=false:=by rw [decide_eq_false_iff_not];omega
  refine .cu (P:=fun _=>True) (fun h=>by rw [hd] at h;cases h) fun aW _=>.cu (P:=fun _=>True) (fun h=>by rw [hd] at h;cases h) fun bI _=>.cu (P:=fun _=>True) (fun h=>by rw [hd] at h;cases h) fun aE _=>.cond (fun sM=>by rw [hd] at sM;cases sM) fun sM=>.ret ⟨dI,hm.stop aj (by omega) (.inl (by omega))⟩
 obtain⟨ys,rfl,hp,hs⟩:=hs
 refine .cond (fun aj=>by simp at aj;omega) fun _=>.ret ⟨hp,fun p q aa ae=>hs p q aa (by omega)⟩
theorem aaF (x:Nat)(ar:x<31):bk (BQ (BitVec.ofInt 64 (x:Int))) (fun _=>True):=by
 have:∀ y:Nat,y<31→ (BQ (BitVec.ofInt 64 (y:Int))).isSome=true:=by decide +kernel
 obtain⟨r,aO⟩:=Option.isSome_iff_exists.1 (this x ar);exact⟨r,aO,trivial⟩
theorem XE {f:ax→ax→Option Int}{c:ax→ax→Int}(aj:kE c){xs:List ax}(hlen:xs.length≤12)(a2:∀ a∈xs,∀ b∈xs,f a b=some (c a b)):
 bk (sv xs.length (AT xs f)) (fun r=>r.Perm xs∧qK c r xs.length):=by
 refine JZ ?_
 unfold AT
 refine(aaF _ (by omega)).bind fun aE _=>.bind (P:=fun r=>r.length=xs.length∧r.Perm xs∧qK c r xs.length) (JZ ?_) fun r aO=>.ret aO
 unfold Fa
 have hw:bt ((xs.length:Int) - 0)=(xs.length:Int):=by rw [ho] <;> omega
 refine .bind (P:=fun e=>e.2.2.length=xs.length∧e.2.2.length=xs.length∧e.2.2.Perm xs∧qK c e.2.2 xs.length) (bk.pF 0 (fun _ _=>True) (by omega) trivial (fun a st bb hs=>by omega) fun st hs=>?_) fun e he=>.ret he
 rw [hw]
 refine .cond (fun _=>.bind (P:=fun r=>r.length=xs.length∧r.Perm xs∧qK c r xs.length) (JZ ((YW aj (by omega) a2).mono fun r aO=>⟨aO.1.length_eq,aO.1.length_eq,aO⟩)) fun r aO=>.ret ⟨aO.1,aO⟩) fun sM=>by simp at sM;omega
theorem J0 {c:ax→ax→Int}(aj:kE c):∀ {xs ys:List ax},xs.Perm ys→xs.Pairwise (fun a b=>c a b≤0)→ys.Pairwise (fun a b=>c a b≤0)→ (∀ a∈xs,∀ b∈xs,c a b=0→a=b)→xs=ys
 | [],ys,h,_,_,_=>h.nil_eq
 | x::r,[],h,_,_,_=>by have:=h.length_eq;simp at this
 | x::r,y::t,h,aa,ae,aG=>by
   obtain⟨c8,c2⟩:=List.pairwise_cons.1 aa;obtain⟨dT,ew⟩:=List.pairwise_cons.1 ae;have e:x=y:=by
    have ar:x∈y::t:=h.mem_iff.1 List.mem_cons_self;have a5:y∈x::r:=h.mem_iff.2 List.mem_cons_self;rcases List.mem_cons.1 ar with e | ar
    ·exact e
    rcases List.mem_cons.1 a5 with e | pV
    ·exact e.symm
    refine aG x List.mem_cons_self y a5 ?_;have ao:=c8 y pV;have a3:=dT x ar;have:=aj.neg x y;omega
   subst e;rw [J0 aj (List.perm_cons x |>.1 h) c2 ew fun a bb b hb=>aG a (List.mem_cons_of_mem _ bb) b (List.mem_cons_of_mem _ hb)]
theorem qK.ahH {c:ax→ax→Int}{ys:List ax}(h:qK c ys ys.length):ys.Pairwise (fun a b=>c a b≤0):=by
 rw [List.pairwise_iff_getElem];intro i j au aH gd;have:=h i j gd aH;rw [eO _ au,eO _ aH] at this;exact this
theorem _root_.Gv.dz.next {β:Type}{n:Nat}{vis:List Nat}{k:Option Nat→av β}{P:β→Prop}(h:∀ j,yx n vis j→dz (k j) P):dz (av.bind (av.next n vis) k) P:=fun Q hq j aH=>h j aH Q hq
structure uv (n:Nat)(vis:List Nat):Prop where
 one:vis.Nodup
 lt:∀ q∈vis,q<n
theorem uv.more {n:Nat}{vis:List Nat}{q:Nat}(h:uv n vis)(hq:q<n∧q ∉ vis):uv n (vis++[q]):=
 ⟨by rw [List.nodup_append];exact⟨h.one,by simp,fun a bb b hb e=>by rw [List.mem_singleton.1 hb] at e;exact hq.2 (e ▸ bb)⟩,fun a bb=>by
  rcases List.mem_append.1 bb with bb | bb
  ·exact h.lt a bb
  rw [List.mem_singleton.1 bb];exact hq.1⟩
theorem uv.perm {n:Nat}{vis:List Nat}(h:uv n vis)(bb:∀ j,j<n→j∈vis):vis.Perm (List.range n):=
 (List.perm_ext_iff_of_nodup h.one List.nodup_range).2 fun a=>⟨fun aa=>List.mem_range.2 (h.lt a aa),fun aa=>bb a (List.mem_range.1 aa)⟩
theorem uv.full {n:Nat}{vis:List Nat}(h:uv n vis)(an:vis.length=n){q:Nat}(hq:q<n):q∈vis:=by
 false_or_by_contra;rename_i gf;have aa:vis.Perm ((List.range n).filter fun x=>decide (x∈vis)):=(List.perm_ext_iff_of_nodup h.one (List.nodup_range.filter _)).2 fun a=>by
  rw [List.mem_filter,List.mem_range,decide_eq_true_eq];exact⟨fun aa=>⟨h.lt a aa,aa⟩,fun aa=>aa.2⟩
 have ae:=aa.length_eq;have aG:((List.range n).filter fun x=>decide (x∈vis)).length<(List.range n).length:=List.length_filter_lt_length_iff_exists.2 ⟨q,List.mem_range.2 hq,by simpa using gf⟩;rw [List.length_range] at aG;omega
theorem YX {α:Type}[Inhabited α](l:List α):(List.range l.length).map (fun q=>aF l q)=l:=by
 apply List.ext_getElem
 ·simp
 intro i aa ae;simp only [List.getElem_map,List.getElem_range];rw [eO _ ae]
def lj (a c:ax):Int:=rS a.bj c.bj
theorem CS:kE lj:=adG.on fun i:ax=>i.bj
theorem adH {s:aZ}(h:c1 s){k:Nat}(aw:k<4){hp:aN Cell}{p:Nat}{l:List ax}{own:Nat→Prop}(ar:kT s k hp p l own)(hlen:l.length≤12):
 dz (wE hp (some p)) (fun r=>r.2=hp∧r.1.Perm l∧r.1.Pairwise (fun a b=>lj a b≤0)):=by
 obtain⟨f,m,em,aa,ae,aG,a0,a7,bn⟩:=ar.cell
 have an:=ar.iI.ok
 have Ep:em.length=l.length:=by rw [a7.length_eq,List.length_map]
 have Ma:∀ q,q<em.length→ (aF em q).2∈l:=fun q hq=>by
  have hm:aF em q∈em:=by rw [eO _ hq];exact List.getElem_mem _
  obtain⟨i,au,e⟩:=List.mem_map.1 (a7.mem_iff.1 hm);rw [← e];exact au
 have DQ:∀ vis,uv em.length vis→ (∀ j,j<em.length→j∈vis)→ (vis.map fun q=>(aF em q).2).Perm l:=fun vis a6 bb=>by
  refine((a6.perm bb).map _).trans ?_;have:(List.range em.length).map (fun q=>(aF em q).2)=em.map (·.2):=by
   rw [show(List.range em.length).map (fun q=>(aF em q).2)=((List.range em.length).map (fun q=>aF em q)).map (·.2) by rw [List.map_map];rfl,YX]
  rw [this];refine(a7.map (·.2)).trans ?_;rw [List.map_map,show((fun x:Int×ax=>x.2) ∘ fun i:ax=>(i.cl,i))=id from rfl,List.map_id]
 unfold wE
 refine .cond (fun aj=>by cases aj) fun _=>.eq rfl (.eq aa (.eq rfl (.eq ae ?_)))
 refine .bind (P:=fun e=>e.2.2.Perm l) (dz.loop em.length (fun j st=> ∃ vis,st=(vis,vis.map fun q=>(aF em q).2)∧vis.length=j∧uv em.length vis) (by omega) ⟨[],rfl,rfl,.nil,by simp⟩ (fun j st aH hs=>?_) (fun st hs=>?_)) fun e he=>?_
 ·obtain⟨vis,rfl,rB,a6⟩:=hs
  refine .next fun o bg=>?_
  cases o with
  | none=>exact .cond (fun aj=>by cases aj) fun _=>.ret (DQ vis a6 bg)
  | some q=>
    refine .cond (fun _=>.eq rfl (.eq (zN h aw (an.ok _ (Ma q bg.1))) (.eq (iJ _ _ (by simp;omega) (by omega)) (.ret ⟨vis++[q],?_,by simp [rB],a6.more bg⟩)))) fun aj=>by cases aj
    rw [List.map_append];rfl
 ·obtain⟨vis,rfl,rB,a6⟩:=hs
  refine .next fun o bg=>?_
  cases o with
  | none=>exact .cond (fun aj=>by cases aj) fun _=>.ret (DQ vis a6 bg)
  | some q=>exact absurd (a6.full rB bg.1) bg.2
 have v9:∀ a∈e.2.2,a.bj.bU.length≤1000∧a.bj.hl.length≤1000:=fun a bb=>(an.ok a (he.mem_iff.1 bb)).small h aw
 have hle:=he.length_eq
 refine .l6 (XE (c:=lj) CS (by omega) fun a bb b hb=>?_) fun bs a5=>.ret ⟨rfl,a5.1.trans he,qK.ahH (by rw [a5.1.length_eq];exact a5.2)⟩
 unfold Fo
 rw [aaE (v9 a bb).1 (v9 b hb).1 (v9 a bb).2 (v9 b hb).2]
 rfl
theorem ZF {s:aZ}{k:Nat}{l uE r k5:List ax}(an:h5 s k l)(hp:l.Perm uE)(aa:r.Perm l)(ae:k5.Perm uE)(s1:r.Pairwise (fun a b=>lj a b≤0))(s2:k5.Pairwise (fun a b=>lj a b≤0)):r=k5:=
 J0 CS (aa.trans (hp.trans ae.symm)) s1 s2 fun a bb b hb e=>an.uniq (aa.mem_iff.1 bb) (aa.mem_iff.1 hb) (SX e)
theorem QQ {α:Type}{b:α→α→Bool}(hb:rH b){q:α→Bool} :∀ {l:List α} {c:α},l.Pairwise (fun x y=>b x y=true)→l.find? q=some c→ ∀ d∈l,q d=true→d=c∨b c d=true
 | [],c,_,h,_,_,_=>by cases h
 | a::l,c,hs,h,d,hd,hq=>by
   obtain⟨aa,ae⟩:=List.pairwise_cons.1 hs;by_cases nA:q a=true
   ·rw [List.find?_cons_of_pos nA] at h;cases h;rcases List.mem_cons.1 hd with aG | aG
    ·exact .inl aG
    exact .inr (aa d aG)
   rw [List.find?_cons_of_neg nA] at h;rcases List.mem_cons.1 hd with aG | aG
   ·rw [aG] at hq;exact absurd hq nA
   exact QQ hb ae h d aG hq
theorem afH {s:aZ}{k:Nat}{l:List ax}(an:jo s k l){p:Vector az 4}{c:ax}(h:jr s k l p=some c):∀ d∈l,mt s k p d.bj=true→d=c∨eT s k c d=true:=fun d hd hq=>
 QQ (q3 s k) (Cj (q3 s k) an.v7) h d (oX.2 hd) hq
theorem ZG {s:aZ}{k:Nat}{l uE:List ax}(an:jo s k l)(lf:jo s k uE)(hm:∀ i,i∈l↔i∈uE)(p:Vector az 4):jr s k l p=jr s k uE p:=by
 cases e:jr s k l p with
 | some c=>
   have hq:mt s k p c.bj=true:=by unfold jr at e;exact List.find?_some (p:=fun c:ax=>mt s k p c.bj) e
   exact(GF (q3 s k) lf.v7 ((hm c).1 (QL e)) hq fun d hd Nd=>afH an e d ((hm d).2 hd) Nd).symm
 | none=>
   refine(Km fun d hd=>?_).symm
   unfold jr at e
   have:=List.find?_eq_none.1 e d (oX.2 ((hm d).2 hd))
   simpa using this
def qq (ls:Nat→List ax)(x:Nat)(r:List ax):Prop:=if x=0 then r= [] else r.Perm (ls (x - 1))∧r.Pairwise (fun a b=>lj a b≤0)
theorem Qb {s:aZ}(hs:c1 s){hp:aN Cell}{p:Nat}{ls:Nat→List ax}{next:Int}(h:gz s hp p ls next){x:Nat}(ar:x≤4)(an:∀ k,k<4→ (ls k).length≤12):
 dz (s0 hp (some p) (x:Int)) (fun r=>r.2=hp∧qq ls x r.1):=by
 unfold s0
 by_cases e:x=0
 ·subst e
  refine .eq (JX h (by omega)) ?_
  unfold wE
  exact .bind (P:=fun r=>r=([],hp)) (.cond (fun _=>.ret rfl) fun aj=>by cases aj) fun r aO=>.ret (by rw [aO];exact⟨rfl,by unfold qq;rw [if_pos rfl]⟩)
 obtain⟨k,rfl⟩:∃ k,x=k+1:=⟨x - 1,by omega⟩
 obtain⟨q,own,aa,ae⟩:=Gp h (show k<4 by omega)
 rw [show((k+1:Nat):Int)=(k:Int)+1 by omega]
 refine .eq aa (.bind (adH hs (show k<4 by omega) ae (an k (by omega))) fun r aO=>.ret ⟨aO.1,?_⟩)
 unfold qq;rw [if_neg e];exact aO.2
theorem gz.iI {s:aZ}{hp:aN Cell}{p:Nat}{ls:Nat→List ax}{next:Int}(h:gz s hp p ls next){k:Nat}(aw:k<4):h5 s k (ls k):=by
 obtain⟨q,own,_,ae⟩:=Gp h aw;exact ae.iI
theorem qq.same {s:aZ}(hs:c1 s){hp:aN Cell}{p:Nat}{ls:Nat→List ax}{next:Int}(h:gz s hp p ls next){x:Nat}(ar:x≤4){a c:List ax}(bb:qq ls x a)(aj:qq ls x c):a=c∧uO a a=some true:=by
 unfold qq at bb aj;by_cases e:x=0
 ·rw [if_pos e] at bb aj;rw [bb,aj];exact⟨rfl,FW (fun i au=>by cases au) (by simp)⟩
 rw [if_neg e] at bb aj;have pe:=h.iI (show x - 1<4 by omega);refine⟨ZF pe (.refl _) bb.1 aj.1 bb.2 aj.2,FW (fun i au=>(pe.ok.ok i (bb.1.mem_iff.1 au)).small hs (by omega)) ?_⟩;have:=bb.1.length_eq;have:=pe.ok.len;omega
def j5 (r c:Int):Prop:=(r<0↔c<0)∧ (0<r↔0<c)
theorem j5.zero {r c:Int}(h:j5 r c):r=0↔c=0:=by
 obtain⟨aa,ae⟩:=h;constructor
 ·intro e;have a: ¬ c<0:=fun x=>by have:=aa.2 x;omega
  have b: ¬ 0<c:=fun x=>by have:=ae.2 x;omega
  omega
 intro e;have a: ¬ r<0:=fun x=>by have:=aa.1 x;omega
 have b: ¬ 0<r:=fun x=>by have:=ae.1 x;omega
 omega
theorem j5.refl (r:Int):j5 r r:=⟨Iff.rfl,Iff.rfl⟩
theorem GZ {α:Type}{f g:α→α→Int}{x y:α}(h:f x y=0):j1 f g x y=g x y:=by unfold j1;rw [if_pos h]
theorem G0 {α:Type}{f g:α→α→Int}{x y:α}(h:f x y≠0):j1 f g x y=f x y:=by unfold j1;rw [if_neg h]
theorem abo {a b:az} :kX a b=true↔gQ a<gQ b:=by
 rw [CC];simp only [BitVec.lt_def];unfold gQ;have aa:=a.dg.isLt;have ae:=a.bX.isLt;have aG:=b.dg.isLt;have a0:=b.bX.isLt;constructor
 ·rintro (h | ⟨h,de⟩)
  ·omega
  rw [h];omega
 intro h;by_cases cA:a.dg.toNat<b.dg.toNat
 ·exact .inl cA
 have:a.dg.toNat=b.dg.toNat:=by omega
 exact .inr ⟨BitVec.eq_of_toNat_eq this,by omega⟩
theorem GK (a b:az):bk (p7 a b) (fun r=>j5 r (fr (gQ a) (gQ b))):=by
 refine(F1 a b).mono fun r aO=>?_;obtain⟨aa,ae⟩:=aO;rw [abo] at aa ae;exact⟨by rw [Ly];exact ae,by rw [z3];exact aa⟩
theorem CE (a b:Int):pt a b=some (fr a b):=by
 unfold pt fr;by_cases h:a<b
 ·simp [h]
 by_cases ae:b<a
 ·simp [h,ae]
 simp [h,ae]
theorem YY (x y:bW):bk (wM x y) (fun r=>j5 r (n7 x y)):=by
 unfold wM n7;by_cases jC:x.fm=y.fm
 ·have ahI:fr (l7 x) (l7 y)=0:=mI.2 (by unfold l7;rw [jC]);rw [show(x.fm !=y.fm)=false by simp [jC]];refine .cond (fun aj=>by simp at aj) fun _=>.cond (fun aj=>by cases aj) fun _=>?_;rw [GZ (f:=fun x y=>fr (l7 x) (l7 y)) ahI];refine .cond (fun aj=>(GK _ _).bind fun r aO=>.ret ?_) fun aj=>?_
  ·rw [G0]
   ·exact aO
   intro h;have:=zP (mI.1 h);simp [this] at aj
  have aq:x.cU=y.cU:=by simpa using aj
  rw [GZ (f:=fun x y:bW=>fr (gQ x.cU) (gQ y.cU)) (show fr (gQ x.cU) (gQ y.cU)=0 by rw [aq];exact mI.2 rfl)];refine .cond (fun aj=>(GK _ _).bind fun r aO=>.ret ?_) fun aj=>?_
  ·rw [G0]
   ·exact aO
   intro h;have:=zP (mI.1 h);simp [this] at aj
  have aX:x.gy=y.gy:=by simpa using aj
  rw [GZ (f:=fun x y:bW=>fr (gQ x.gy) (gQ y.gy)) (show fr (gQ x.gy) (gQ y.gy)=0 by rw [aX];exact mI.2 rfl)];refine .cond (fun aj=>.eq (CE _ _) (.ret ?_)) fun aj=>?_
  ·rw [G0]
   ·exact j5.refl _
   intro h;have:=mI.1 h;simp [this] at aj
  have dd:x.en=y.en:=by simpa using aj
  rw [GZ (f:=fun x y:bW=>fr x.en y.en) (show fr x.en y.en=0 by rw [dd];exact mI.2 rfl)];exact(GK _ _).bind fun r aO=>.ret aO
 rw [show(x.fm !=y.fm)=true by simp [jC]];have hs:fr (l7 x) (l7 y)=if y.fm=true then -1 else 1:=by
  unfold l7 fr;cases ar:x.fm <;> cases a5:y.fm <;> simp_all
 have db:fr (l7 x) (l7 y)≠0:=by rw [hs];split <;> decide
 rw [G0 (f:=fun x y=>fr (l7 x) (l7 y)) db];show bk _ (fun r=>j5 r (fr (l7 x) (l7 y)));rw [hs];refine .cond (fun aj=>.ret ?_) fun aj=>.cond (fun _=>.ret ?_) fun aj=>by cases aj
 ·rw [if_pos (by simpa using aj)];exact j5.refl _
 rw [if_neg (by simpa using aj)];exact j5.refl _
theorem QR {α:Type}[Inhabited α]{g:α→α→Int}{f:α→α→Option Int}(a2:∀ a b,bk (f a b) (fun r=>j5 r (g a b))){xs ys:List α}(ar:xs.length≤100000)(a5:ys.length≤100000):
 bk ((et (σ:=Int) (ε:=(Int×Bool) ⊕ (Int×Int×Int×Bool×Bool)) ei (fun s1=>
 cond ((decide (s1<(xs.length:Int)))&&(decide (s1<(ys.length:Int)))) (
  (idx xs.length s1).bind fun aW=>
  (idx ys.length s1).bind fun bI=>
  (f (aF xs aW) (aF ys bI)).bind fun aE=>
  cond (aE !=0) (
   some (.inr (Sum.inr (aE,s1,aE,(decide (s1<(xs.length:Int)))&&(decide (s1<(ys.length:Int))),aE !=0)))) (
   some (.inl (bt (s1+1))))) (
  some (.inr (Sum.inl (s1,(decide (s1<(xs.length:Int)))&&(decide (s1<(ys.length:Int)))))))) 0).bind fun aq=>
 Sum.elim (fun aq=>
  (pt (xs.length:Int) (ys.length:Int)).bind fun aK=>
  some aK) (fun aq=>
 some aq.1) aq) (fun r=>j5 r (lc g xs ys)):=by
 refine .bind (P:=fun e=>(∃ q,e= .inl q∧lc g xs ys=fr (xs.length:Int) (ys.length:Int))∨ ∃ q:Int×Int×Int×Bool×Bool,e= .inr q∧j5 q.1 (lc g xs ys))
  (bk.pF (min xs.length ys.length) (fun j st=>st=(j:Int)∧lc g xs ys=lc g (xs.drop j) (ys.drop j)) (by omega) ⟨rfl,rfl⟩ (fun j st aH hs=>?_) (fun st hs=>?_)) fun e he=>?_
 ·obtain⟨rfl,hs⟩:=hs
  have Nl:j<xs.length:=by omega
  have ym:j<ys.length:=by omega
  refine .cond (fun _=>?_) fun aj=>by
   rw [decide_eq_true (show(j:Int)<(xs.length:Int) by omega),decide_eq_true (show(j:Int)<(ys.length:Int) by omega)] at aj;cases aj
  rw [List.drop_eq_getElem_cons Nl,List.drop_eq_getElem_cons ym] at hs
  refine .idx rfl Nl (.idx rfl ym ((a2 _ _).bind fun r aO=>?_))
  rw [eO _ Nl,eO _ ym] at aO
  have hs:lc g xs ys=if g xs[j] ys[j]=0 then lc g (xs.drop (j+1)) (ys.drop (j+1)) else g xs[j] ys[j]:=hs
  refine .cond (fun aj=>.ret (.inr ⟨_,rfl,?_⟩)) fun aj=>.ret ⟨e2 (by omega),?_⟩
  ·have:r≠0:=by simpa using aj
   rw [hs,if_neg (fun h=>this (aO.zero.2 h))];exact aO
  have:r=0:=by simpa using aj
  rw [hs,if_pos (aO.zero.1 this)]
 ·obtain⟨rfl,hs⟩:=hs
  refine .cond (fun aj=>by
   rw [Bool.and_eq_true,decide_eq_true_eq,decide_eq_true_eq] at aj;omega) fun _=>.ret (.inl ⟨_,rfl,?_⟩)
  rw [hs]
  rcases Nat.lt_trichotomy xs.length ys.length with h | h | h
  ·rw [show min xs.length ys.length=xs.length by omega,List.drop_length]
   cases hd:ys.drop xs.length with
   | nil=>have:=List.drop_eq_nil_iff.1 hd;omega
   | cons z lL=>
     unfold fr
     rw [if_pos (by omega)];rfl
  ·rw [show min xs.length ys.length=xs.length by omega,List.drop_length,h,List.drop_length,mI.2 rfl];rfl
  rw [show min xs.length ys.length=ys.length by omega,List.drop_length]
  cases hd:xs.drop ys.length with
  | nil=>have:=List.drop_eq_nil_iff.1 hd;omega
  | cons z lL=>
    unfold fr
    rw [if_neg (by omega),if_pos (by omega)];rfl
 rcases he with⟨q,rfl,hq⟩ | ⟨q,rfl,hq⟩
 ·simp only [Sum.elim_inl]
  refine .eq (CE _ _) (.ret ?_)
  rw [hq];exact j5.refl _
 simp only [Sum.elim_inr]
 exact .ret hq
theorem OS {xs ys:List bW}(ar:xs.length≤1000)(a5:ys.length≤1000):bk (uM xs ys) (fun r=>j5 r (lc n7 xs ys)):=by
 unfold uM;exact QR YY (by omega) (by omega)
theorem X4 {xs ys:List az}(ar:xs.length≤1000)(a5:ys.length≤1000):bk (wJ xs ys) (fun r=>j5 r (lc (fun v w=>fr (gQ v) (gQ w)) xs ys)):=by
 unfold wJ;exact QR GK (by omega) (by omega)
theorem YZ {l:List Int}(an:l.length≤1000):bk (et (σ:=Int) (ε:=(Int×Bool) ⊕ (Int×Int×Int×Bool×Bool)) ei (fun s1=>
 cond (decide (s1<(l.length:Int))) (
  (idx l.length s1).bind fun aW=>
  cond ((aF l aW) !=0) (
   some (.inr (Sum.inr (aF l aW,aF l aW,s1,decide (s1<(l.length:Int)),(aF l aW) !=0)))) (
   some (.inl (bt (s1+1))))) (
  some (.inr (Sum.inl (s1,decide (s1<(l.length:Int))))))) 0) (fun e=>(∃ q,e= .inl q∧mo l=0)∨ ∃ q:Int×Int×Int×Bool×Bool,e= .inr q∧q.1=mo l∧mo l≠0):=by
 refine bk.pF l.length (fun j st=>st=(j:Int)∧mo l=mo (l.drop j)) (by omega) ⟨rfl,rfl⟩ (fun j st aH hs=>?_) (fun st hs=>?_)
 ·obtain⟨rfl,hs⟩:=hs
  rw [List.drop_eq_getElem_cons aH] at hs
  have hs:mo l=if l[j]=0 then mo (l.drop (j+1)) else l[j]:=hs
  refine .cond (fun _=>.idx rfl aH ?_) fun aj=>by simp at aj;omega
  rw [eO _ aH]
  refine .cond (fun aj=>.ret (.inr ⟨_,rfl,?_⟩)) fun aj=>.ret ⟨e2 (by omega),?_⟩
  ·have:l[j]≠0:=by simpa using aj
   rw [hs,if_neg this];exact⟨rfl,this⟩
  have:l[j]=0:=by simpa using aj
  rw [hs,if_pos this]
 obtain⟨rfl,hs⟩:=hs
 refine .cond (fun aj=>by simp at aj) fun _=>.ret (.inl ⟨_,rfl,?_⟩)
 rw [hs,List.drop_length];rfl
theorem afI (a b c d:Int):mo [a,b,c,d]=if a=0 then(if b=0 then(if c=0 then d else c) else b) else a:=by
 have hd:mo [d]=d:=by
  show(if d=0 then 0 else d)=d;split
  ·rename_i h;exact h.symm
  rfl
 show(if a=0 then(if b=0 then(if c=0 then mo [d] else c) else b) else a)=_;rw [hd]
theorem adI {t p m E9 a v f:Int}(hm:j5 m E9)(a2:f=if t=0 then(if p=0 then(if m=0 then a else m) else p) else t):
 (f≠0→j5 f (if t=0 then(if p=0 then(if E9=0 then(if a=0 then v else a) else E9) else p) else t))∧ (f=0→ (if t=0 then(if p=0 then(if E9=0 then(if a=0 then v else a) else E9) else p) else t)=v):=by
 have dI:=hm.zero
 by_cases bM:t=0
 ·rw [if_pos bM] at a2
  by_cases hp:p=0
  ·rw [if_pos hp] at a2
   by_cases bO:m=0
   ·rw [if_pos bO] at a2
    rw [if_pos bM,if_pos hp,if_pos (dI.1 bO)]
    by_cases bb:a=0
    ·rw [if_pos bb];exact⟨fun h=>absurd (a2.trans bb) h,fun _=>rfl⟩
    rw [if_neg bb,a2];exact⟨fun _=>j5.refl _,fun h=>absurd h bb⟩
   rw [if_neg bO] at a2
   rw [if_pos bM,if_pos hp,if_neg (fun h=>bO (dI.2 h)),a2]
   exact⟨fun _=>hm,fun h=>absurd h bO⟩
  rw [if_neg hp] at a2
  rw [if_pos bM,if_neg hp,a2]
  exact⟨fun _=>j5.refl _,fun h=>absurd h hp⟩
 rw [if_neg bM] at a2
 rw [if_neg bM,a2]
 exact⟨fun _=>j5.refl _,fun h=>absurd h bM⟩
theorem aaG {x y:a8}(aa:x.bU.length≤1000)(ae:y.bU.length≤1000)(aG:x.hl.length≤1000)(a0:y.hl.length≤1000):bk (uN x y) (fun r=>j5 r (rS x y)):=by
 unfold uN;refine .eq (CE _ _) (.eq (CE _ _) ((OS aa ae).bind fun bs ag6=>.eq (CE _ _) ((YZ (l:= [fr x.cO y.cO,fr y.fP x.fP,bs,fr x.h7 y.h7]) (by simp)).bind fun e he=>?_)));have ag7:rS x y=if fr x.cO y.cO=0 then(if fr y.fP x.fP=0 then(if lc n7 x.bU y.bU=0 then(if fr x.h7 y.h7=0 then lc (fun v w=>fr (gQ v) (gQ w)) x.hl y.hl else fr x.h7 y.h7) else lc n7 x.bU y.bU) else fr y.fP x.fP) else fr x.cO y.cO:=rfl;obtain⟨aW,bI⟩:=adI (v:=lc (fun v w=>fr (gQ v) (gQ w)) x.hl y.hl) ag6 (afI (fr x.cO y.cO) (fr y.fP x.fP) bs (fr x.h7 y.h7));rw [← ag7] at aW bI;rcases he with⟨q,rfl,bO⟩ | ⟨q,rfl,hq,bO⟩
 ·simp only [Sum.elim_inl];refine(X4 aG a0).bind fun r aO=>.ret ?_;rw [bI bO];exact aO
 simp only [Sum.elim_inr];refine .ret ?_;rw [hq];exact aW bO
theorem ZH {x y:a8}(aa:x.bU.length≤1000)(ae:y.bU.length≤1000):BS x y=some (gn x y):=by
 refine bk.get ?_;unfold BS;refine .cu (P:=fun r=>j5 r (lc n7 x.bU y.bU)) (fun _=>OS aa ae) fun r aO=>.eq rfl (.ret ?_);rw [Bool.eq_iff_iff,si];simp only [Bool.and_eq_true,beq_iff_eq] at aO ⊢;constructor
 ·rintro ⟨⟨aq,aX⟩,dd⟩;exact⟨aq,Kt (fun _ _=>QP) ((aO ⟨aq,aX⟩).zero.1 dd),aX⟩
 rintro ⟨aq,aX,dd⟩;exact⟨⟨aq,dd⟩,(aO ⟨aq,dd⟩).zero.2 (by rw [aX];exact(Lz LA).self _)⟩
def sB (ls:Nat→List ax):List ax:=ls 0++ls 1++ls 2++ls 3
theorem ZI {ls:Nat→List ax}{i:ax} :i∈sB ls↔ ∃ k,k<4∧i∈ls k:=by
 unfold sB;simp only [List.mem_append];constructor
 ·rintro (((h | h) | h) | h)
  ·exact⟨0,by decide,h⟩
  ·exact⟨1,by decide,h⟩
  ·exact⟨2,by decide,h⟩
  exact⟨3,by decide,h⟩
 rintro ⟨k,aw,h⟩;have:k=0∨k=1∨k=2∨k=3:=by omega
 rcases this with rfl | rfl | rfl | rfl
 ·exact .inl (.inl (.inl h))
 ·exact .inl (.inl (.inr h))
 ·exact .inl (.inr h)
 exact .inr h
theorem Y0 {ls ls':Nat→List ax}(h:∀ k,k<4→ (ls k).Perm (ls' k)):(sB ls).Perm (sB ls'):=
 (((h 0 (by decide)).append (h 1 (by decide))).append (h 2 (by decide))).append (h 3 (by decide))
theorem ZJ {ls:Nat→List ax}{k:Nat}(aw:k<4)(i:ax):(sB ls++[i]).Perm (sB (mn ls k (ls k++[i]))):=by
 unfold sB;have c:∀ a b d:List ax,((a++b)++d).Perm (a++d++b):=fun a b d=>by
  rw [List.append_assoc,List.append_assoc];exact List.Perm.append_left _ List.perm_append_comm
 have:k=0∨k=1∨k=2∨k=3:=by omega
 rcases this with rfl | rfl | rfl | rfl
 ·rw [m5,oT (by decide),oT (by decide),oT (by decide)];exact(c _ _ _).trans (((c _ _ _).trans ((c _ _ _).append_right _)).append_right _)
 ·rw [m5,oT (by decide),oT (by decide),oT (by decide),← List.append_assoc (ls 0)];exact(c _ _ _).trans ((c _ _ _).append_right _)
 ·rw [m5,oT (by decide),oT (by decide),oT (by decide),← List.append_assoc (ls 0++ls 1)];exact c _ _ _
 rw [m5,oT (by decide),oT (by decide),oT (by decide),List.append_assoc (ls 0++ls 1++ls 2)]
structure o8 (s:aZ)(ls:Nat→List ax):Prop where
 iI:∀ k,k<4→h5 s k (ls k)
 len:∀ k,k<4→ (ls k).length≤12
structure ku (s:aZ)(y:bZ)(ls:Nat→List ax)(next:Int):Prop where
 yn:y.ou=s
 num:y.h0=next
 Il:y.cb.Pairwise (fun a b=>lj a b≤0)
 AK:y.cb.Perm (sB ls)
theorem ku.len {s:aZ}{y:bZ}{ls:Nat→List ax}{next:Int}(h:ku s y ls next)(an:o8 s ls):y.cb.length≤48:=by
 rw [h.AK.length_eq];unfold sB;have bO:=an.len 0 (by decide);have aa:=an.len 1 (by decide);have ae:=an.len 2 (by decide);have aG:=an.len 3 (by decide);simp only [List.length_append];omega
theorem ku.mem {s:aZ}{y:bZ}{ls:Nat→List ax}{next:Int}(h:ku s y ls next){i:ax} :i∈y.cb↔ ∃ k,k<4∧i∈ls k:=by
 rw [h.AK.mem_iff,ZI]
theorem ku.dS {s:aZ}{y:bZ}{ls:Nat→List ax}{next:Int}(h:ku s y ls next)(an:o8 s ls){i:ax}(au:i∈y.cb):∃ k,k<4∧i∈ls k∧jZ s k i:=by
 obtain⟨k,aw,au⟩:=h.mem.1 au;exact⟨k,aw,au,(an.iI k aw).ok.ok i au⟩
theorem ku.small {s:aZ}(hs:c1 s){y:bZ}{ls:Nat→List ax}{next:Int}(h:ku s y ls next)(an:o8 s ls){i:ax}(au:i∈y.cb):i.bj.bU.length≤1000∧i.bj.hl.length≤1000:=by
 obtain⟨k,aw,_,au⟩:=h.dS an au;exact au.small hs aw
theorem ku.e0 {s:aZ}(hs:c1 s){y:bZ}{ls:Nat→List ax}{next:Int}(h:ku s y ls next)(an:o8 s ls){k:Nat}(aw:k<4){e:a8}(he:hH s k e):(y.cb.any fun i=>gn i.bj e)=(Go.Proofs.YthkfkliknjiecaaGreat.e0 (ls k) e).isSome:=by
 rw [Bool.eq_iff_iff,List.any_eq_true];constructor
 ·rintro ⟨i,au,kB⟩;obtain⟨j,aH,gd,EL⟩:=h.dS an au;have bM:=(si.1 kB).1;rw [EL.dS.gE,he.gE] at bM;have:j=k:=by omega
  subst this;cases a2:Go.Proofs.YthkfkliknjiecaaGreat.e0 (ls j) e with
  | some _=>rfl
  | none=>rw [tb a2 i gd] at kB;cases kB
 intro a2;obtain⟨i,a2⟩:=Option.isSome_iff_exists.1 a2;obtain⟨au,kB⟩:=qV a2;exact⟨i,h.mem.2 ⟨k,aw,au⟩,kB⟩
theorem ZK {y:bZ}{e:a8}(hlen:y.cb.length≤1000)(v9:∀ i∈y.cb,i.bj.bU.length≤1000)(he:e.bU.length≤1000):bk (BF y e) (fun r=>r.2=y.cb.any fun i=>gn i.bj e):=by
 unfold BF;refine .bind (P:=fun x=>(∃ q,x= .inl q∧ (y.cb.any fun i=>gn i.bj e)=false)∨ ∃ q:Bool×Int×Bool×Bool×ax,x= .inr q∧q.1=true∧ (y.cb.any fun i=>gn i.bj e)=true)
  (bk.pF y.cb.length (fun j st=>st=(j:Int)∧ ((y.cb.take j).any fun i=>gn i.bj e)=false) (by omega) ⟨rfl,rfl⟩ (fun j st aH hs=>?_) (fun st hs=>?_)) fun x ar=>?_
 ·obtain⟨rfl,hs⟩:=hs;have hm:aF y.cb j∈y.cb:=by rw [eO _ aH];exact List.getElem_mem _
  refine .cond (fun _=>.idx rfl aH (.eq (ZH (v9 _ hm) he) (.cond (fun aj=>.ret (.inr ⟨_,rfl,rfl,?_⟩)) fun aj=>.ret ⟨e2 (by omega),?_⟩))) fun aj=>by simp at aj;omega
  ·rw [List.any_eq_true];exact⟨_,hm,aj⟩
  rw [pv _ aH,List.any_append,hs];simp [aj]
 ·obtain⟨rfl,hs⟩:=hs;refine .cond (fun aj=>by simp at aj) fun _=>.ret (.inl ⟨_,rfl,?_⟩);rw [List.take_length] at hs;exact hs
 rcases ar with⟨q,rfl,hq⟩ | ⟨q,rfl,hq,nU⟩
 ·simp only [Sum.elim_inl];exact .ret hq.symm
 simp only [Sum.elim_inr];exact .ret (hq.trans nU.symm)
def xP (y:bZ)(x:Int):List ax:=y.cb.filter fun i=>i.bj.cO==x
theorem Gi {y:bZ}{x:Int}(hlen:y.cb.length≤1000):rY y x=some (xP y x):=by
 refine bk.get ?_;unfold rY;refine .bind (P:=fun e=>e.2.2=xP y x) (bk.pF y.cb.length (fun j st=>st=((j:Int),(y.cb.take j).filter fun i=>i.bj.cO==x)) (by omega) rfl (fun j st aH hs=>?_) (fun st hs=>?_)) fun e he=>.ret he
 ·subst hs;have hle:=List.length_filter_le (fun i:ax=>i.bj.cO==x) (y.cb.take j);rw [List.length_take] at hle;refine .cond (fun _=>.idx rfl aH (.bind (P:=fun m=>m=(y.cb.take (j+1)).filter fun i=>i.bj.cO==x) (.cond (fun aj=>.eq (iJ _ _ (by simp only [List.length_cons,List.length_nil];omega) (by omega)) (.ret ?_)) fun aj=>.ret ?_) fun m hm=>.ret ?_)) fun aj=>by simp at aj;omega
  ·rw [pv _ aH,List.filter_append,show [aF y.cb j].filter (fun i=>i.bj.cO==x)= [aF y.cb j] from by simp only [List.filter_cons,aj,if_true,List.filter_nil]]
  ·rw [pv _ aH,List.filter_append,show [aF y.cb j].filter (fun i=>i.bj.cO==x)= [] from by rw [List.filter_cons,aj];rfl,List.append_nil]
  rw [hm,e2 (by omega)]
 subst hs;refine .cond (fun aj=>by simp at aj) fun _=>.ret ?_;show List.filter _ (List.take _ _)=_;rw [List.take_length];rfl
theorem JF {s:aZ}{y:bZ}{ls:Nat→List ax}{next:Int}(h:ku s y ls next)(an:o8 s ls){k:Nat}(aw:k<4):(xP y ((k:Int)+1)).Perm (ls k):=by
 refine(h.AK.filter _).trans ?_;have key:∀ j,j<4→ (ls j).filter (fun i=>i.bj.cO==(k:Int)+1)=if j=k then ls j else []:=fun j aH=>by
  by_cases e:j=k
  ·subst e;rw [if_pos rfl];exact List.filter_eq_self.2 fun c aj=>by rw [((an.iI j aH).ok.ok c aj).dS.gE];simp
  rw [if_neg e];exact List.filter_eq_nil_iff.2 fun c aj=>by rw [((an.iI j aH).ok.ok c aj).dS.gE];simp;omega
 unfold sB;rw [List.filter_append,List.filter_append,List.filter_append,key 0 (by decide),key 1 (by decide),key 2 (by decide),key 3 (by decide)];have:k=0∨k=1∨k=2∨k=3:=by omega
 rcases this with rfl | rfl | rfl | rfl <;> simp
theorem aaH {s:aZ}{y:bZ}{ls:Nat→List ax}{next:Int}(h:ku s y ls next)(an:o8 s ls){x:Int}(ar:x<1∨4<x):xP y x= []:=
 List.filter_eq_nil_iff.2 fun c aj=>by
  obtain⟨k,aw,_,au⟩:=h.dS an aj;rw [au.dS.gE];simp;omega
theorem ZL {s:aZ}{y:bZ}{ls:Nat→List ax}{next:Int}(h:ku s y ls next)(x:Int):(xP y x).Pairwise (fun a b=>lj a b≤0):=h.Il.sublist List.filter_sublist
theorem RF {a b:a8} :(a.cO<b.cO→rS a b<0)∧ (b.cO<a.cO→0<rS a b):=by
 have h:rS a b=if fr a.cO b.cO=0 then _ else fr a.cO b.cO:=rfl;constructor
 ·intro cf;rw [h,if_neg (fun dI=>by have:=mI.1 dI;omega)];exact Ly.2 cf
 intro cf;rw [h,if_neg (fun dI=>by have:=mI.1 dI;omega)];exact z3.2 cf
theorem JG {s:aZ}(hs:c1 s){y:bZ}(a5:y.ou=s){k:Nat}(aw:k<4){e:a8}(he:hH s k e):wB y e=some (k:Int):=by
 refine bk.get ?_;unfold wB;rw [a5,he.gE];exact(Jl hs aw).bind fun r aO=>.ret aO
theorem aaI {s:aZ}(hs:c1 s){y:bZ}{ls:Nat→List ax}{next:Int}(h:ku s y ls next)(an:o8 s ls){k:Nat}(aw:k<4){i:ax}(au:jZ s k i):
 bk (BI y i) (fun r=>r.ou=y.ou∧r.h0=y.h0∧r.cb.Pairwise (fun a b=>lj a b≤0)∧r.cb.Perm (y.cb++[i])):=by
 have hlen:=h.len an
 unfold BI
 refine .bind (P:=fun e=> ∃ n:Nat,n≤y.cb.length∧e.1=(n:Int)∧ (∀ a∈y.cb.take n,lj a i≤0)∧ (∀ aR:n<y.cb.length,0<lj (y.cb[n]) i))
  (bk.pF y.cb.length (fun j st=>st=(j:Int)∧ ∀ a∈y.cb.take j,lj a i≤0) (by omega) ⟨rfl,fun a bb=>by simp at bb⟩ (fun j st aH hs=>?_) (fun st hs=>?_)) fun e he=>?_
 ·obtain⟨rfl,eu⟩:=hs
  have hm:aF y.cb j∈y.cb:=by rw [eO _ aH];exact List.getElem_mem _
  obtain⟨k',iR,_,bg⟩:=h.dS an hm
  have yu:j5 1 1:=j5.refl 1
  refine .cond (fun _=>?_) fun aj=>by simp at aj;omega
  refine .idx rfl aH (.eq (JG hs h.yn iR bg.dS) (.eq (JG hs h.yn aw au.dS) ?_))
  refine .cu (P:=fun c=>c=j) (fun _=>⟨j,mG aH,rfl⟩) fun bI ae=>?_
  refine .cu (P:=fun r=>j5 r (lj (aF y.cb j) i)) (fun aj=>by
   rw [ae aj];exact aaG (bg.small hs iR).1 (au.small hs aw).1 (bg.small hs iR).2 (au.small hs aw).2) fun bs aG=>?_
  have xE:((decide ((k':Int)>(k:Int)))||(((k':Int)==(k:Int))&&(decide (bs>0))))=decide (0<lj (aF y.cb j) i):=by
   obtain⟨t1,t2⟩:=RF (a:=(aF y.cb j).bj) (b:=i.bj);rw [bg.dS.gE,au.dS.gE] at t1 t2;have lK:lj (aF y.cb j) i=rS (aF y.cb j).bj i.bj:=rfl;rcases Nat.lt_trichotomy k' k with cf | heq | aiy
   ·have:=t1 (by omega);rw [decide_eq_false (show ¬ (k':Int)>(k:Int) by omega),show((k':Int)==(k:Int))=false by simp;omega,decide_eq_false (show ¬ 0<lj (aF y.cb j) i by rw [lK];omega)];rfl
   ·subst heq;have aG:=aG (by simp);rw [decide_eq_false (show ¬ (k':Int)>(k':Int) by omega),show((k':Int)==(k':Int))=true by simp,Bool.false_or,Bool.true_and];exact decide_eq_decide.2 aG.2
   have:=t2 (by omega);rw [decide_eq_true (show(k':Int)>(k:Int) by omega),decide_eq_true (show 0<lj (aF y.cb j) i by rw [lK];exact this)];rfl
  rw [xE]
  refine .cond (fun aj=>.ret ⟨j,by omega,rfl,eu,fun aR=>?_⟩) fun aj=>.ret ⟨e2 (by omega),fun a bb=>?_⟩
  ·rw [← eO _ aR];exact of_decide_eq_true aj
  rw [pv _ aH] at bb
  rcases List.mem_append.1 bb with bb | bb
  ·exact eu a bb
  rw [List.mem_singleton.1 bb]
  have:=of_decide_eq_false aj
  omega
 ·obtain⟨rfl,eu⟩:=hs
  exact .cond (fun aj=>by simp at aj) fun _=>.ret ⟨y.cb.length,Nat.le_refl _,rfl,eu,fun aR=>absurd aR (Nat.lt_irrefl _)⟩
 obtain⟨aq,aX⟩:=e
 obtain⟨n,aR,rfl,g1,eX⟩:=he
 have pe:i=i:=rfl
 refine .eq (a:=y.cb.take n) (by unfold q1;rw [if_pos ⟨by omega,by omega,by omega⟩];simp) ?_
 refine .eq (iJ _ _ (by simp;omega) (by omega)) (.eq (iJ _ _ (by simp;omega) (by omega)) (.eq (a:=y.cb.drop n) (by unfold q1;rw [if_pos ⟨by omega,by omega,by omega⟩,List.take_of_length_le (by simp)];rfl) (.eq (iJ _ _ (by simp;omega) (by omega)) (.ret ?_))))
 simp only [List.nil_append]
 have yj:y.cb.Pairwise (fun a b=>lj a b≤0):=h.Il
 refine⟨trivial,trivial,?_,?_⟩
 ·have kR:∀ b∈y.cb.drop n,lj i b≤0:=fun b hb=>by
   have nX:n<y.cb.length:=by
    rcases Nat.lt_or_ge n y.cb.length with de | de
    ·exact de
    rw [List.drop_eq_nil_of_le de] at hb;cases hb
   have bO:=eX nX;have aa:lj i y.cb[n]≤0:=by have:=(CS.neg i y.cb[n]).2 bO;omega
   have hd:y.cb.drop n=y.cb[n]::y.cb.drop (n+1):=List.drop_eq_getElem_cons nX;rw [hd] at hb;rcases List.mem_cons.1 hb with e | hb
   ·rw [e];exact aa
   have Uu:=yj.sublist (List.drop_sublist n _);rw [hd] at Uu;exact CS.qR _ _ _ aa ((List.pairwise_cons.1 Uu).1 b hb)
  have xj:=yj
  rw [← List.take_append_drop n y.cb,List.pairwise_append] at xj
  rw [List.append_assoc,List.pairwise_append]
  refine⟨xj.1,?_,fun a bb b hb=>?_⟩
  ·rw [List.singleton_append,List.pairwise_cons]
   exact⟨kR,xj.2.1⟩
  rw [List.singleton_append] at hb
  rcases List.mem_cons.1 hb with e | hb
  ·rw [e];exact g1 a bb
  exact xj.2.2 a bb b hb
 rw [List.append_assoc]
 have ae:(y.cb.take n++(y.cb.drop n++[i]))=y.cb++[i]:=by rw [← List.append_assoc,List.take_append_drop]
 rw [← ae]
 exact List.Perm.append_left _ List.perm_append_comm
theorem X5 {s:aZ}(hs:c1 s){y:bZ}{ls:Nat→List ax}{next:Int}(h:ku s y ls next)(an:o8 s ls){k:Nat}(aw:k<4){e:a8}(he:hH s k e)(qQ:Int)(aR:0≤next∧next<1000000):
 bk (Bo y e qQ) (fun r=>if (e0 (ls k) e).isSome=true then r.2.2=y else if (aF s.bE k).hn≤ ((ls k).length:Int) then r.2.2=y
  else ku s r.2.2 (mn ls k (ls k++[{ bj:=e,cl:=next,il:=qQ }])) (next+1)):=by
 have hlen:=h.len an
 have v9:=he.len
 have au:jZ s k { bj:=e,cl:=next,il:=qQ } :=⟨he⟩
 have pW:=au.small hs aw
 unfold Bo
 refine .eq (JG hs h.yn aw he) (.cond (fun aj=>by simp at aj;omega) fun _=>?_)
 refine(ZK (by omega) (fun i au=>(h.small hs an au).1) pW.1).bind fun aK ae=>?_
 rw [h.e0 hs an aw he] at ae
 refine .cond (fun aj=>.ret ?_) fun aj=>?_
 ·rw [if_pos (by rw [← ae];exact aj)]
 rw [show(e0 (ls k) e).isSome=false by rw [← ae];exact aj]
 rw [he.gE,h.yn]
 refine .eq (Gi (by omega)) (.idx rfl (by rw [hs.kS];exact aw) ?_)
 have ag8:=(JF h an aw).length_eq
 rw [ag8]
 refine .cond (fun aj=>.ret ?_) fun aj=>?_
 ·rw [if_neg (by simp),if_pos (by simpa using aj)]
 have aj: ¬ (aF s.bE k).hn≤ ((ls k).length:Int):=by simpa using aj
 rw [h.num]
 refine(aaI hs h an aw au).bind fun bG a0=>.ret ?_
 rw [if_neg (by simp),if_neg aj]
 obtain⟨ao,a3,bx,c0⟩:=a0
 refine⟨ao.trans h.yn,?_,bx,(c0.trans (h.AK.append_right _)).trans (ZJ aw _)⟩
 show bt (bG.h0+1)=next+1
 rw [a3,h.num,ho] <;> omega
theorem ZM {s:aZ}{hp:aN Cell}{p:Nat}{ls:Nat→List ax}{next:Int}(h:gz s hp p ls next){x:Int}(ar:x<1∨4<x):dz (s0 hp (some p) x) (fun r=>r=([],hp)):=by
 unfold s0;refine .eq (JX h ar) ?_;unfold wE;exact .bind (P:=fun r=>r=([],hp)) (.cond (fun _=>.ret rfl) fun aj=>by cases aj) fun r aO=>.ret (by rw [aO])
theorem abp {s:aZ}{hp:aN Cell}{p:Nat}{ls:Nat→List ax}{next:Int}(h:gz s hp p ls next){x:Int}(ar:x<1∨4<x):uL hp (some p) x=some 0:=by
 refine bk.get ?_;unfold uL;exact .eq (JX h ar) (.eq (a:=0) rfl (.ret rfl))
theorem Mb {s:aZ}{hp:aN Cell}{p:Nat}{ls:Nat→List ax}{next:Int}(h:gz s hp p ls next)(an:∀ k,k<4→ (ls k).length≤12):o8 s ls:=⟨fun k aw=>h.iI aw,an⟩
def DZ (ls:Nat→List ax):Nat→List ax
 | 0=>[]
 | k+1=>DZ ls k++ls k
theorem Qc {ls:Nat→List ax}{i:ax} :∀ {n},i∈DZ ls n→ ∃ k,k<n∧i∈ls k
 | 0,h=>by cases h
 | n+1,h=>by
   rcases List.mem_append.1 h with h | h
   ·obtain⟨k,aw,au⟩:=Qc h;exact⟨k,by omega,au⟩
   exact⟨n,by omega,h⟩
theorem Qd {ls:Nat→List ax}(an:∀ k,k<4→ (ls k).length≤12):∀ n,n≤4→ (DZ ls n).length≤12 * n
 | 0,_=>Nat.le_refl 0
 | n+1,h=>by
   have:=Qd an n (by omega);have:=an n (by omega);unfold DZ;rw [List.length_append];omega
theorem abq {s:aZ}(hs:c1 s){hp:aN Cell}{p:Nat}{ls:Nat→List ax}{next:Int}{y:bZ}(h:gz s hp p ls next)(aO:ku s y ls next)(an:o8 s ls):dz (BK hp (some p)) (fun r=>r=(y.cb,hp)):=by
 obtain⟨m,hg,own,aa,ae,aG⟩:=h.cell;unfold BK;refine .cond (fun aj=>by cases aj) fun _=>.eq rfl (.eq aa ?_);refine .bind (P:=fun e=>e.2.2=(y.cb,hp)) (dz.loop 4 (fun k st=> ∃ out,st=((k:Int),out,hp)∧out.Perm (DZ ls k)∧out.Pairwise (fun a b=>lj a b≤0)) (by decide) ⟨[],rfl,.refl _,.nil⟩ (fun k st aw eu=>?_) (fun st eu=>?_)) fun e he=>.ret (by rw [he])
 ·obtain⟨out,rfl,cP,Nm⟩:=eu;have ag9:=(hs.gE aw).1;have H4:=hs.kS;refine .cond (fun _=>?_) fun aj=>by simp only [decide_eq_false_iff_not] at aj;omega
  refine .idx (k:=k) rfl (by show k<s.bE.length;omega) ?_;show dz (av.bind (s0 hp (some p) (aF s.bE k).bP) fun aE=>_) _;rw [ag9,show(k:Int)+1=((k+1:Nat):Int) by omega];refine .bind (Qb hs h (x:=k+1) (by omega) an.len) fun aE g=>?_;obtain⟨T,hp'⟩:=aE;obtain⟨ge,gt⟩:=g;simp only at ge gt;subst ge;unfold qq at gt;rw [if_neg (by omega)] at gt;have gt:T.Perm (ls k)∧T.Pairwise (fun a b=>lj a b≤0):=gt;have yw:=cP.length_eq;have NI:=Qd an.len k (by omega);have ahD:=gt.1.length_eq;have ahE:=an.len k aw;refine .eq (iJ _ _ (by simp only;omega) (by omega)) (.ret ⟨out++T,by rw [ho (by omega) (by omega)],cP.append gt.1,?_⟩);rw [List.pairwise_append];refine⟨Nm,gt.2,fun a bb b hb=>?_⟩;obtain⟨j,aH,bb⟩:=Qc (cP.mem_iff.1 bb);have ahJ:=((an.iI j (by omega)).ok.ok a bb).dS.gE;have ahK:=((an.iI k aw).ok.ok b (gt.1.mem_iff.1 hb)).dS.gE;have:=(RF (a:=a.bj) (b:=b.bj)).1 (by rw [ahJ,ahK];omega);show rS a.bj b.bj≤0;omega
 obtain⟨out,rfl,cP,Nm⟩:=eu;have H4:=hs.kS;refine .cond (fun aj=>by simp only [decide_eq_true_eq] at aj;omega) fun _=>.ret ?_;have Mc:out.Perm y.cb:=cP.trans aO.AK.symm;have:out=y.cb:=J0 CS Mc Nm aO.Il fun a bb b hb dI=>by
  obtain⟨j,aH,aha,ahb⟩:=aO.dS an (Mc.mem_iff.1 bb);obtain⟨qN,rF,Mq,ahc⟩:=aO.dS an (Mc.mem_iff.1 hb);have Uv:=SX (x:=a.bj) (y:=b.bj) dI;have bM:=(si.1 Uv).1;rw [ahb.dS.gE,ahc.dS.gE] at bM;have:j=qN:=by omega
  subst this;exact(an.iI j aH).uniq aha Mq Uv
 rw [this]
theorem abr {s:aZ}(hs:c1 s){hp:aN Cell}{p:Nat}{ls:Nat→List ax}{next:Int}{y:bZ}(h:gz s hp p ls next)(aO:ku s y ls next)(an:o8 s ls):dz (zn hp (some p) y) (fun r=>r=(true,hp)):=by
 have hlen:=aO.len an;unfold zn;refine .bind (P:=fun e=> ∃ q:Int×Bool×aN Cell,e= .inl q∧q.2.2=hp) (dz.loop 6 (fun x st=>st=((x:Int),hp)) (by omega) rfl (fun x st ar fI=>?_) (fun st fI=>?_)) fun aq Nn=>?_
 ·subst fI;refine .cond (fun _=>?_) fun aj=>by simp at aj;omega
  by_cases lF:1≤x∧x≤4
  ·obtain⟨k,rfl⟩:∃ k,x=k+1:=⟨x - 1,by omega⟩;have aw:k<4:=by omega
   refine .bind (Qb hs h (x:=k+1) (by omega) an.len) fun aE aa=>?_;obtain⟨a,hp'⟩:=aE;obtain⟨aq,aa⟩:=aa;simp only at aq aa;subst aq;have kW:((k+1:Nat):Int)=(k:Int)+1:=by omega
   have yu:qq ls (k+1) (xP y ((k+1:Nat):Int)):=by
    unfold qq;rw [if_neg (by omega),kW];exact⟨JF aO an aw,ZL aO _⟩
   obtain⟨ao,a3⟩:=qq.same hs h (by omega) aa yu;have EM:rY y ((k+1:Nat):Int)=some a:=by rw [Gi (by omega),ao]
   have ahd:a.length=(ls k).length:=by
    unfold qq at aa;rw [if_neg (by omega)] at aa;exact aa.1.length_eq
   have ahe:uL hp' (some p) ((k+1:Nat):Int)=some ((ls k).length:Int):=by rw [kW];exact abl h aw
   refine .eq EM (.eq a3 (.eq (a:=((ls k).length:Int)) (by unfold cu;rw [if_pos (show(!true)=false from rfl)];exact ahe) (.eq (a:=a) (by unfold cu;rw [if_pos (show(!true)=false from rfl)];exact EM) (.cond (fun aj=>?_) fun _=>.ret (by rw [e2 (by omega)])))));rw [ahd] at aj;simp at aj
  have vV:(x:Int)<1∨4<(x:Int):=by omega
  refine .bind (ZM h vV) fun aE aa=>?_;subst aa;have EM:rY y (x:Int)=some []:=by rw [Gi (by omega),aaH aO an vV]
  exact .eq EM (.eq (show uO [] []=some true from FW (fun i au=>by cases au) (by simp)) (.eq (a:=0) (by unfold cu;rw [if_pos (show(!true)=false from rfl)];exact abp h vV) (.eq (a:= []) (by unfold cu;rw [if_pos (show(!true)=false from rfl)];exact EM) (.cond (fun aj=>by simp at aj) fun _=>.ret (by rw [e2 (by omega)])))))
 ·subst fI;exact .cond (fun aj=>by simp at aj) fun _=>.ret ⟨_,rfl,rfl⟩
 obtain⟨q,rfl,hq⟩:=Nn;simp only [Sum.elim_inl];rw [hq];refine .bind (abq hs h aO an) fun ck bn=>?_;subst bn;refine .eq (FW (fun i au=>aO.small hs an au) (show y.cb.length≤1000 by omega)) (.eq (a:=next) (by unfold cu;rw [if_pos rfl];exact aaC h) (.ret ?_));rw [aO.num];simp
theorem ZN {s:aZ}{k:Nat}{l uE:List ax}(h:jo s k l)(p:uE.Perm l):jo s k uE:=
 ⟨fun i au=>h.ok i (p.mem_iff.1 au),(p.pairwise_iff fun cA=>Ne.symm cA).2 h.num,by rw [p.length_eq];exact h.len⟩
theorem Y1 {s:aZ}(hs:c1 s){hp:aN Cell}{p:Nat}{ls:Nat→List ax}{next:Int}(h:gz s hp p ls next){k:Nat}(aw:k<4)(q:Vector az 4):yK hp (some p) ((k:Int)+1) q=some (jq (jr s k (ls k) q)):=by
 obtain⟨aiR,own,aa,ae⟩:=Gp h aw;refine bk.get ?_;unfold yK;exact .eq aa (.eq (YO hs aw ae q) (.ret rfl))
theorem X6 {s:aZ}(hs:c1 s){y:bZ}{ls:Nat→List ax}{next:Int}(aO:ku s y ls next)(an:o8 s ls){k:Nat}(aw:k<4)(q:Vector az 4):yJ y ((k:Int)+1) q=some (jq (jr s k (ls k) q)):=by
 have hlen:=aO.len an;have hp:=JF aO an aw;have g1:=(an.iI k aw).ok;have cf:=ZN g1 hp;refine bk.get ?_;unfold yJ;rw [aO.yn];refine .eq (Gi (by omega)) (.eq (aax hs aw cf q) (.ret ?_));show jq (jr s k (xP y ((k:Int)+1)) q)=_;rw [ZG cf g1 (fun i=>hp.mem_iff)]
theorem KT {s:aZ}(hs:c1 s){hp:aN Cell}{p:Nat}{ls:Nat→List ax}{next:Int}{y:bZ}(h:gz s hp p ls next)(aO:ku s y ls next)(an:o8 s ls)(c:bq)(aj:hD c):
 dz (av.bind (zn hp (some p) y) fun kV=>
 cond (!kV.1) (
  av.ret (false,kV.2)) (
  av.bind (av.of (et (σ:=Int×bq) (ε:=(Int×Bool×bq) ⊕ (Bool×Bool×Int×Bool×Bool×bq)) ei (fun s2=>
    cond (decide (s2.1<(y.cb.length:Int))) (
     (idx y.cb.length s2.1).bind fun aW=>
     (yO s2.2).bind fun pO=>
     (zb ((aF y.cb aW).bj) pO.1).bind fun nV=>
     (yK kV.2 (some p) (((aF y.cb aW).bj).cO) nV).bind fun pP=>
     (yJ y (((aF y.cb aW).bj).cO) nV).bind fun tY=>
     (cu (pP.2 !=tY.2) false (wO pP.1 tY.1)).bind fun tZ=>
     cond ((pP.2 !=tY.2)||(!tZ)) (
      some (.inr (Sum.inr (pP.2,tY.2,s2.1,decide (s2.1<(y.cb.length:Int)),(pP.2 !=tY.2)||(!tZ),pO.2)))) (
      some (.inl (bt (s2.1+1),pO.2)))) (
     some (.inr (Sum.inl (s2.1,decide (s2.1<(y.cb.length:Int)),s2.2))))) (0,c))) fun aX=>
    Sum.elim (fun aX=>
     av.bind (zk kV.2) fun pb=>
     av.ret (pb.1,pb.2)) (fun aX=>
    av.ret (false,kV.2)) aX)) (fun r=>r.1=true):=by
 have hlen:=aO.len an
 refine .bind (abr hs h aO an) fun kV ahf=>?_
 subst ahf
 refine .cond (fun aj=>by cases aj) fun _=>?_
 refine .l6 (P:=fun e=> ∃ a,e= .inl a) (bk.pF y.cb.length (fun j st=> ∃ c,st=((j:Int),c)∧hD c) (by omega) ⟨c,rfl,aj⟩ (fun j st aH eu=>?_) (fun st eu=>?_)) fun aX sL=>?_
 ·obtain⟨j4,rfl,mW⟩:=eu
  have hm:aF y.cb j∈y.cb:=by rw [eO _ aH];exact List.getElem_mem _
  obtain⟨k,aw,qC,bg⟩:=aO.dS an hm
  have v9:=(bg.small hs aw).1
  refine .cond (fun _=>.idx rfl aH ?_) fun aj=>by simp at aj;omega
  refine(YE _ mW).bind fun pO ahg=>(XU _ _ (by omega)).bind fun nV _=>?_
  rw [bg.dS.gE]
  refine .eq (Y1 hs h aw _) (.eq (X6 hs aO an aw _) ?_)
  have hw:=YL hs aw (an.iI k aw).ok.e1.1 (fun c=>mt s k nV c.bj)
  have hw:(jq (jr s k (ls k) nV)).1.bj.bU.length≤1000∧ (jq (jr s k (ls k) nV)).1.bj.hl.length≤1000:=hw
  have hb:((jq (jr s k (ls k) nV)).2 !=(jq (jr s k (ls k) nV)).2)=false:=by simp
  simp only [hb]
  refine .eq (a:=true) (by unfold cu;rw [if_pos rfl];exact Pv hw.1 hw.2) (.cond (fun aj=>by cases aj) fun _=>.ret ⟨pO.2,by rw [e2 (by omega)],ahg⟩)
 ·obtain⟨j4,rfl,mW⟩:=eu
  exact .cond (fun aj=>by simp at aj) fun _=>.ret ⟨_,rfl⟩
 obtain⟨a,rfl⟩:=sL
 simp only [Sum.elim_inl]
 exact .bind (YV _) fun pb ahh=>.ret ahh
theorem Gj {ls:Nat→List ax}{k:Nat}{a b:List ax} :mn (mn ls k a) k b=mn ls k b:=by
 funext j;unfold mn;split <;> rfl
theorem Ku {l:List ax}{e:a8}(h:e0 l e=none):gb l e=l:=by
 unfold gb;exact List.filter_eq_self.2 fun c aj=>by rw [tb h c aj];rfl
theorem PA {l:List ax}{e:a8}{i:ax}(au:gn i.bj e=true):gb (l++[i]) e=gb l e:=by
 unfold gb;rw [List.filter_append];simp [au]
theorem PB {s:aZ}{k:Nat}{l:List ax}(an:h5 s k l){e:a8}{i:ax}(au:i∈l)(aw:gn i.bj e=true):(gb l e++[i]).Perm l:=by
 obtain⟨a,b,rfl⟩:=List.append_of_mem au;have jU:=an.key;rw [List.pairwise_append] at jU;obtain⟨_,ae,aG⟩:=jU;have bb:gb a e=a:=List.filter_eq_self.2 fun c aj=>by
  have a0:=aG c aj i List.mem_cons_self;have:gn c.bj e=false:=by
   rw [Bool.eq_false_iff];intro a7;rw [ta a7 (by rw [xb];exact aw)] at a0;cases a0
  rw [this];rfl
 have hb:gb b e=b:=List.filter_eq_self.2 fun c aj=>by
  have a0:=(List.pairwise_cons.1 ae).1 c aj;have:gn c.bj e=false:=by
   rw [Bool.eq_false_iff];intro a7;rw [ta aw (by rw [xb];exact a7)] at a0;cases a0
  rw [this];rfl
 have he:gb (a++i::b) e=a++b:=by
  unfold gb at bb hb ⊢;rw [List.filter_append,bb,List.filter_cons_of_neg (by rw [aw];simp),hb]
 rw [he,List.append_assoc];exact List.Perm.append_left _ List.perm_append_comm
theorem Qe {s:aZ}{k:Nat}{l:List ax}(an:h5 s k l){e:a8}{a i:ax}(bb:a∈l)(aw:gn a.bj e=true)(au:gn i.bj e=true)(aR:i.cl=a.cl):qJ (gb l e) i=true:=by
 have aa:e0 (gb l e) i.bj=none:=by
  cases a2:e0 (gb l e) i.bj with
  | none=>rfl
  | some c=>
    obtain⟨aj,ahi⟩:=qV a2
    have:=(m6.1 aj).2
    rw [ta ahi au] at this;cases this
 have ae:jl (gb l e) i.cl=false:=by
  rw [Bool.eq_false_iff];intro cA;unfold jl at cA;rw [List.any_eq_true] at cA;obtain⟨c,aj,aX⟩:=cA;obtain⟨ao,a3⟩:=m6.1 aj;have:c=a:=an.ok.uniq ao bb (by rw [← aR];simpa using aX);rw [this,aw] at a3;cases a3
 unfold qJ;rw [aa,ae];rfl
theorem ZO {l:List ax}{e:a8}{i:ax}(au:gn i.bj e=true){d:a8}(hd:gn d e=true):e0 (gb l e++[i]) d=some i:=by
 unfold e0;rw [List.find?_append];have aa:(gb l e).find? (fun c=>gn c.bj d)=none:=by
  rw [List.find?_eq_none];intro c aj;have:=(m6.1 aj).2;intro ae;rw [ta ae hd] at this;cases this
 have ae:gn i.bj d=true:=ta au (by rw [xb];exact hd);rw [aa];simp [ae]
theorem Y2 {l:List ax}{e:a8}{i:ax}(au:gn i.bj e=true){d:a8}(hd:gn d e=true):gb (gb l e++[i]) d=gb l e:=by
 rw [PA (ta au (by rw [xb];exact hd))];exact List.filter_eq_self.2 fun c aj=>by
  have:=(m6.1 aj).2;have aG:gn c.bj d=false:=by
   rw [Bool.eq_false_iff];intro ae;rw [ta ae hd] at this;cases this
  rw [aG];rfl
theorem PC {s:aZ}(hs:c1 s){hp:aN Cell}{p:Nat}{ls:Nat→List ax}{next:Int}(h:gz s hp p ls next){k:Nat}(aw:k<4){e:a8}(he:hH s k e)(hlen:(ls k).length<900):
 dz (yL hp (some p) e) (fun r=>match e0 (ls k) e with
  | some i=>r.1=i∧r.2.1=0∧gz s r.2.2 p (mn ls k (gb (ls k) e++[{ bj:=e,cl:=i.cl,il:=i.il }])) next
  | none=>r.2.1=16∧gz s r.2.2 p (mn ls k (gb (ls k) e)) next):=by
 have pe:=h.iI aw
 unfold yL
 refine .bind (Gh hs h aw he) fun aE aa=>?_
 obtain⟨a,err,cP⟩:=aE
 obtain⟨ao,a3⟩:=aa
 simp only at ao a3 ⊢
 cases a2:e0 (ls k) e with
 | none=>
   rw [a2] at ao
   have aX:err=16:=congrArg Prod.snd ao
   subst aX
   exact .cond (fun _=>.ret ⟨rfl,a3⟩) fun aj=>by simp at aj
 | some i=>
   rw [a2] at ao
   have aq:a=i:=congrArg Prod.fst ao
   have aX:err=0:=congrArg Prod.snd ao
   subst aq aX
   refine .cond (fun aj=>by simp at aj) fun _=>?_
   obtain⟨bb,ahj⟩:=qV a2
   obtain⟨m,hg,own,aa,ae,aG⟩:=a3.cell
   obtain⟨q,a0,a7⟩:=aG.has k aw
   rw [m5] at a7
   have au:jZ s k ({ bj:=e,cl:=a.cl,il:=a.il } :ax):=⟨he⟩
   have bM:qJ (gb (ls k) e) ({ bj:=e,cl:=a.cl,il:=a.il } :ax)=true:=Qe pe bb ahj (u1 _) rfl
   refine .eq rfl (.eq aa (.eq rfl (.eq ae (.eq (a:=some q) (by rw [he.gE,a0];rfl) (.eq rfl (.bind (KS hs aw a7 au (by have:=JY (ls k) e;omega)) fun aK bn=>.ret ⟨rfl,rfl,?_⟩))))))
   obtain⟨_,bI,cK⟩:=bn
   have eu:=gz.change aa ae aG aw a0 bI (fun x ar=>ar.imp id fun h=>h.1) cK
   unfold added at eu
   rw [if_pos bM,Gj] at eu
   exact eu
theorem X7 {s:aZ}(hs:c1 s){hp:aN Cell}{p:Nat}{ls:Nat→List ax}{next:Int}(h:gz s hp p ls next){k:Nat}(aw:k<4){i:ax}(au:jZ s k i)(hlen:(ls k).length<900):
 dz (Bg hp (some p) i) (fun r=>r.1=qJ (ls k) i∧gz s r.2 p (mn ls k (added (ls k) i)) next):=by
 obtain⟨m,hg,own,aa,ae,aG⟩:=h.cell
 obtain⟨q,a0,a7⟩:=aG.has k aw
 have EK:mD hp (some p) ((k:Int)+1)=some (some q):=by
  refine bk.get ?_;unfold mD;refine .cond (fun aj=>by cases aj) fun _=>.eq rfl (.eq aa (.eq rfl (.eq ae (.eq rfl (.ret ?_)))));rw [a0];rfl
 unfold Bg
 rw [au.dS.gE]
 refine .eq EK (.bind (KS hs aw a7 au hlen) fun bs bn=>.ret ⟨bn.1,?_⟩)
 exact gz.change aa ae aG aw a0 bn.2.1 (fun x ar=>ar.imp id fun h=>h.1) bn.2.2
theorem XF {s:aZ}{hp:aN Cell}{p:Nat}{ls:Nat→List ax}{next:Int}(h:gz s hp p ls next)(n:Int):bk (A7 hp (some p) n) (fun r=>gz s r p ls (max 1 n)):=by
 obtain⟨m,hg,own,aa,_⟩:=h.cell;unfold A7;exact .bind (P:=fun m=>gz s m p ls (max 1 n)) (.cond (fun _=>.eq rfl (.eq aa (.eq rfl (.ret (h.next' _ aa))))) fun aj=>by cases aj) fun m hm=>.ret hm
theorem dz.share {β α:Type}{B:(β→av α)→av α}{k:β→av α}{P:α→Prop}(h:dz (B k) P):dz (av.share B k) P:=h
theorem XG (hp:aN Cell)(J ai:List (BitVec 8))(aT:BitVec 8):dz (BL hp J ai aT) (fun r=>r.1=true):=by
 unfold BL;refine .l6 (Ki J 120 (by omega) (by omega)) fun aE aa=>.l6 (O5 aE aa) fun aK ae=>.l6 (Ki ai 220 (by omega) (by omega)) fun bs aG=>?_;obtain⟨s,wm⟩:=aK;obtain⟨h,_⟩:=ae;simp only at h ⊢;refine .bind (RD h hp) fun bG a0=>?_;obtain⟨p,g2,a0⟩:=a0;obtain⟨aiz,cP⟩:=bG;simp only at g2 a0;subst g2;have Di:∀ k,k<4→1≤ (aF s.bE k).hn∧ (aF s.bE k).hn≤12:=fun k aw=>by have:=h.size aw;omega
 refine .eq (a:=({ (default:bZ) with ou:=s,h0:=1 } :bZ)) rfl ?_;have ahk:ku s ({ (default:bZ) with ou:=s,h0:=1 } :bZ) (fun _=>[]) 1:=⟨rfl,rfl,.nil,.refl _⟩;refine .bind (P:=fun e=> ∃ y c hp' ls next,e.2.2=(y,c,hp')∧hD c∧gz s hp' p ls next∧ku s y ls next∧ (∀ k,k<4→ (∀ i∈ls k,i.cl<next)∧ ((ls k).length:Int)≤ (aF s.bE k).hn)∧1≤next∧next≤20)
  (dz.loop 14 (fun i st=> ∃ y c hp' ls next,st=((i:Int),y,c,hp')∧hD c∧gz s hp' p ls next∧ku s y ls next∧ (∀ k,k<4→ (∀ i∈ls k,i.cl<next)∧ ((ls k).length:Int)≤ (aF s.bE k).hn)∧1≤next∧next≤1+i) (by omega) ⟨_,bs,cP,_,_,rfl,aG,a0,ahk,fun k aw=>⟨fun i au=>(by cases au),by have:=Di k aw;simp;omega⟩,by omega,by omega⟩ (fun i st au eu=>?_) (fun st eu=>?_)) fun aq Nn=>?_
 ·obtain⟨y,c,hp',ls,next,rfl,aj,eu,qL,ot,l5,nY⟩:=eu;have hw:bt ((i:Int)+1)=((i+1:Nat):Int):=e2 (by omega);have An:∀ k,k<4→ (ls k).length≤12:=fun k aw=>by have:=Di k aw;have:=(ot k aw).2;omega
  refine .cu (P:=fun _=>True) (fun _=>Zx _) fun ck _=>.cond (fun _=>?_) fun _=>.ret ⟨y,c,hp',ls,next,rfl,aj,eu,qL,ot,l5,by omega⟩;refine .l6 (gJ _ 4 aj (by omega)) fun cQ dn=>.l6 (Ps cQ.2 cQ.1 dn.1 h) fun dO ⟨fh,k,aw,_,he⟩=>?_;have fy:=An k aw;refine .bind (Gg h eu aw he 1 (ot k aw).1 (by omega) (by omega)) fun hy gh=>.l6 (X5 h qL (Mb eu An) aw he 1 (by omega)) fun jn jM=>.ret ?_;by_cases a2:(e0 (ls k) dO.1).isSome=true
  ·rw [if_pos a2] at gh jM;subst gh;exact⟨y,dO.2,hp',ls,next,by rw [hw,jM],fh,eu,qL,ot,by omega,by omega⟩
  rw [if_neg a2] at gh jM;by_cases Dr:(aF s.bE k).hn≤ ((ls k).length:Int)
  ·rw [if_pos Dr] at gh jM;subst gh;exact⟨y,dO.2,hp',ls,next,by rw [hw,jM],fh,eu,qL,ot,by omega,by omega⟩
  rw [if_neg Dr] at gh jM;refine⟨jn.2.2,dO.2,hy.2.2,_,next+1,by rw [hw],fh,gh.2.2,jM,fun j aH=>?_,by omega,by omega⟩;by_cases e:j=k
  ·subst e;rw [m5];refine⟨fun x ar=>?_,by simp;omega⟩;rcases List.mem_append.1 ar with ar | ar
   ·have:=(ot j aH).1 x ar;omega
   rw [List.mem_singleton.1 ar];simp only;omega
  rw [oT e];exact⟨fun x ar=>by have:=(ot j aH).1 x ar;omega,(ot j aH).2⟩
 ·obtain⟨y,c,hp',ls,next,rfl,aj,eu,qL,ot,l5,nY⟩:=eu;refine .cu (P:=fun _=>True) (fun aj=>by simp at aj) fun ck _=>.cond (fun aj=>by simp at aj) fun _=>.ret ⟨y,c,hp',ls,next,rfl,aj,eu,qL,ot,l5,by omega⟩
 obtain⟨i1,dT,bu⟩:=aq;obtain⟨y,c,hp',ls,next,UT,aj,eu,qL,ot,l5,nY⟩:=Nn;simp only at UT;subst UT;simp only;have An:∀ k,k<4→ (ls k).length≤12:=fun k aw=>by have:=Di k aw;have:=(ot k aw).2;omega
 have Es:=Mb eu An;refine .l6 (gJ _ 4 aj (by omega)) fun iB qH=>.l6 (Ps iB.2 iB.1 qH.1 h) fun gv ⟨v3,rQ,MM,_,Uw⟩=>?_;refine .eq (a:=aT % 3#8) (by unfold zZ;rw [if_neg (by decide)]) ?_;refine .l6 (P:=fun m=>(∃ k,k<4∧hH s k m.1)∧hD m.2) (.cond (fun Ux=>?_) fun _=>.ret ⟨⟨rQ,MM,Uw⟩,v3⟩) fun bl cx=>?_
 ·have ah1:0<y.cb.length:=by
   rw [Bool.and_eq_true,decide_eq_true_eq,decide_eq_true_eq] at Ux;have:=Ux.2;omega
  refine(gJ _ (y.cb.length:Int) v3 (by omega)).bind fun aiA No=>?_;obtain⟨n,aR⟩:=Int.eq_ofNat_of_zero_le No.2.1;have nX:n<y.cb.length:=by have:=No.2.2.1;omega
  have hm:aF y.cb n∈y.cb:=by rw [eO _ nX];exact List.getElem_mem _
  obtain⟨k',iR,_,bg⟩:=qL.dS Es hm;refine .idx aR nX (.bind (P:=fun ll=> ∃ k,k<4∧hH s k ll) (.cond (fun _=>.eq rfl (.ret ⟨k',iR,⟨bg.dS.gE,bg.dS.len,bg.dS.um,Uw.args,bg.dS.pri⟩⟩)) fun _=>.ret ⟨k',iR,bg.dS⟩) fun ll v8=>.ret ⟨v8,No.1⟩)
 obtain⟨⟨k,aw,he⟩,dq⟩:=cx;have pe:=eu.iI aw;have fy:=An k aw;have fin:∀ m:aN Cell,(∃ ls',gz s m p ls' next∧ ∀ j,j<4→ (ls' j).Perm (ls j))→ ∃ ls',gz s m p ls' next∧ku s y ls' next∧o8 s ls':=fun m ⟨ls',ao,a3⟩=>
  ⟨ls',ao,⟨qL.yn,qL.num,qL.Il,qL.AK.trans (Y0 fun j aH=>(a3 j aH).symm)⟩,Mb ao fun j aH=>by rw [(a3 j aH).length_eq];exact An j aH⟩
 have D0:∀ {l:List ax},l.Perm (ls k)→ ∀ j,j<4→ (mn ls k l j).Perm (ls j):=fun {l} an j aH=>by
  by_cases e:j=k
  ·subst e;rw [m5];exact an
  rw [oT e]
 refine .eq (a:=aT % 3#8) (by unfold zZ;rw [if_neg (by decide)]) ?_;refine dz.share (.cond (fun _=>?_) fun _=>.cond (fun _=>?_) fun _=>?_)
 ·refine .bind (Gg h eu aw he 2 (ot k aw).1 (by omega) (by omega)) fun jL qG=>?_;refine .bind (P:=fun cF=> ∃ ls',gz s cF p ls' next∧ ∀ j,j<4→ (ls' j).Perm (ls j)) ?_ fun cF ef=>?_
  ·by_cases a2:(e0 (ls k) bl.1).isSome=true
   ·rw [if_pos a2] at qG;subst qG;exact .cond (fun aj=>by simp at aj) fun _=>.ret ⟨ls,eu,fun _ _=>.refl _⟩
   rw [if_neg a2] at qG;by_cases Dr:(aF s.bE k).hn≤ ((ls k).length:Int)
   ·rw [if_pos Dr] at qG;subst qG;exact .cond (fun aj=>by simp at aj) fun _=>.ret ⟨ls,eu,fun _ _=>.refl _⟩
   rw [if_neg Dr] at qG;obtain⟨ao,a3,bx⟩:=qG;have MG:e0 (ls k) bl.1=none:=by
    cases hq:e0 (ls k) bl.1 with
    | none=>rfl
    | some _=>rw [hq] at a2;exact absurd rfl a2
   refine .cond (fun _=>.bind (Gh h bx aw he) fun HQ ahl=>.l6 (XF ahl.2 jL.1) fun D6 Uy=>.ret ?_) fun aj=>by rw [a3] at aj;simp at aj
   rw [ao,show max 1 next=next by omega,m5,Gj,PA (u1 _),Ku MG] at Uy;exact⟨_,Uy,D0 (.refl _)⟩
  obtain⟨ls',ao,a3,bx⟩:=fin cF ef;exact KT h ao a3 bx _ dq
 ·refine .bind (PC h eu aw he (by omega)) fun qA Im=>?_;refine .bind (P:=fun cF=> ∃ ls',gz s cF p ls' next∧ ∀ j,j<4→ (ls' j).Perm (ls j)) ?_ fun cF ef=>?_
  ·cases a2:e0 (ls k) bl.1 with
   | none=>
     rw [a2] at Im
     obtain⟨ao,a3⟩:=Im
     rw [Ku a2] at a3
     exact .cond (fun aj=>by rw [ao] at aj;simp at aj) fun _=>.ret ⟨_,a3,D0 (.refl _)⟩
   | some i=>
     rw [a2] at Im
     obtain⟨g0,ao,a3⟩:=Im
     obtain⟨au,kB⟩:=qV a2
     have EL:=pe.ok.ok i au
     refine .cond (fun _=>?_) fun aj=>by rw [ao] at aj;simp at aj
     rw [g0]
     refine .bind (PC h a3 aw EL.dS (by rw [m5];have:=JY (ls k) bl.1;simp only [List.length_append,List.length_cons,List.length_nil];omega)) fun aiB Uz=>.ret ?_
     have aB:=ZO (l:=ls k) (e:=bl.1) (i:=({ bj:=bl.1,cl:=i.cl,il:=i.il } :ax)) (u1 _) kB
     have dt:=Y2 (l:=ls k) (e:=bl.1) (i:=({ bj:=bl.1,cl:=i.cl,il:=i.il } :ax)) (u1 _) kB
     rw [m5,aB,dt] at Uz
     have UA:=Uz.2.2
     rw [Gj] at UA
     exact⟨_,UA,D0 (PB pe au kB)⟩
  obtain⟨ls',ao,a3,bx⟩:=fin cF ef;exact KT h ao a3 bx _ dq
 refine .bind (Gh h eu aw he) fun ahm ahn=>?_;obtain⟨fb,err,hR⟩:=ahm;obtain⟨d1,d2⟩:=ahn;simp only at d1 d2 ⊢;refine .bind (P:=fun cF=>((err==0)=true→cF.1=true)∧ ∃ ls',gz s cF.2 p ls' next∧ ∀ j,j<4→ (ls' j).Perm (ls j)) ?_ fun cF ef=>?_
 ·cases a2:e0 (ls k) bl.1 with
  | none=>
    rw [a2] at d1
    have aX:err=16:=congrArg Prod.snd d1
    subst aX
    rw [Ku a2] at d2
    exact .cond (fun aj=>by simp at aj) fun _=>.ret ⟨fun aj=>by simp at aj,_,d2,D0 (.refl _)⟩
  | some i=>
    rw [a2] at d1
    have aq:fb=i:=congrArg Prod.fst d1
    have aX:err=0:=congrArg Prod.snd d1
    subst aq aX
    obtain⟨au,kB⟩:=qV a2
    have EL:=pe.ok.ok fb au
    refine .cond (fun _=>(X7 h d2 aw EL (by rw [m5];have:=JY (ls k) bl.1;omega)).mono fun r aO=>?_) fun aj=>by simp at aj
    have bM:=Qe pe au kB kB rfl
    obtain⟨js,gP⟩:=aO
    rw [m5,bM] at js
    rw [m5,Gj] at gP
    unfold added at gP
    rw [if_pos bM] at gP
    exact⟨fun _=>js,_,gP,D0 (PB pe au kB)⟩
 obtain⟨gY,x0⟩:=ef;refine .cond (fun aj=>?_) fun _=>?_
 ·rw [Bool.and_eq_true] at aj;rw [gY aj.1] at aj;simp at aj
 obtain⟨ls',ao,a3,bx⟩:=fin cF.2 x0;exact KT h ao a3 bx _ dq
theorem W7 (J ai:List (BitVec 8))(aT:BitVec 8):BL [] J ai aT (fun r=>r.1=true):=(XG [] J ai aT).run
end Go.Proofs.YthkfkliknjiecaaGreat
