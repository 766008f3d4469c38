/-
  The library of the decompiler, as far as it is needed here. Conditions: none.
-/
import Derived.Lib.AppendZerosOnto
import Derived.Lib.Overlaps
import Derived.MapKept
import Derived.Test.YtelbhaohleeijaaGreatMl0
set_option linter.unusedVariables false
set_option linter.unusedSimpArgs false
namespace Gv
open Go
def kL:Value:= .slice none 0 0
def blank:List (Nat×Value)→List Value→List Value
 | [],cs=>cs
 | o::r,cs=>blank r (cs.set o.1 kL)
theorem BB:∀ {os:List (Nat×Value)} {cs:List Value},(blank os cs).length=cs.length
 | [],_=>rfl
 | o::r,cs=>by rw [blank,BB,List.length_set]
theorem rv:∀ {os:List (Nat×Value)} {cs:List Value} (i:Nat),(blank os cs)[i]? =if os.any (fun h=>Nat.beq h.1 i)=true then cs[i]?.map (fun _=>kL) else cs[i]?
 | [],_,i=>by simp [blank]
 | o::r,cs,i=>by
   rw [blank,rv i,List.any_cons];by_cases h:o.1=i
   ·subst h;simp only [Nat.beq_refl,Bool.true_or,if_true,List.getElem?_set];by_cases al:o.1<cs.length
    ·simp [al]
    simp [al]
   have hb:Nat.beq o.1 i=false:=by
    cases hb:Nat.beq o.1 i
    ·rfl
    exact absurd (eH.1 hb) h
   rw [hb,Bool.false_or,List.getElem?_set_ne h]
def uC (os:List (Nat×Value))(off n:Nat):Bool:=os.all fun h=>Nat.blt h.1 off||Nat.ble (off+n) h.1
theorem Oi {os:List (Nat×Value)}{off n i:Nat}(h:uC os off n=true)(h1:off≤i)(ad:i<off+n):os.any (fun h=>Nat.beq h.1 i)=false:=by
 rw [List.any_eq_false];intro x ao hb;have aD:=List.all_eq_true.1 h x ao;have aZ:=eH.1 hb;simp only [Bool.or_eq_true,Nat.blt_eq,Nat.ble_eq] at aD;omega
theorem Yb {os:List (Nat×Value)}{off n:Nat}{cs:List Value}(h:uC os off n=true):((blank os cs).drop off).take n=(cs.drop off).take n:=by
 apply List.ext_getElem?;intro i;simp only [List.getElem?_take,List.getElem?_drop];split
 ·rw [rv,Oi h (by omega) (by omega)];rfl
 rfl
theorem we {cs ds:List Value}{off:Nat}(h:off+ds.length≤cs.length)(i:Nat):(gD cs off ds)[i]? =if i<off then cs[i]? else if i<off+ds.length then ds[i - off]? else cs[i]? :=by
 have h1:(cs.take off).length=off:=by rw [List.length_take];omega
 unfold gD;rw [List.append_assoc];by_cases ar:i<off
 ·rw [if_pos ar,List.getElem?_append_left (by omega),List.getElem?_take,if_pos ar]
 rw [if_neg ar,List.getElem?_append_right (by omega),h1];by_cases ad:i<off+ds.length
 ·rw [if_pos ad,List.getElem?_append_left (by omega)]
 rw [if_neg ad,List.getElem?_append_right (by omega),List.getElem?_drop];congr 1;omega
theorem WT {os:List (Nat×Value)}{off:Nat}{cs ds:List Value}(h:uC os off ds.length=true)(hs:off+ds.length≤cs.length):blank os (gD cs off ds)=gD (blank os cs) off ds:=by
 apply List.ext_getElem?;intro i;rw [rv,we hs,we (by rw [BB];exact hs),rv];by_cases h1:i<off
 ·simp only [if_pos h1]
 simp only [if_neg h1];by_cases ad:i<off+ds.length
 ·simp only [if_pos ad,Oi h (Nat.not_lt.1 h1) ad];rfl
 simp only [if_neg ad]
def ur (os:List (Nat×Value))(o:Nat)(u:Value):List (Nat×Value):=
 bif os.any (fun h=>Nat.beq h.1 o) then os.map (fun h=>bif Nat.beq h.1 o then(o,u) else h) else(o,u)::os
theorem W8 {os:List (Nat×Value)}{o:Nat}{u:Value}{h:Nat×Value}(hm:h∈ur os o u):h=(o,u)∨ (h∈os∧h.1≠o):=by
 unfold ur at hm;cases hb:os.any (fun h=>Nat.beq h.1 o)
 ·rw [hb] at hm;simp only [cond_false] at hm;rcases List.mem_cons.1 hm with hm | hm
  ·exact .inl hm
  refine .inr ⟨hm,fun e=>?_⟩;have:=List.any_eq_false.1 hb h hm;exact this (eH.2 e)
 rw [hb] at hm;simp only [cond_true] at hm;obtain⟨x,ao,he⟩:=List.mem_map.1 hm;cases h1:Nat.beq x.1 o
 ·rw [h1] at he;simp only [cond_false] at he;subst he;exact .inr ⟨ao,fun e=>by rw [eH.2 e] at h1;cases h1⟩
 rw [h1] at he;exact .inl he.symm
theorem W9 {os:List (Nat×Value)}{o i:Nat}{u:Value} :(ur os o u).any (fun h=>Nat.beq h.1 i)=(Nat.beq o i||os.any (fun h=>Nat.beq h.1 i)):=by
 unfold ur;cases hb:os.any (fun h=>Nat.beq h.1 o)
 ·simp only [cond_false,List.any_cons]
 simp only [cond_true,List.any_map];rw [Bool.eq_iff_iff,Bool.or_eq_true,List.any_eq_true,List.any_eq_true];constructor
 ·rintro ⟨x,ao,he⟩;simp only [Function.comp] at he;cases h1:Nat.beq x.1 o
  ·rw [h1] at he;exact .inr ⟨x,ao,he⟩
  rw [h1] at he;exact .inl he
 rintro (h | ⟨x,ao,he⟩)
 ·obtain⟨x,ao,h1⟩:=List.any_eq_true.1 hb;exact⟨x,ao,by simp only [Function.comp,h1,cond_true];exact h⟩
 refine⟨x,ao,?_⟩;simp only [Function.comp];cases h1:Nat.beq x.1 o
 ·exact he
 have aw:=eH.1 h1;have aX:=eH.1 he;simp only [cond_true];exact eH.2 (by omega)
def rE (os:List (Nat×Value))(o:Nat):List (Nat×Value):=os.filter (fun h=> !Nat.beq h.1 o)
theorem Xa {os:List (Nat×Value)}{o i:Nat} :(rE os o).any (fun h=>Nat.beq h.1 i)=(!(Nat.beq o i)&&os.any (fun h=>Nat.beq h.1 i)):=by
 rw [Bool.eq_iff_iff];simp only [List.any_eq_true,Bool.and_eq_true,Bool.not_eq_true',rE,List.mem_filter];constructor
 ·rintro ⟨x,⟨h1,ad⟩,aD⟩;refine⟨?_,x,h1,aD⟩;cases hb:Nat.beq o i
  ·rfl
  have:=eH.1 hb;have aZ:=eH.1 aD;rw [aZ,← this,Nat.beq_refl] at ad;cases ad
 rintro ⟨bR,x,h1,aD⟩;refine⟨x,⟨h1,?_⟩,aD⟩;cases hb:Nat.beq x.1 o
 ·rfl
 have:=eH.1 hb;have aZ:=eH.1 aD;rw [← this,aZ,Nat.beq_refl] at bR;cases bR
def lQ {α:Type}[ah α](A:List Nat)(W:World)(cs:List Value)(x:α)(os:List (Nat×Value)):Prop:=ah.rep A W (blank os cs) x∧ ∀ h∈os,cs[h.1]? =some h.2∧h.2.oneCell'=true
theorem lQ.len {α:Type}[ah α]{A W}{cs:List Value}{x:α}{os:List (Nat×Value)}(h:lQ A W cs x os):cs.length=ah.size α:=by rw [← BB (os:=os)];exact ah.len h.1
theorem lQ.mono {α:Type}[ah α]{A W c8 W'}{cs:List Value}{x:α}{os:List (Nat×Value)}(e:Ext A W c8 W')(h:lQ A W cs x os):lQ c8 W' cs x os:=⟨ah.mono e h.1,h.2⟩
theorem lQ.one {α:Type}[ah α]{A W}{cs:List Value}{x:α}{os:List (Nat×Value)}(h:lQ A W cs x os):∀ u∈cs,u.oneCell'=true:=by
 intro u hu;obtain⟨i,ar⟩:=List.mem_iff_getElem?.1 hu;by_cases hb:os.any (fun h=>Nat.beq h.1 i)=true
 ·obtain⟨o,bk,he⟩:=List.any_eq_true.1 hb;have he:=eH.1 he;obtain⟨h1,ad⟩:=h.2 o bk;rw [he,ar] at h1;cases h1;exact ad
 have h1:=rv (os:=os) (cs:=cs) i;rw [if_neg hb,ar] at h1;exact ah.one h.1 u (List.mem_of_getElem? h1)
def dV.cn {α:Type}[ah α](x:α)(os:List (Nat×Value)):dV where
 holds A W o:= ∃ cs T,o= .cells cs T (0,0)∧lQ A W cs.toList x os
 ni:=False
 mono e h:=let⟨cs,T,bk,aR⟩:=h; ⟨cs,T,bk,aR.mono e⟩
def I.LR {α:Type}[ah α](x:α)(os:List (Nat×Value)):I where
 holds A W v:=shaped (ah.agg α) v∧lQ A W v.cells.toList x os
 mono e h:=⟨h.1,h.2.mono e⟩
structure gY where
 v:Value
instance:ah gY where
 size:=1
 agg:=false
 rep _ _ cs x:=cs= [x.v]∧x.v.oneCell'=true
 len h:=by rw [h.1];rfl
 one h:=by rw [h.1];intro u hu;rw [List.mem_singleton.1 hu];exact h.2
 flat _:=rfl
 mono _ h:=h
theorem SA {A W v}{u:Value} :(I.of (⟨u⟩:gY)).holds A W v↔v=u∧u.oneCell'=true:=by
 constructor
 ·rintro ⟨h1,ad,aD⟩;have h1:v.oneCell'=true:=h1;exact⟨o5 h1 ad,aD⟩
 rintro ⟨rfl,h⟩;exact⟨h,by show v.cells.toList= [v]∧_;rw [cells_one h];exact⟨rfl,h⟩⟩
theorem bG.ex {P:Program}{t:TypeId}{γ:Type}[ah γ](h:bG P t (List γ)):bG P t gY:=⟨h.size,h.TQ⟩
theorem iu {key:Option Nat}{n cap:Nat} :(aW key n cap).oneCell'=true:=by cases key <;> rfl
theorem ZK {A W}{γ:Type}[ah γ]:ah.rep A W [kL] ([]:List γ):=⟨kL,rfl,.inl ⟨rfl,rfl⟩⟩
theorem OZ {α γ:Type}[ah α][ah γ]{A W}{cs ds:List Value}{x:α}{v:γ}{os:List (Nat×Value)}(l:aI α γ)(h:lQ A W cs x os)(hd:ah.rep A W ds v)(bo:uC os l.off (ah.size γ)=true):lQ A W (gD cs l.off ds) (l.set x v) os:=by
 have h1:=h.len;have fc:=l.gK;have al:=ah.len hd;refine⟨?_,fun o hm=>?_⟩
 ·have bu:=l.lK h.1 hd;rw [WT (by rw [al];exact bo) (by rw [al];omega)];simpa [gD,al] using bu
 refine⟨?_,(h.2 o hm).2⟩;rw [we (by rw [al];omega)];have dh:=List.all_eq_true.1 bo o hm;simp only [Bool.or_eq_true,Nat.blt_eq,Nat.ble_eq] at dh;rw [al];by_cases fk:o.1<l.off
 ·rw [if_pos fk];exact(h.2 o hm).1
 rw [if_neg fk,if_neg (by omega)];exact(h.2 o hm).1
theorem OG {α γ:Type}[ah α][ah γ]{A W}{cs:List Value}{x:α}{u:Value}{os:List (Nat×Value)}(l:aI α (List γ))(h:lQ A W cs x os)(hu:u.oneCell'=true):lQ A W (gD cs l.off [u]) (l.set x []) (ur os l.off u):=by
 have h1:=h.len;have fc:l.off+1≤ah.size α:=l.gK;refine⟨?_,fun o hm=>?_⟩
 ·have bu:ah.rep A W ((blank os cs).take l.off++[kL]++(blank os cs).drop (l.off+1)) (l.set x []):=l.lK h.1 (ZK (γ:=γ));have e:blank (ur os l.off u) (gD cs l.off [u])=gD (blank os cs) l.off [kL]:=by
   apply List.ext_getElem?;intro i;rw [rv,we (by simp;omega),we (by rw [BB];simp;omega),rv];rw [W9];by_cases ar:l.off=i
   ·subst ar;simp
   have hb:Nat.beq l.off i=false:=by
    cases hb:Nat.beq l.off i
    ·rfl
    exact absurd (eH.1 hb) ar
   rw [hb];simp only [Bool.false_or,List.length_singleton];by_cases ad:i<l.off
   ·simp only [if_pos ad]
   have gz: ¬ i<l.off+1:=by omega
   simp only [if_neg ad,if_neg gz]
  rw [e];simpa [gD] using bu
 rw [we (by simp;omega)];rcases W8 hm with rfl | ⟨aD,da⟩
 ·exact⟨by simp,hu⟩
  
 simp only [List.length_singleton]
 refine⟨?_,(h.2 o aD).2⟩
 by_cases fk:o.1<l.off
 ·rw [if_pos fk];exact(h.2 o aD).1
 rw [if_neg fk,if_neg (by omega)];exact(h.2 o aD).1
theorem OH {α γ:Type}[ah α][ah γ]{A W}{cs:List Value}{x:α}{u:Value}{xs:List γ}{os:List (Nat×Value)}(l:aI α (List γ))(h:lQ A W cs x os)(hm:(l.off,u)∈os)(hs:oX A W u xs):lQ A W cs (l.set x xs) (rE os l.off):=by
 have h1:=h.len;have fc:l.off+1≤ah.size α:=l.gK;have af5:=(h.2 _ hm).1;refine⟨?_,fun o bk=>h.2 o (List.mem_filter.1 bk).1⟩;have bu:ah.rep A W ((blank os cs).take l.off++[u]++(blank os cs).drop (l.off+1)) (l.set x xs):=l.lK h.1 (ds:= [u]) (g:=xs) ⟨u,rfl,hs⟩;have e:blank (rE os l.off) cs=gD (blank os cs) l.off [u]:=by
  apply List.ext_getElem?;intro i;rw [rv,we (by rw [BB];simp;omega),rv,Xa];by_cases ar:l.off=i
  ·subst ar;simp [af5]
  have hb:Nat.beq l.off i=false:=by
   cases hb:Nat.beq l.off i
   ·rfl
   exact absurd (eH.1 hb) ar
  rw [hb];simp only [Bool.not_false,Bool.true_and,List.length_singleton];by_cases ad:i<l.off
  ·simp only [if_pos ad]
  have gz: ¬ i<l.off+1:=by omega
  simp only [if_neg ad,if_neg gz]
 rw [e];simpa [gD] using bu
section
variable {c:dt} {E:List (Nat×I)} {L:List aN} {ops:Array Oper} {Q:Exit→Act→World→Prop}
variable {d:Option Tmp} {ty:TypeId} {pos:String} {af:Array Edge} {g:Option (Nat×Bool)} {x y:Operand} {t t2:TypeId}
theorem bM.Cw {a:Act}{W:World}(s:bM c E L a W){i:Nat}{key:Option Nat}{cp cp':dV}(ak:L[i]? =some ⟨key,cp⟩)(h:∀ o,cp.holds (aS L++c.b8) W o→cp'.holds (aS L++c.b8) W o)(aO:cp.ni→cp'.ni):bM c E (L.set i ⟨key,cp'⟩) a W:=by
 have gy:aS (L.set i ⟨key,cp'⟩)=aS L:=y7 (e:=⟨key,cp⟩) (cp:=cp') ak;exact
 {defers:=s.defers
  size:=s.size
  env:=fun t τ al=>by rw [gy];exact s.env t τ al
  dR:=s.dR
  own:=fun e he=>by
   rw [gy];obtain⟨j,aF⟩:=List.mem_iff_getElem?.1 he;rw [List.getElem?_set] at aF;split at aF
   ·split at aF
    ·simp only [Option.some.injEq] at aF;subst aF;have bk:=s.own _ (List.mem_of_getElem? ak);cases key with
     | none=>exact aO bk
     | some p=>obtain⟨o,h1,ad⟩:=bk;exact⟨o,h1,h _ ad⟩
    cases aF
   exact s.own e (List.mem_of_getElem? aF)
  nodup:=by rw [gy];exact s.nodup
  lt:=by rw [gy];exact s.lt
  gw:=by rw [gy];exact s.gw
  fb:=by rw [gy];exact s.fb }
theorem ae.pZ {l:List Oper}{p:Nat}{β:Type}[ah β]{b:β}(i:Nat)(ak:L[i]? =some ⟨some p,.cn b []⟩)(k:ae c ops Q l E (L.set i ⟨some p,.var b⟩)):ae c ops Q l E L:=fun a W s=>
 k a W (s.Cw ak (fun o ⟨cs,T,h1,ad⟩=>⟨cs,T,h1,ad.1⟩) id)
theorem aa.pZ {z:Exit}{p:Nat}{β:Type}[ah β]{b:β}(i:Nat)(ak:L[i]? =some ⟨some p,.cn b []⟩)(k:aa c Q z E (L.set i ⟨some p,.var b⟩)):aa c Q z E L:=fun a W s=>
 k a W (s.Cw ak (fun o ⟨cs,T,h1,ad⟩=>⟨cs,T,h1,ad.1⟩) id)
def J4:Option Value→Bool
 | some (.slice none 0 0)=>true
 | _=>false
theorem Oj {v:Option Value}(h:J4 v=true):v=some kL:=by
 unfold J4 at h;split at h
 ·rfl
 cases h
def jH (P:Program)(t:TypeId)(hs:List Nat):Prop:=((P.info? t).bind (·.zero)).any (fun v=>hs.all fun o=>J4 v.cells.toList[o]?)=true
theorem IU:∀ {os:List (Nat×Value)} {cs:List Value},(∀ h∈os,cs[h.1]? =some kL)→blank os cs=cs
 | [],_,_=>rfl
 | o::r,cs,h=>by
   have h1:=h o (by simp);have e:cs.set o.1 kL=cs:=by
    apply List.ext_getElem?;intro i;rw [List.getElem?_set];split
    ·rename_i he;subst he;have:=(List.getElem?_eq_some_iff.1 h1).1;rw [if_pos this,h1]
    rfl
   rw [blank,e];exact IU fun x ao=>h x (by simp [ao])
theorem ae.pc {rest:List Oper}{bf:Nat}{α:Type}[ah α]{z:α}(hs:List Nat)(tL:jH c.P t hs)(hl:cR c.P t z)(aO:Nat.blt bf c.n=true)
 (k:∀ p,ae c ops Q rest ((bf,.eq (.pointer (some ⟨p,0,none⟩)))::E) (⟨some p,.cn z (hs.map fun o=>(o,kL))⟩::L)):ae c ops Q (⟨some bf,.alloc t,ty,pos,af,none⟩::rest) E L:=fun a W s=>by
 obtain⟨i,eG,h1,ad,aD⟩:=hl.zero
 have cu:∀ o∈hs,eG.cells.toList[o]? =some kL:=fun o bk=>by
  unfold jH at tL;rw [h1] at tL;simp only [Option.bind_some,ad,Option.any_some] at tL;exact Oj (List.all_eq_true.1 tL o bk)
 have TV:∀ h∈hs.map (fun o=>(o,kL)),eG.cells.toList[h.1]? =some h.2:=fun h hm=>by
  obtain⟨o,bk,rfl⟩:=List.mem_map.1 hm;exact cu o bk
 refine h3 rfl (R:=fun v W'=>v= .pointer (some ⟨W.heap.size,0,none⟩)∧W'=W.alloc (.cells eG.cells t)) (.kX ?_ ⟨rfl,rfl⟩) fun v W' ⟨a6,hw⟩=>?_
 ·simp [execOp,Instr.alloc,zeroValue,typeInfo,h1,ad,newVar,newRow]
 subst a6
 subst hw
 refine k _ _ _ ((s.alloc (cp:= .cn z (hs.map fun o=>(o,kL))) ⟨eG.cells,t,rfl,?_,fun h hm=>⟨TV h hm,by obtain⟨o,_,rfl⟩:=List.mem_map.1 hm;rfl⟩⟩).put (by simpa using aO) rfl)
 rw [IU fun h hm=>by rw [TV h hm];obtain⟨o,_,rfl⟩:=List.mem_map.1 hm;rfl]
 exact(aD _ _).2
theorem ae.adL {rest:List Oper}{bf:Nat}{α:Type}[ah α]{z:α}{os:List (Nat×Value)}(ao:bg c E L x (.LR z os))(aO:Nat.blt bf c.n=true)
 (k:∀ p,ae c ops Q rest ((bf,.eq (.pointer (some ⟨p,0,none⟩)))::E) (⟨some p,.cn z os⟩::L)):ae c ops Q (⟨some bf,.box t x,ty,pos,af,none⟩::rest) E L:=fun a W s=>by
 refine h3 rfl (R:=fun v W'=>v= .pointer (some ⟨W.heap.size,0,none⟩)∧W'=W.alloc (.cells (a.eval x).cells t)) (.kX ?_ ⟨rfl,rfl⟩) fun v W' ⟨a6,hw⟩=>?_
 ·simp [execOp,Instr.box,newVar,newRow]
 subst a6
 subst hw
 obtain⟨h1,ad⟩:=ao a W s
 exact k _ _ _ ((s.alloc (cp:= .cn z os) ⟨_,t,rfl,ad⟩).put (by simpa using aO) rfl)
theorem F3 {t:TypeId}{i p o:Nat}{β γ:Type}[ah β][ah γ]{b:β}{os:List (Nat×Value)}(l:aI β γ){r:γ}(eD:bG c.P t γ)(ao:bg c E L x (.eq (.pointer (some ⟨p,o,none⟩))))
 (ak:L[i]? =some ⟨some p,.cn b os⟩) (bk:o=l.off) (aR:l.get b=r) (bo:uC os l.off (ah.size γ)=true):cf c E L ⟨d,.load t x,ty,pos,af,g⟩ (.of r):= .pure fun a W s=>by
 subst bk
 subst aR
 obtain⟨ky,eY,cs,T,rfl,gx⟩:=s.own _ (List.mem_of_getElem? ak)
 have h1:cs.toList.length=ah.size β:=gx.len
 have bc:=l.iV gx.1
 rw [Yb bo] at bc
 obtain⟨v,ad,aD⟩:=vT (A:=aS L++c.b8) eD eY (by have:=l.gK;simp at h1;omega) bc
 refine⟨v,?_,aD⟩
 have aZ:a.eval x=_:=ao a W s
 simp [execOp,Instr.loadAt,Instr.sureAddr,aZ,ad]
theorem ZL {cs:List Value}{o:Nat}{u:Value}(h:cs[o]? =some u):(cs.drop o).take 1= [u]:=by
 apply List.ext_getElem?;intro i;rw [List.getElem?_take,List.getElem?_drop];cases i with
 | zero=>simpa using h
 | succ i=>simp
theorem hM {t:TypeId}{i p o q:Nat}{β γ:Type}[ah β][ah γ]{b:β}{os:List (Nat×Value)}{u:Value}(eD:bG c.P t (List γ))(ao:bg c E L x (.eq (.pointer (some ⟨p,o,none⟩))))
 (ak:L[i]? =some ⟨some p,.cn b os⟩) (hq:os[q]? =some (o,u)):cf c E L ⟨d,.load t x,ty,pos,af,g⟩ (.eq u):= .pure fun a W s=>by
 obtain⟨ky,eY,cs,T,rfl,gx,cu⟩:=s.own _ (List.mem_of_getElem? ak)
 obtain⟨bc,hu⟩:=cu _ (List.mem_of_getElem? hq)
 have ct:o<cs.size:=by have:=(List.getElem?_eq_some_iff.1 bc).1;simpa using this
 obtain⟨v,ad,aD⟩:=vT (α:=gY) (x:=⟨u⟩) (A:=aS L++c.b8) eD.ex eY (show o+1≤cs.size by omega) ⟨ZL bc,hu⟩
 refine⟨v,?_,(SA.1 aD).1⟩
 have aZ:a.eval x=_:=ao a W s
 simp [execOp,Instr.loadAt,Instr.sureAddr,aZ,ad]
theorem ae.ux {t:TypeId}{rest:List Oper}{i p o:Nat}{β γ:Type}[ah β][ah γ]{b b':β}{v:γ}{os:List (Nat×Value)}(l:aI β γ)(eD:bG c.P t γ)(ao:bg c E L x (.eq (.pointer (some ⟨p,o,none⟩))))
 (a7:bg c E L y (.of v)) (ak:L[i]? =some ⟨some p,.cn b os⟩) (bk:o=l.off) (hb:l.set b v=b') (bo:uC os l.off (ah.size γ)=true)
 (k:ae c ops Q rest E (L.set i ⟨some p,.cn b' os⟩)):ae c ops Q (⟨none,.store t x y,ty,pos,af,none⟩::rest) E L:=fun a W s=>by
 subst bk
 subst hb
 obtain⟨ky,eY,cs,T,rfl,gx⟩:=s.own _ (List.mem_of_getElem? ak)
 have h1:cs.toList.length=ah.size β:=gx.len
 have fc:=l.gK
 have a6:=a7 a W s
 have ad:=Bo (A:=aS L++c.b8) eD eY (off:=l.off) (by simp at h1;omega) a6
 have aZ:a.eval x=_:=ao a W s
 refine h3 rfl (R:=fun v W'=>W'=W.setRow p (gD cs.toList l.off (a.eval y).cells.toList).toArray) (.yV ?_ rfl) fun v W' hw=>?_
 ·simp [execOp,Instr.storeAt,Instr.sureAddr,aZ,ad]
 subst hw
 exact k _ _ (s.store ak eY ⟨_,T,rfl,by rw [List.toList_toArray];exact OZ l gx a6.2 bo⟩)
theorem ae.je {t:TypeId}{rest:List Oper}{i p o:Nat}{β γ:Type}[ah β][ah γ]{b b':β}{u:Value}{os os':List (Nat×Value)}(l:aI β (List γ))(eD:bG c.P t (List γ))(ao:bg c E L x (.eq (.pointer (some ⟨p,o,none⟩))))
 (a7:bg c E L y (.eq u)) (hu:u.oneCell'=true) (ak:L[i]? =some ⟨some p,.cn b os⟩) (bk:o=l.off) (hb:l.set b []=b') (py:ur os o u=os')
 (k:ae c ops Q rest E (L.set i ⟨some p,.cn b' os'⟩)):ae c ops Q (⟨none,.store t x y,ty,pos,af,none⟩::rest) E L:=fun a W s=>by
 subst bk
 subst hb
 subst py
 obtain⟨ky,eY,cs,T,rfl,gx⟩:=s.own _ (List.mem_of_getElem? ak)
 have h1:cs.toList.length=ah.size β:=gx.len
 have fc:l.off+1≤ah.size β:=l.gK
 have TW:a.eval y=u:=a7 a W s
 have a6:(I.of (⟨u⟩:gY)).holds (aS L++c.b8) W (a.eval y):=SA.2 ⟨TW,hu⟩
 have ad:=Bo (A:=aS L++c.b8) eD.ex eY (off:=l.off) (show l.off+1≤cs.size by simp at h1;omega) a6
 have aZ:a.eval x=_:=ao a W s
 have mT:(a.eval y).cells.toList= [u]:=by rw [TW,cells_one hu]
 rw [mT] at ad
 refine h3 rfl (R:=fun v W'=>W'=W.setRow p (gD cs.toList l.off [u]).toArray) (.yV ?_ rfl) fun v W' hw=>?_
 ·simp [execOp,Instr.storeAt,Instr.sureAddr,aZ,ad]
 subst hw
 exact k _ _ (s.store ak eY ⟨_,T,rfl,by rw [List.toList_toArray];exact OG l gx hu⟩)
theorem V9 {P:Program}{W:World}{b off:Nat}{cur:Array Value}{T t:TypeId}{α:Type}[ah α]{v:Value}(ty:bG P t α)
 (hb:W.heap[b]? =some (.cells cur T (0,0))) (hs:off+ah.size α≤cur.size) (al:v.cells.toList.length=ah.size α) (h1:∀ u∈v.cells.toList,u.oneCell'=true):
 (storeVar t ⟨b,off,none⟩ v).run P W= .ok () (W.setRow b (gD cur.toList off v.cells.toList).toArray):=by
 have ad:=run_storeCells_at P b off T v.cells.toList 0 cur W hb (by rw [al];omega) h1
 have ev:v.cells.size=ah.size α:=by simpa using al
 simp only [Nat.add_zero] at ad
 simp only [storeVar,Sem.run_bind,ty.sizeOf,Result.andThen_ok,ev]
 simp only [ne_eq,not_true_eq_false,↓reduceIte,Sem.run_pure,Sem.run_bind,Result.andThen_ok]
 simpa [gD] using ad
theorem ae.sL {t:TypeId}{rest:List Oper}{i p:Nat}{β:Type}[ah β]{b b':β}{os os':List (Nat×Value)}(eD:bG c.P t β)(ao:bg c E L x (.eq (.pointer (some ⟨p,0,none⟩))))
 (a7:bg c E L y (.LR b' os')) (ak:L[i]? =some ⟨some p,.cn b os⟩)
 (k:ae c ops Q rest E (L.set i ⟨some p,.cn b' os'⟩)):ae c ops Q (⟨none,.store t x y,ty,pos,af,none⟩::rest) E L:=fun a W s=>by
 obtain⟨ky,eY,cs,T,rfl,gx⟩:=s.own _ (List.mem_of_getElem? ak)
 have h1:cs.toList.length=ah.size β:=gx.len
 obtain⟨g1,g2⟩:=a7 a W s
 have al:=g2.len
 have ad:=V9 eD eY (off:=0) (by simp at h1;omega) al g2.one
 have aZ:a.eval x=_:=ao a W s
 have e:gD cs.toList 0 (a.eval y).cells.toList=(a.eval y).cells.toList:=by
  unfold gD;rw [List.take_zero,List.nil_append,Nat.zero_add,al,← h1,List.drop_length,List.append_nil]
 rw [e] at ad
 refine h3 rfl (R:=fun v W'=>W'=W.setRow p (a.eval y).cells.toList.toArray) (.yV ?_ rfl) fun v W' hw=>?_
 ·simp [execOp,Instr.storeAt,Instr.sureAddr,aZ,ad]
 subst hw
 exact k _ _ (s.store ak eY ⟨_,T,rfl,by rw [List.toList_toArray];exact g2⟩)
theorem di {p:Addr}(ao:bg c E L x (.eq (.pointer (some p)))):cf c E L ⟨d,.nilCheck x,ty,pos,af,g⟩ (.eq (.pointer (some p))):= .pure fun a W s=>by
 have aZ:a.eval x=_:=ao a W s;exact⟨_,by simp [execOp,aZ],rfl⟩
theorem B7 {γ:Type}[ah γ]{r:γ}(ao:bg c E L x (.ptr r)):cf c E L ⟨d,.nilCheck x,ty,pos,af,g⟩ (.ptr r):= .pure fun a W s=>by
 have hp:=ao a W s;obtain⟨b,off,cur,T,hC,aZ,bc⟩:=hp;exact⟨_,by simp [execOp,aZ],b,off,cur,T,hC,rfl,bc⟩
theorem bM.lg {a:Act}{W:World}(s:bM c E L a W){i j p cap T:Nat}{key:Option Nat}{β γ:Type}[ah β][ah γ]{b b':β}{xs:List γ}{os os':List (Nat×Value)}(l:aI β (List γ))(gd:i≠j)(ak:L[i]? =some ⟨some p,.cn b os⟩)(qj:L[j]? =some ⟨key,.row T xs cap⟩)
 (q:Nat) (hq:os[q]? =some (l.off,aW key xs.length cap)) (hb:l.set b xs=b') (py:rE os l.off=os'):bM c E ((L.set j ⟨none,.dead⟩).set i ⟨some p,.cn b' os'⟩) a W:=by
 subst hb
 subst py
 have hk:=s.kill j
 have ar:(L.set j ⟨none,.dead⟩)[i]? =some ⟨some p,.cn b os⟩:=by rw [List.getElem?_set_ne (fun e=>gd e.symm)];exact ak
 have lh:=yy (L:=L) (i:=j) (cp:= .dead)
 have ps:oX (aS (L.set j ⟨none,.dead⟩)++c.b8) W (aW key xs.length cap) xs:=by
  have bk:=s.own _ (List.mem_of_getElem? qj);cases key with
  | none=>exact .inl ⟨rfl,bk.1⟩
  | some p=>
    obtain⟨o,eY,cs,rfl,ev,aO,xm,aR⟩:=bk
    obtain⟨aD,aZ⟩:=IL ev aO aR
    refine .inr ⟨p,0,cap,cs,T,(0,0),rfl,s.BT qj,eY,aO,by omega,aD,?_⟩
    exact aZ.mono (.drop fun k hm=>by
     rcases List.mem_append.1 hm with hm | hm
     ·exact List.mem_append.2 (.inl (lh.subset hm))
     exact List.mem_append.2 (.inr hm))
 exact hk.Cw ar (fun o ⟨cs,T,h1,ad⟩=>⟨cs,T,h1,OH l ad (List.mem_of_getElem? hq) ps⟩) id
theorem ae.lg {Ez:List Oper}{p cap T:Nat}{key:Option Nat}{β γ:Type}[ah β][ah γ]{b b':β}{xs:List γ}{os os':List (Nat×Value)}(l:aI β (List γ))(i j q:Nat)(gd:Nat.beq i j=false)(ak:L[i]? =some ⟨some p,.cn b os⟩)(qj:L[j]? =some ⟨key,.row T xs cap⟩)
 (hq:os[q]? =some (l.off,aW key xs.length cap)) (hb:l.set b xs=b') (py:rE os l.off=os') (k:ae c ops Q Ez E ((L.set j ⟨none,.dead⟩).set i ⟨some p,.cn b' os'⟩)):ae c ops Q Ez E L:=
 fun a W s=>k a W (s.lg l (fun e=>by rw [e,Nat.beq_refl] at gd;cases gd) ak qj q hq hb py)
theorem bM.GG {a:Act}{W:World}(s:bM c E L a W){i j p cap T gN:Nat}{key:Option Nat}{β γ:Type}[ah β][ah γ]{b b':β}{xs:List γ}{os os':List (Nat×Value)}(l:aI β (List γ))(gd:i≠j)(ak:L[i]? =some ⟨some p,.cn b os⟩)(qj:L[j]? =some ⟨key,.row T xs cap⟩)
 (q:Nat) (hq:os[q]? =some (l.off,aW key xs.length cap)) (hb:l.set b xs=b') (py:rE os l.off=os') (ps:look E gN=some (.eq (aW key xs.length cap))):bM c ((gN,.of xs)::E) ((L.set j ⟨none,.dead⟩).set i ⟨some p,.cn b' os'⟩) a W:=by
 have h1:=s.freeze ps qj
 subst hb
 subst py
 have ar:(L.set j ⟨none,.dead⟩)[i]? =some ⟨some p,.cn b os⟩:=by rw [List.getElem?_set_ne (fun e=>gd e.symm)];exact ak
 obtain⟨v,ad,aD⟩:=h1.env gN (.of xs) (by simp [look,Nat.beq_refl])
 obtain⟨vE,aZ,bc⟩:=s.env gN _ ps
 rw [ad] at aZ
 cases aZ
 have bc:v=_:=bc
 subst bc
 exact h1.Cw ar (fun o ⟨cs,T,g1,g2⟩=>⟨cs,T,g1,OH l g2 (List.mem_of_getElem? hq) (nM.1 aD)⟩) id
theorem aa.GG {z:Exit}{p cap T:Nat}{key:Option Nat}{β γ:Type}[ah β][ah γ]{b b':β}{xs:List γ}{os os':List (Nat×Value)}(l:aI β (List γ))(i j q gN:Nat)(gd:Nat.beq i j=false)(ak:L[i]? =some ⟨some p,.cn b os⟩)(qj:L[j]? =some ⟨key,.row T xs cap⟩)
 (hq:os[q]? =some (l.off,aW key xs.length cap)) (hb:l.set b xs=b') (py:rE os l.off=os') (ps:look E gN=some (.eq (aW key xs.length cap))) (k:aa c Q z ((gN,.of xs)::E) ((L.set j ⟨none,.dead⟩).set i ⟨some p,.cn b' os'⟩)):aa c Q z E L:=
 fun a W s=>k a W (s.GG l (fun e=>by rw [e,Nat.beq_refl] at gd;cases gd) ak qj q hq hb py ps)
inductive uD (c:dt)(E:List (Nat×I))(L:List aN)(place:Nat→Option (Nat×Nat)){β:Type}[ah β]:β→List (Nat×Value)→List (Nat×Operand)→β→List (Nat×Value)→Prop
 | nil {b os} :uD c E L place b os [] b os
 | cons {b dM b':β} {os os':List (Nat×Value)} {γ:Type} [ah γ] {v:γ} {i:Nat} {x:Operand} {r:List (Nat×Operand)} (l:aI β γ):place i=some (l.off,ah.size γ)→bg c E L x (.of v)→l.set b v=dM→uC os l.off (ah.size γ)=true→uD c E L place dM os r b' os'→uD c E L place b os ((i,x)::r) b' os'
 | hole {b dM b':β} {os LS os':List (Nat×Value)} {γ:Type} [ah γ] {u:Value} {i:Nat} {x:Operand} {r:List (Nat×Operand)} (l:aI β (List γ)):place i=some (l.off,1)→bg c E L x (.eq u)→u.oneCell'=true→l.set b []=dM→ur os l.off u=LS→uD c E L place dM LS r b' os'→uD c E L place b os ((i,x)::r) b' os'
theorem uD.run {place:Nat→Option (Nat×Nat)}{β:Type}[ah β]{b b':β}{os os':List (Nat×Value)}{bC:List (Nat×Operand)}(h:uD c E L place b os bC b' os'):∀ a W,bM c E L a W→ ∀ cs:Array Value,lQ (aS L++c.b8) W cs.toList b os→
 ∃ en,Instr.fill place cs (bC.map fun(i,x)=>(i,a.eval x))=some en∧lQ (aS L++c.b8) W en.toList b' os':=by
 induction h with
 | nil=>intro a W s cs aR;exact⟨cs,rfl,aR⟩
 | @cons b dM b' os os' γ _ v i x r l h1 ad aD aZ _ b7=>
   intro a W s cs aR
   subst aD
   have a6:=ad a W s
   have ev:(a.eval x).cells.size=ah.size γ:=by have:=ah.len a6.2;simpa using this
   have al:cs.toList.length=ah.size β:=aR.len
   have fc:=l.gK
   rw [List.map_cons,FU h1 ev (by simp at al;omega)]
   refine b7 a W s _ ?_
   have:=OZ l aR a6.2 aZ
   simpa [gD,ah.len a6.2] using this
 | @hole b dM b' os LS os' γ _ u i x r l h1 ad aD aZ bc _ b7=>
   intro a W s cs aR
   subst aZ
   subst bc
   have a6:a.eval x=u:=ad a W s
   have aj:(a.eval x).cells.toList= [u]:=by rw [a6,cells_one aD]
   have ev:(a.eval x).cells.size=1:=by have:=congrArg List.length aj;simpa using this
   have al:cs.toList.length=ah.size β:=aR.len
   have fc:l.off+1≤ah.size β:=l.gK
   rw [List.map_cons,FU h1 ev (by simp at al;omega)]
   refine b7 a W s _ ?_
   have:=OG l aR aD
   simpa [gD,aj] using this
theorem ry {β:Type}[ah β]{z b:β}{bC:List (Nat×Operand)}{pl:Array (Nat×Nat)}{os:List (Nat×Value)}(k4:List Nat)(tL:jH c.P t k4)(bo:ah.agg β=true)(Ev:ic c.P t pl)(hl:cR c.P t z)
 (bb:uD c E L (pl[·]?) z (k4.map fun o=>(o,kL)) bC b os):cf c E L ⟨d,.build t bC.toArray,ty,pos,af,g⟩ (.LR b os):= .pure fun a W s=>by
 obtain⟨fs,hu,hs,rfl⟩:=Ev.at_
 obtain⟨i,eG,h1,ad,aD⟩:=hl.zero
 have cu:∀ o∈k4,eG.cells.toList[o]? =some kL:=fun o bk=>by
  unfold jH at tL;rw [h1] at tL;simp only [Option.bind_some,ad,Option.any_some] at tL;exact Oj (List.all_eq_true.1 tL o bk)
 obtain⟨en,aZ,bc⟩:=bb.run a W s eG.cells ⟨by
  rw [IU fun h hm=>by obtain⟨o,bk,rfl⟩:=List.mem_map.1 hm;exact cu o bk];exact(aD _ _).2,fun h hm=>by obtain⟨o,bk,rfl⟩:=List.mem_map.1 hm;exact⟨cu o bk,rfl⟩⟩
 refine⟨.agg en,?_,by simp [shaped,bo],by simpa [Value.cells] using bc⟩
 have hm:(bC.toArray.map fun(x:Nat×Operand)=>(x.1,a.eval x.2)).toList=bC.map fun(i,x)=>(i,a.eval x):=by simp
 simp only [execOp,Instr.build,Sem.run_bind,zeroValue,typeInfo,run_program,Result.andThen_ok,h1,ad,Sem.run_pure,run_underlying hu,NN fs hs]
 rw [hm,aZ]
 rfl
def xt {α:Type}[Inhabited α](bytes:Nat)(n:Int):Option (List α):=if 0≤n∧n≤140737488355328∧bytes * n≤140737488355328 then some (List.replicate n.toNat default) else none
theorem YY {α:Type}[Inhabited α]{bytes:Nat}{n:Int}{r:List α}(h:xt bytes n=some r):0≤n∧n≤140737488355328∧bytes * n≤140737488355328∧List.replicate n.toNat default=r:=by
 unfold xt at h;split at h
 ·rename_i aj;exact⟨aj.1,aj.2.1,aj.2.2,dA h⟩
 cases h
theorem ae.TH {α:Type}[ah α][Inhabited α]{rest:List Oper}{bf e bytes:Nat}{r:List α}{n:Int}(hu:c.P.underlying t=some (.slice e))(eZ:bG c.P e α)(hl:cR c.P e (default:α))(hs:Nat.beq (ah.size α) 0=false)(hb:(c.P.info? e).map (·.bytes)=some bytes)
 (ao:bg c E L x (.of n)) (a7:bg c E L y (.of n)) (hm:xt bytes n=some r) (k7:Nat.blt bf c.n=true) (k:∀ p,ae c ops Q rest ((bf,.eq (aW p r.length r.length))::E) (⟨p,.row e r r.length⟩::L)):
 ae c ops Q (⟨some bf,.makeSlice t x y,ty,pos,af,none⟩::rest) E L:=fun a W s=>by
 obtain⟨bR,aO,ahW,rfl⟩:=YY hm
 obtain⟨m,rfl⟩:=Int.eq_ofNat_of_zero_le bR
 obtain⟨gG,eG,eM,dS,r5⟩:=hl.zero
 have nX:gG.size=ah.size α:=by
  obtain⟨i2,h1,ad⟩:=eZ.info;rw [eM] at h1;cases h1;exact ad
 have xy:gG.bytes=bytes:=by rw [eM] at hb;simpa using hb
 have eS:ah.size α≠0:=fun h=>by rw [h] at hs;cases hs
 have q0:=BM (r5 (aS L++c.b8) W) m eS
 have h1:=of_int.1 (ao a W s)
 have ad:=of_int.1 (a7 a W s)
 have hw:IntKind.i64.wrap (m:Int)=m:=by have:bE (m:Int)=m:=hN (by omega) (by omega);exact this
 have hp:(2:Int) ^ 48=281474976710656:=by decide
 simp only [Int.toNat_natCast,List.length_replicate] at k
 generalize lD:(Array.range (m * ah.size α)).map (eG.cells[· % eG.cells.size]!)=D at q0
 refine h3 rfl (R:=fun v W'=>v= .slice (some ⟨W.heap.size,0,none⟩) m m∧W'=W.alloc (.cells D e)) (.kX (v:= .slice (some ⟨W.heap.size,0,none⟩) m m) (W':=W.alloc (.cells D e)) ?_ ⟨rfl,rfl⟩) fun v W' ⟨aD,aZ⟩=>?_
 ·have dQ:((decide ((m:Int)<0)||decide ((gG.bytes:Int) * m>2 ^ 48))||decide ((m:Int)<0)||decide ((m:Int)>m))=false:=by
   rw [xy,hp];simp;omega
  have Hu:((Array.range (m * gG.size)).map fun i=>(if m * gG.size=0 then(#[]:Array Value) else eG.cells)[i % (if m * gG.size=0 then(#[]:Array Value) else eG.cells).size]!)=D:=by
   rw [← lD,nX];by_cases hi:m * ah.size α=0
   ·rw [hi];simp
   simp only [if_neg hi]
  have bo:(asInt (.int .i64 (m:Int)):Sem Int).run c.P W= .ok (m:Int) W:=by simp [asInt,asIntOf]
  simp only [execOp,Instr.makeSlice,Sem.run_bind,run_underlying hu,Result.andThen_ok,h1,ad,bo,Sem.run_pure,typeInfo,run_program,eM,hw,dQ,Bool.false_eq_true,if_false,run_askRoom,Go.sizeOf,Int.toNat_natCast]
  by_cases hi:m * gG.size=0
  ·simp only [hi,if_true,Sem.run_pure,Result.andThen_ok,Sem.run_bind,newRow] at Hu ⊢
   rw [Hu]
   simp
  simp only [hi,if_false,Sem.run_pure,Result.andThen_ok,Sem.run_bind,newRow,zeroValue,typeInfo,run_program,eM,dS] at Hu ⊢
  rw [Hu]
  simp
 subst aD aZ
 have uU:m≤maxLen:=by
  have:maxLen=9223372036854775807:=rfl;omega
 have ev:D.size=m * ah.size α:=by have:=q0.1;simpa using this
 have cw:=s.alloc (o:= .cells D e) (cp:= .row e (List.replicate m (default:α)) m) ⟨D,rfl,ev,by simp,uU,by
  have bu:=q0.1;rw [List.length_replicate] at bu ⊢;rw [← bu,List.take_length];exact q0⟩
 exact k (some W.heap.size) _ _ (cw.put (τ:= .eq (aW (some W.heap.size) m m)) (by simpa using k7) rfl)
theorem aa.mJ {fn:Func}{δ:Type}{ρ:δ→I}{Lo:δ→List aN}(bf:δ)(hs:(Lo bf).Sublist L)(aR:fn.results= #[])(tw:ρ bf= .eu [])(gT:c.ds= []:=by rfl):aa c (bodyPost c.P fn (kG c.X c.b8 c.jx ρ Lo)) .ret E L:=fun a W s=>
 ⟨s.wk gT,.tuple #[],by simp [wc,aR],s.ends bf hs (by rw [tw];exact⟨_,rfl,.nil⟩)⟩
end
abbrev Hid:=Nat→Option Nat
def dU (l:List (Option Nat)):Hid:=fun i=>(l[i]?).getD none
structure eQ where
 slot:Option Nat
 up:List Nat
 rd:List Nat
 wr:List Nat
 τ:(Nat→Hid)→I
 fC:(Nat→Hid)→Nat→aN
def hT (up:List Nat)(i:Nat)(hd:Nat→Hid):Nat→Hid:=fun j=>bif Nat.beq j i||up.any (fun k=>Nat.beq k j) then hd j else fun _=>none
def mV (hd:Nat→Hid)(i:Nat)(x:Hid):Nat→Hid:=fun j=>bif Nat.beq j i then x else hd j
theorem Yc {up:List Nat}{i:Nat}{hd hd':Nat→Hid}(h:hd i=hd' i)(df:∀ k∈up,hd k=hd' k):hT up i hd=hT up i hd':=by
 funext j;unfold hT;cases h1:Nat.beq j i
 ·cases ad:up.any (fun k=>Nat.beq k j)
  ·rfl
  obtain⟨k,hk,he⟩:=List.any_eq_true.1 ad;have:=eH.1 he;subst this;simp only [Bool.false_or,cond_true];exact df k hk
 have:=eH.1 h1;subst this;simp only [Bool.true_or,cond_true];exact h
def nY:List aN→ (Nat→aN)→List Nat→List aN
 | L,_,[]=>L
 | L,f,j::r=>nY (L.set j (f j)) f r
theorem N3:∀ {L:List aN} {f:Nat→aN} {fu:List Nat},(nY L f fu).length=L.length
 | _,_,[]=>rfl
 | L,f,j::r=>by rw [nY,N3,List.length_set]
theorem Jd:∀ {L:List aN} {f:Nat→aN} {fu:List Nat} (i:Nat),(nY L f fu)[i]? =if fu.contains i=true then L[i]?.map (fun _=>f i) else L[i]?
 | _,_,[],i=>by simp [nY]
 | L,f,j::r,i=>by
   rw [nY,Jd i];by_cases h:j=i
   ·subst h;simp only [List.contains_cons,BEq.rfl,Bool.true_or,if_true,List.getElem?_set];by_cases al:j<L.length
    ·simp [al]
    simp [al]
   have hb:(i==j)=false:=by simp;exact fun e=>h e.symm
   rw [List.contains_cons,hb,Bool.false_or,List.getElem?_set_ne h]
def jo (ls:Nat→Bool)(hd:Nat→Hid):Nat→List eQ→List aN→List aN
 | _,[],L=>L
 | k,h::r,L=>jo ls hd (k+1) r (bif ls k then nY L (h.fC (hT h.up k hd)) h.wr else L)
def kb (ls:Nat→Bool)(hd:Nat→Hid)(E:List (Nat×I)):Nat→List eQ→List (Nat×I)
 | _,[]=>E
 | k,h::r=>match ls k,h.slot with
   | true,some s=>(s,h.τ (hT h.up k hd))::kb ls hd E (k+1) r
   | _,_=>kb ls hd E (k+1) r
def mj (ls:Nat→Bool)(hd:Nat→Hid)(j:Nat):Nat→List eQ→Option aN→Option aN
 | _,[],v=>v
 | k,h::r,v=>mj ls hd j (k+1) r (bif ls k&&h.wr.contains j then v.map (fun _=>h.fC (hT h.up k hd) j) else v)
theorem Gl {ls:Nat→Bool}{hd:Nat→Hid}(j:Nat):∀ {k:Nat} {hs:List eQ} {L:List aN},(jo ls hd k hs L)[j]? =mj ls hd j k hs L[j]?
 | _,[],_=>rfl
 | k,h::r,L=>by
   rw [jo,mj,Gl j];congr 1;cases ls k
   ·rfl
   simp only [cond_true,Bool.true_and];rw [Jd];cases h.wr.contains j <;> rfl
theorem I2 {ls:Nat→Bool}{hd:Nat→Hid}{j:Nat} :∀ {k:Nat} {hs:List eQ} {v:Option aN},(∀ m h,hs[m]? =some h→h.wr.contains j=true→ls (k+m)=false)→mj ls hd j k hs v=v
 | _,[],_,_=>rfl
 | k,h::r,v,aO=>by
   rw [mj,I2 fun m x hm ao=>by have:=aO (m+1) x (by simpa using hm) ao;rw [← this];congr 1;omega];cases hw:h.wr.contains j
   ·simp
   have:=aO 0 h rfl hw;simp only [Nat.add_zero] at this;rw [this];rfl
theorem IM {ls:Nat→Bool}{hd:Nat→Hid}{j:Nat} :∀ {k:Nat} {hs rs:List eQ} {v:Option aN},mj ls hd j k (hs++rs) v=mj ls hd j (k+hs.length) rs (mj ls hd j k hs v)
 | _,[],_,_=>rfl
 | k,h::r,rs,v=>by
   rw [List.cons_append,mj,IM,mj,List.length_cons];congr 1;omega
theorem FE {ls ls':Nat→Bool}{hd hd':Nat→Hid}{j:Nat} :∀ {k:Nat} {hs:List eQ} {v:Option aN},(∀ m h,hs[m]? =some h→h.wr.contains j=true→ls (k+m)=ls' (k+m)∧ (ls (k+m)=true→hT h.up (k+m) hd=hT h.up (k+m) hd'))→mj ls hd j k hs v=mj ls' hd' j k hs v
 | _,[],_,_=>rfl
 | k,h::r,v,aO=>by
   have b7:=FE (ls:=ls) (ls':=ls') (hd:=hd) (hd':=hd') (j:=j) (k:=k+1) (hs:=r) (v:=bif ls k&&h.wr.contains j then v.map (fun _=>h.fC (hT h.up k hd) j) else v) fun m x hm ao=>by
    have:=aO (m+1) x (by simpa using hm) ao;rw [show k+1+m=k+(m+1) by omega];exact this
   rw [mj,mj,b7];congr 1;cases hw:h.wr.contains j
   ·simp
   have:=aO 0 h rfl hw;simp only [Nat.add_zero] at this;rw [← this.1];cases al:ls k
   ·rfl
   rw [this.2 al]
theorem I3 {ls:Nat→Bool}{hd:Nat→Hid}{E:List (Nat×I)}{t:Nat} :∀ {k:Nat} {hs:List eQ},(∀ (m:Nat) (h:eQ),hs[m]? =some h→ls (k+m)=true→h.slot≠some t)→look (kb ls hd E k hs) t=look E t
 | _,[],_=>rfl
 | k,h::r,aO=>by
   have b7:=I3 (ls:=ls) (hd:=hd) (E:=E) (t:=t) (k:=k+1) (hs:=r) fun m x hm al=>aO (m+1) x (by simpa using hm) (by rw [← al];congr 1;omega);unfold kb;split
   ·rename_i s h1 ad;have da:Nat.beq s t=false:=by
     cases hb:Nat.beq s t
     ·rfl
     have:=eH.1 hb;subst this;exact absurd ad (aO 0 h rfl h1)
    simp only [look,da,cond_false];exact b7
   exact b7
theorem Je {ls:Nat→Bool}{hd:Nat→Hid}{E:List (Nat×I)}{s:Nat} :∀ {k:Nat} {hs:List eQ} {j:Nat} {h:eQ},hs[j]? =some h→ls (k+j)=true→h.slot=some s→ (∀ m x,hs[m]? =some x→x.slot=some s→m=j)→look (kb ls hd E k hs) s=some (h.τ (hT h.up (k+j) hd))
 | _,[],_,_,h,_,_,_=>by simp at h
 | k,x::r,0,h,aF,al,hs,_=>by
   simp only [List.getElem?_cons_zero,Option.some.injEq] at aF;subst aF;simp only [Nat.add_zero] at al;unfold kb;rw [al,hs];simp [look,Nat.beq_refl]
 | k,x::r,j+1,h,aF,al,hs,hu=>by
   have b7:=Je (ls:=ls) (hd:=hd) (E:=E) (s:=s) (k:=k+1) (hs:=r) (j:=j) (h:=h) (by simpa using aF) (by rw [← al];congr 1;omega) hs fun m y hm a7=>by
    have:=hu (m+1) y (by simpa using hm) a7;omega
   rw [show k+1+j=k+(j+1) by omega] at b7;unfold kb;split
   ·rename_i cw h1 ad;have da:Nat.beq cw s=false:=by
     cases hb:Nat.beq cw s
     ·rfl
     have:=eH.1 hb;subst this;have:=hu 0 x rfl ad;omega
    simp only [look,da,cond_false];exact b7
   exact b7
theorem O0 {ls:Nat→Bool}{hd:Nat→Hid}{E:List (Nat×I)}{t:Nat}{τ:I} :∀ {k:Nat} {hs:List eQ},look (kb ls hd E k hs) t=some τ→ (∃ (j:Nat) (h:eQ),hs[j]? =some h∧ls (k+j)=true∧h.slot=some t∧τ=h.τ (hT h.up (k+j) hd))∨ (look E t=some τ∧ ∀ (m:Nat) (h:eQ),hs[m]? =some h→ls (k+m)=true→h.slot≠some t)
 | _,[],h=>.inr ⟨h,fun m h hm=>by simp at hm⟩
 | k,x::r,h=>by
   unfold kb at h;have go:(ls k=true→x.slot≠some t)→look (kb ls hd E (k+1) r) t=some τ→ (∃ (j:Nat) (h:eQ),(x::r)[j]? =some h∧ls (k+j)=true∧h.slot=some t∧τ=h.τ (hT h.up (k+j) hd))∨ (look E t=some τ∧ ∀ (m:Nat) (h:eQ),(x::r)[m]? =some h→ls (k+m)=true→h.slot≠some t):=fun ao h=>by
    rcases O0 h with⟨j,y,h1,ad,aD,aZ⟩ | ⟨h1,ad⟩
    ·exact .inl ⟨j+1,y,by simpa using h1,by rw [← ad];congr 1;omega,aD,by rw [aZ];congr 2;omega⟩
    refine .inr ⟨h1,fun m y hm al=>?_⟩;cases m with
    | zero=>simp only [List.getElem?_cons_zero,Option.some.injEq] at hm;subst hm;exact ao al
    | succ m=>exact ad m y (by simpa using hm) (by rw [← al];congr 1;omega)
   split at h
   ·rename_i s h1 ad;simp only [look] at h;by_cases e:Nat.beq s t=true
    ·rw [e] at h;simp only [cond_true,Option.some.injEq] at h;have:=eH.1 e;subst this;exact .inl ⟨0,x,rfl,h1,ad,h.symm⟩
    rw [Bool.not_eq_true] at e;rw [e] at h;exact go (fun _ eS=>by rw [ad] at eS;cases eS;rw [Nat.beq_refl] at e;cases e) h
   rename_i fU;exact go (fun al eS=>fU t al eS) h
def nv (hd:Nat→Hid)(hs:List eQ)(E:List (Nat×I)):List Nat→List (Nat×I)
 | []=>E
 | j::r=>match hs[j]? with
   | some h=>match h.slot with
     | some s=>(s,h.τ (hT h.up j hd))::nv hd hs E r
     | none=>nv hd hs E r
   | none=>nv hd hs E r
theorem PO {hd:Nat→Hid}{hs:List eQ}{E:List (Nat×I)}{t:Nat}{τ:I} :∀ {ds:List Nat},look (nv hd hs E ds) t=some τ→ (∃ j∈ds,∃ h:eQ,hs[j]? =some h∧h.slot=some t∧τ=h.τ (hT h.up j hd))∨look E t=some τ
 | [],h=>.inr h
 | j::r,h=>by
   have go:look (nv hd hs E r) t=some τ→ (∃ i∈j::r,∃ h:eQ,hs[i]? =some h∧h.slot=some t∧τ=h.τ (hT h.up i hd))∨look E t=some τ:=fun h=>by
    rcases PO h with⟨i,h1,ad⟩ | h1
    ·exact .inl ⟨i,by simp [h1],ad⟩
    exact .inr h1
   unfold nv at h;split at h
   ·rename_i x ao;split at h
    ·rename_i s ps;simp only [look] at h;by_cases e:Nat.beq s t=true
     ·rw [e] at h;simp only [cond_true,Option.some.injEq] at h;have:=eH.1 e;subst this;exact .inl ⟨j,by simp,x,ao,ps,h.symm⟩
     simp only [Bool.not_eq_true] at e;rw [e] at h;exact go h
    exact go h
   exact go h
def w1 (E:List (Nat×I))(v:Value):List Nat→Prop
 | []=>True
 | s::r=>look E s=some (.eq v)∧w1 E v r
theorem w1.get {E:List (Nat×I)}{v:Value} :∀ {hI:List Nat},w1 E v hI→ ∀ s∈hI,look E s=some (.eq v)
 | _::_,h,s,hs=>by
   rcases List.mem_cons.1 hs with rfl | hs
   ·exact h.1
   exact w1.get h.2 s hs
def z6 (τ:I)(E:List (Nat×I)):List Nat→List (Nat×I)
 | []=>E
 | s::r=>(s,τ)::z6 τ E r
theorem O1 {τ:I}{E:List (Nat×I)}{t:Nat}{σ:I} :∀ {hI:List Nat},look (z6 τ E hI) t=some σ→ (t∈hI∧σ=τ)∨look E t=some σ
 | [],h=>.inr h
 | s::r,h=>by
   simp only [z6,look] at h;by_cases e:Nat.beq s t=true
   ·rw [e] at h;simp only [cond_true,Option.some.injEq] at h;have:=eH.1 e;subst this;exact .inl ⟨by simp,h.symm⟩
   simp only [Bool.not_eq_true] at e;rw [e] at h;rcases O1 h with⟨h1,ad⟩ | h1
   ·exact .inl ⟨by simp [h1],ad⟩
   exact .inr h1
def xe {w:Nat}(a b:BitVec w):BitVec w:=if a≤b then a else b
def td:Option Nat→I→List (Nat×I)→List (Nat×I)
 | some s,τ,E=>(s,τ)::E
 | none,_,E=>E
section
variable {c:dt} {E:List (Nat×I)} {L:List aN} {ops:Array Oper} {Q:Exit→Act→World→Prop}
theorem bM.o8 {a:Act}{W:World}{α:Type}[ah α]{i cap T:Nat}{hI:List Nat}{key:Option Nat}{xs:List α}(h:bM c E L a W)(al:w1 E (aW key xs.length cap) hI)(ak:L[i]? =some ⟨key,.row T xs cap⟩):
 bM c (z6 (.of xs) E hI) (L.set i ⟨none,.dead⟩) a W:=by
 have hk:=h.kill i
 refine { hk with env:=fun t τ ft=>?_ }
 rcases O1 ft with⟨hm,rfl⟩ | h1
 ·obtain⟨v,h1,ad⟩:=h.env t _ (al.get t hm)
  refine⟨v,h1,nM.2 ?_⟩
  have lz:v=aW key xs.length cap:=ad
  subst lz
  have bk:=h.own _ (List.mem_of_getElem? ak)
  cases key with
  | none=>exact .inl ⟨rfl,bk.1⟩
  | some p=>
    obtain⟨o,eY,cs,rfl,ev,aO,xm,aR⟩:=bk
    obtain⟨aD,aZ⟩:=IL ev aO aR
    refine .inr ⟨p,0,cap,cs,T,(0,0),rfl,h.BT ak,eY,aO,by omega,aD,?_⟩
    have lh:=yy (L:=L) (i:=i) (cp:= .dead)
    exact aZ.mono (.drop fun k hm=>by
     rcases List.mem_append.1 hm with hm | hm
     ·exact List.mem_append.2 (.inl (lh.subset hm))
     exact List.mem_append.2 (.inr hm))
 exact hk.env t τ h1
theorem ae.o8 {l:List Oper}{α:Type}[ah α]{key:Option Nat}{xs:List α}{cap T:Nat}(i:Nat)(hI:List Nat)(al:w1 E (aW key xs.length cap) hI)(ak:L[i]? =some ⟨key,.row T xs cap⟩)
 (k:ae c ops Q l (z6 (.of xs) E hI) (L.set i ⟨none,.dead⟩)):ae c ops Q l E L:=fun a W st=>k a W (st.o8 al ak)
theorem aa.o8 {x:Exit}{α:Type}[ah α]{key:Option Nat}{xs:List α}{cap T:Nat}(i:Nat)(hI:List Nat)(al:w1 E (aW key xs.length cap) hI)(ak:L[i]? =some ⟨key,.row T xs cap⟩)
 (k:aa c Q x (z6 (.of xs) E hI) (L.set i ⟨none,.dead⟩)):aa c Q x E L:=fun a W st=>k a W (st.o8 al ak)
def cv (c:dt)(ops:Array Oper)(Q:Exit→Act→World→Prop)(hs:List eQ)(E:List (Nat×I))(L:List aN)(i:Nat)(o:Oper)(h:eQ):Prop:=
 ∀ (hd:Nat→Hid) (E':List (Nat×I)) (L':List aN),(∀ t τ,look (nv hd hs E h.up) t=some τ→look E' t=some τ)→
   (∀ j e,(jo (fun _=>true) hd 0 (hs.take i) L)[j]? =some e→h.rd.contains j=true→L'[j]? =some e)→
   ae c ops (sg (fun a W=> ∃ x,bM c (td h.slot (h.τ (hT h.up i (mV hd i x))) E') (nY L' (h.fC (hT h.up i (mV hd i x))) h.wr) a W) Q) [o] E' L'
def Cx (c:dt)(ops:Array Oper)(Q:Exit→Act→World→Prop)(hs:List eQ)(E:List (Nat×I))(L:List aN):Nat→List Oper→List eQ→Prop
 | _,[],[]=>True
 | i,o::os,h::r=>cv c ops Q hs E L i o h∧Cx c ops Q hs E L (i+1) os r
 | _,_,_=>False
theorem Ol {ls ls':Nat→Bool}{hd:Nat→Hid} :∀ {k:Nat} {hs:List eQ},(∀ m,m<hs.length→ls (k+m)=ls' (k+m))→kb ls hd E k hs=kb ls' hd E k hs
 | _,[],_=>rfl
 | k,h::r,aO=>by
   have b7:=Ol (ls:=ls) (ls':=ls') (hd:=hd) (k:=k+1) (hs:=r) fun m hm=>by
    have:=aO (m+1) (by simp;omega);rw [show k+1+m=k+(m+1) by omega];exact this
   have bR:=aO 0 (by simp);simp only [Nat.add_zero] at bR;unfold kb;rw [bR,b7]
theorem O2 {ls ls':Nat→Bool}{hd:Nat→Hid} :∀ {k:Nat} {hs:List eQ} {L:List aN},(∀ m,m<hs.length→ls (k+m)=ls' (k+m))→jo ls hd k hs L=jo ls' hd k hs L
 | _,[],_,_=>rfl
 | k,h::r,L,aO=>by
   have bR:=aO 0 (by simp);simp only [Nat.add_zero] at bR;rw [jo,jo,bR];exact O2 fun m hm=>by
    have:=aO (m+1) (by simp;omega);rw [show k+1+m=k+(m+1) by omega];exact this
def nw (hs:List eQ):List (Option Nat×List Nat×List Nat×List Nat):=hs.map fun h=>(h.slot,h.up,h.rd,h.wr)
theorem Jx {hs:List eQ}{i:Nat}{h:eQ}(ar:hs[i]? =some h):(nw hs)[i]? =some (h.slot,h.up,h.rd,h.wr):=by simp [nw,ar]
def J5 (c:dt)(ops:Array Oper)(Q:Exit→Act→World→Prop)(hs:List eQ)(E:List (Nat×I))(L:List aN)(np:Nat)(i:Nat)(o:Oper)(h:eQ):Prop:=
 ∀ (hd:Nat→Hid) (E':List (Nat×I)) (L':List aN),(∀ t τ,look (nv hd hs E h.up) t=some τ→look E' t=some τ)→
   (∀ j e,(jo (fun _=>true) hd 0 (hs.take i) L)[j]? =some e→h.rd.contains j=true→L'[j]? =some e)→L'.drop np=L.drop np→
   ae c ops (sg (fun a W=> ∃ x,bM c (td h.slot (h.τ (hT h.up i (mV hd i x))) E') (nY L' (h.fC (hT h.up i (mV hd i x))) h.wr) a W) Q) [o] E' L'
def rF (c:dt)(ops:Array Oper)(Q:Exit→Act→World→Prop)(hs:List eQ)(E:List (Nat×I))(L:List aN)(np:Nat):Nat→List Oper→List eQ→Prop
 | _,[],[]=>True
 | i,o::os,h::r=>J5 c ops Q hs E L np i o h∧rF c ops Q hs E L np (i+1) os r
 | _,_,_=>False
theorem rF.get {hs:List eQ}{np:Nat} :∀ {k:Nat} {os:List Oper} {rs:List eQ},rF c ops Q hs E L np k os rs→ ∀ i h o,rs[i]? =some h→os[i]? =some o→J5 c ops Q hs E L np (k+i) o h
 | k,[],[],_,i,h,o,ar,_=>by simp at ar
 | k,aii::os,bR::r,cu,i,h,o,ar,bk=>by
   cases i with
   | zero=>
     simp only [List.getElem?_cons_zero,Option.some.injEq] at ar bk
     subst ar;subst bk;exact cu.1
   | succ i=>
     have:=rF.get cu.2 i h o (by simpa using ar) (by simpa using bk)
     rw [show k+1+i=k+(i+1) by omega] at this
     exact this
 | k,[],_::_,cu,_,_,_,_,_=>cu.elim
 | k,_::_,[],cu,_,_,_,_,_=>cu.elim
theorem Cx.TX {hs:List eQ}{np:Nat} :∀ {k:Nat} {os:List Oper} {rs:List eQ},Cx c ops Q hs E L k os rs→rF c ops Q hs E L np k os rs
 | _,[],[],_=>trivial
 | _,_::_,_::_,h=>⟨fun hd E' L' h1 ad _=>h.1 hd E' L' h1 ad,Cx.TX h.2⟩
 | _,[],_::_,h=>h.elim
 | _,_::_,[],h=>h.elim
theorem OI {n:Nat} :∀ {L:List aN} {f:Nat→aN} {fu:List Nat},(∀ j∈fu,j<n∨L.length≤j)→ (nY L f fu).drop n=L.drop n
 | _,_,[],_=>rfl
 | L,f,j::r,h=>by
   rw [nY,OI (fun k hk=>by rw [List.length_set];exact h k (by simp [hk]))];rcases h j (by simp) with h1 | h1
   ·rw [List.drop_set_of_lt h1]
   rw [List.set_eq_of_length_le h1]
theorem Jy {ls:Nat→Bool}{hd:Nat→Hid}{n:Nat} :∀ {k:Nat} {hs:List eQ} {L:List aN},(∀ h∈hs,∀ j∈h.wr,j<n∨L.length≤j)→ (jo ls hd k hs L).drop n=L.drop n
 | _,[],_,_=>rfl
 | k,h::r,L,hw=>by
   rw [jo];cases al:ls k
   ·exact Jy fun x ao=>hw x (by simp [ao])
   simp only [cond_true];rw [Jy (fun x ao j aF=>by rw [N3];exact hw x (by simp [ao]) j aF),OI (hw h (by simp))]
theorem SB {hs:List eQ}{ds:List (Option Nat×List Nat×List Nat×List Nat)}{np:Nat}(gT:nw hs=ds)(h:(ds.all fun d=>d.2.2.2.all fun j=>Nat.blt j np)=true):∀ h∈hs,∀ j∈h.wr,j<np∨L.length≤j:=fun x ao j aF=>by
 subst gT;have h1:=List.all_eq_true.1 h (x.slot,x.up,x.rd,x.wr) (List.mem_map.2 ⟨x,ao,rfl⟩);have ad:=List.all_eq_true.1 h1 j aF;exact .inl (Nat.blt_eq.mp ad)
theorem aa.fin {slot:Option Nat}{up wr:List Nat}{i:Nat}{hd:Nat→Hid}{τ:(Nat→Hid)→I}{fC:(Nat→Hid)→Nat→aN}{E' xU:List (Nat×I)}{L' L2:List aN}(x:Hid)(aB:xU=td slot (τ (hT up i (mV hd i x))) E')(ak:L2=nY L' (fC (hT up i (mV hd i x))) wr):
 aa c (sg (fun a W=> ∃ x,bM c (td slot (τ (hT up i (mV hd i x))) E') (nY L' (fC (hT up i (mV hd i x))) wr) a W) Q) .normal xU L2:=fun a W s=>by
 subst aB ak
 exact⟨x,s⟩
theorem aa.place {z:Exit}{e:aN}(j:Nat)(aF:L[j]? =some ⟨none,.dead⟩)(k:aa c Q z E (L.set j e)):aa c Q z E (e::L):=fun a W s=>by
 refine k a W (s.sub (fun x ao=>?_) ?_)
 ·rcases List.mem_or_eq_of_mem_set ao with h | h
  ·exact List.mem_cons.2 (.inr h)
  exact List.mem_cons.2 (.inl h)
 have h1:=uf aF;have ad:(L.set j e).Perm (e::L.eraseIdx j):=by
  have aD:(L.set j e)[j]? =some e:=by rw [List.getElem?_set_self (List.getElem?_eq_some_iff.1 aF).1]
  have aZ:=uf aD;rwa [List.eraseIdx_set_eq] at aZ
 have bc:=wA (h1.cons e);have bu:aS (e::⟨none,.dead⟩::L.eraseIdx j)=aS (e::L.eraseIdx j):=by cases hk:e.key <;> simp [aS,hk]
 rw [bu] at bc;exact(wA ad).nodup_iff.2 (bc.nodup_iff.1 s.nodup)
theorem aa.back {z:Exit}{e iS:aN}(j:Nat)(aF:L[j]? =some iS)(k:aa c Q z E (L.set j e)):aa c Q z E (e::L.eraseIdx j):=fun a W s=>by
 have aD:(L.set j e)[j]? =some e:=by rw [List.getElem?_set_self (List.getElem?_eq_some_iff.1 aF).1]
 have aZ:=uf aD;rw [List.eraseIdx_set_eq] at aZ;exact k a W (s.perm aZ.symm)
theorem ag.s6 {z:Code}(n:Nat)(k:ag c Q z E (L++List.replicate n ⟨none,.dead⟩)):ag c Q z E L:=fun a W s=>by
 refine k a W ?_;have hk:aS (L++List.replicate n ⟨none,.dead⟩)=aS L:=by
  rw [e5];have:∀ n,aS (List.replicate n (⟨none,.dead⟩:aN))= []:=fun n=>by
   induction n with
   | zero=>rfl
   | succ n b7=>rw [List.replicate_succ];simp [aS,b7]
  rw [this,List.append_nil]
 exact
 {defers:=s.defers
  size:=s.size
  env:=fun t τ al=>by rw [hk];exact s.env t τ al
  dR:=s.dR
  own:=fun e he=>by
   rw [hk];rcases List.mem_append.1 he with he | he
   ·exact s.own e he
   rw [(List.mem_replicate.1 he).2];trivial
  nodup:=by rw [hk];exact s.nodup
  lt:=by rw [hk];exact s.lt
  gw:=by rw [hk];exact s.gw
  fb:=by rw [hk];exact s.fb }
theorem ag.Kz {z:Code}(n m:Nat)(k:ag c Q z E (L.take m++(List.replicate n ⟨none,.dead⟩++L.drop m))):ag c Q z E L:=by
 refine ag.s6 n fun a W s=>k a W (s.perm ?_);have e:L=L.take m++L.drop m:=(List.take_append_drop m L).symm;conv=>lhs;rw [e]
 rw [List.append_assoc];exact List.perm_append_comm.append_left _
theorem aa.ei {z:Exit}{L2:List aN}(h:L=L2)(k:aa c Q z E L2):aa c Q z E L:=by subst h;exact k
theorem aa.oH {z:Exit}{key:Option Nat}{n m cap:Nat}(gN:Nat)(al:look E gN=some (.eq (aW key n cap)))(aO:n=m)(k:aa c Q z ((gN,.eq (aW key m cap))::E) L):aa c Q z E L:=fun a W s=>by
 subst aO;refine k a W (s.less fun t τ h=>?_);simp only [look] at h;by_cases e:Nat.beq gN t=true
 ·rw [e] at h;simp only [cond_true] at h;have:=eH.1 e;subst this;exact⟨τ,by rw [al,h],fun _ _ _ h=>h⟩
 simp only [Bool.not_eq_true] at e;rw [e] at h;exact⟨τ,h,fun _ _ _ h=>h⟩
variable {hs:List eQ} {i d:Nat} {up rd:List Nat} {fC:(Nat→Hid)→Nat→aN} {o:Oper}
theorem iW {τ:I}(bH:o.guard=none)(hd:o.dst=some d)(aO:Nat.blt d c.n=true)
 (h:∀ (hd:Nat→Hid) (E':List (Nat×I)) (L':List aN),(∀ t τ,look (nv hd hs E up) t=some τ→look E' t=some τ)→ (∀ j e,(jo (fun _=>true) hd 0 (hs.take i) L)[j]? =some e→rd.contains j=true→L'[j]? =some e)→cf c E' L' o τ):
 cv c ops Q hs E L i o ⟨some d,up,rd,[],fun _=>τ,fC⟩:=fun af6 E' L' aB ak=>
 ae.v (h af6 E' L' aB ak) bH hd aO (ae.nil (aa.fin (fun _=>none) rfl rfl))
variable {ty t:TypeId} {pos:String} {af:Array Edge}
theorem ae.S8 {α:Type}[ah α]{rest:List Oper}{bf e n:Nat}{z:α}{r0 r:List α}{bC:List (Nat×Operand)}(hu:c.P.underlying t=some (.slice e))(eZ:bG c.P e α)(hl:cR c.P e z)(hs:Nat.beq (ah.size α) 0=false)(aO:Nat.ble (n * ah.size α) 16777216=true)
 (bb:oA c E L (List.replicate n z) bC r0) (aR:r0=r) (k7:Nat.blt bf c.n=true) (k:∀ p,ae c ops Q rest ((bf,.eq (aW p r.length n))::E) (⟨p,.row e r n⟩::L)):
 ae c ops Q (⟨some bf,.buildSlice t n bC.toArray,ty,pos,af,none⟩::rest) E L:=by subst aR;exact ae.qI hu eZ hl hs aO bb k7 k
variable {g:Option (Nat×Bool)} {x y:Operand}
theorem YK {a b:BitVec 64}{bf:Option Tmp}{ats:Array TypeId}(ao:bg c E L x (.of a))(a7:bg c E L y (.of b)):cf c E L ⟨bf,.call ⟨.builtin .min,#[x,y],ats⟩,ty,pos,af,g⟩ (.of (xe a b)):= .pure fun A W s=>
 ⟨.int .u64 (xe a b).toNat,by
   simp [execOp,resolve,invoke,builtin,Builtin.min_,Builtin.min2,gI.1 (ao A W s),gI.1 (a7 A W s)];unfold xe;split <;> split <;> first | rfl | (rename_i h1 ad;simp only [BitVec.le_def] at *;omega),gI.2 rfl⟩
end
section
variable {c:dt} {E:List (Nat×I)} {L:List aN} {ops:Array Oper} {Q:Exit→Act→World→Prop}
variable {d:Option Tmp} {ty:TypeId} {pos:String} {af:Array Edge} {g:Option (Nat×Bool)} {x y:Operand} {t t2:TypeId}
def Src (c:dt)(E:List (Nat×I))(L:List aN)(y:Operand)(N:Nat){α:Type}[ah α](vs:List α):Prop:=
 ∀ a W,bM c E L a W→ (Builtin.lenOf (a.eval y)).run c.P W= .ok N W∧ ∃ cells:List Value,(Builtin.firstCells (ah.size α) vs.length (a.eval y)).run c.P W= .ok cells.toArray W∧hg (aS L++c.b8) W cells vs∧ ∀ v∈cells,v.oneCell'=true
theorem ae.GH {rest:List Oper}{i e p off bf dLen dCap N T:Nat}{cp cp':dV}{α:Type}[ah α]{vs:List α}(hu:c.P.underlying t=some (.slice e))(eZ:bG c.P e α)
 (ao:bg c E L x (.eq (.slice (some ⟨p,off,none⟩) dLen dCap))) (a7:Src c E L y N vs) (K8:Nat.min N dLen=vs.length) (ak:L[i]? =some ⟨some p,cp⟩) (aO:Nat.blt bf c.n=true)
 (zW:∀ A W o cells,cp.holds A W o→hg A W cells vs→ ∃ cs,o= .cells cs T (0,0)∧off+cells.length≤cs.size∧cp'.holds A W (.cells (cs.toList.take off++cells++cs.toList.drop (off+cells.length)).toArray T (0,0)))
 (k:ae c ops Q rest ((bf,.of (vs.length:Int))::E) (L.set i ⟨some p,cp'⟩)):
 ae c ops Q (⟨some bf,.call ⟨.builtin .copy,#[x,y],#[t,t2]⟩,ty,pos,af,none⟩::rest) E L:=fun a W s=>by
 have k7:bf<c.n:=by simpa using aO
 have h1:a.eval x=_:=ao a W s
 obtain⟨al,cells,aj,aR,zX⟩:=a7 a W s
 obtain⟨o,bk,cu⟩:=s.own _ (List.mem_of_getElem? ak)
 obtain⟨cs,rfl,G1,xf⟩:=zW _ _ _ _ cu aR
 obtain⟨gG,eM,ev⟩:=eZ.info
 have kN:=run_storeCells_at (P:=c.P) p off T cells 0 cs W bk (by omega) zX
 simp only [Nat.add_zero] at kN
 have iP:(execOp a.eval ⟨some bf,.call ⟨.builtin .copy,#[x,y],#[t,t2]⟩,ty,pos,af,none⟩).run c.P W= .ok (.value (goInt vs.length)) (W.setRow p (cs.toList.take off++cells++cs.toList.drop (off+cells.length)).toArray):=by
  simp [execOp,resolve,invoke,builtin,Builtin.copy_,h1,run_underlying hu,al,K8,Go.sizeOf,typeInfo,eM,ev,aj,kN]
 refine h3 rfl (R:=fun v hU=>v=goInt vs.length∧hU=W.setRow p (cs.toList.take off++cells++cs.toList.drop (off+cells.length)).toArray) (.kX iP ⟨rfl,rfl⟩) fun v hU ⟨a6,hw⟩=>?_
 subst a6
 subst hw
 exact k _ _ ((s.store ak bk xf).put k7 (of_int.2 rfl))
theorem F6 {i T cap lo N k:Nat}{key:Option Nat}{α:Type}[ah α]{xs:List α}(a7:bg c E L y (.eq (ix key lo N cap (ah.size α))))(ak:L[i]? =some ⟨key,.row T xs cap⟩)(hk:0<k)(hy:lo+k≤xs.length):
 Src c E L y N ((xs.drop lo).take k):=fun a W s=>by
 obtain⟨p,cs,rfl,eY,g1,g2,g3,g4⟩:=s.rowAt ak (by omega)
 have h1:a.eval y=_:=a7 a W s
 have mT:cap≠lo:=by omega
 have a6:a.eval y= .slice (some ⟨p,lo * ah.size α,none⟩) N (cap - lo):=by rw [h1];simp [ix,mT]
 have hlen:((xs.drop lo).take k).length=k:=by rw [List.length_take,List.length_drop];omega
 have qZ:cs.toList.length=cap * ah.size α:=by simpa using g1
 have ae7:(lo+k) * ah.size α≤xs.length * ah.size α:=Nat.mul_le_mul_right _ hy
 have G0:xs.length * ah.size α≤cap * ah.size α:=Nat.mul_le_mul_right _ g2
 rw [Nat.add_mul] at ae7
 have Tt:((cs.toList.drop (lo * ah.size α)).take (k * ah.size α)).length=k * ah.size α:=by rw [List.length_take,List.length_drop];omega
 have gx:hg (aS L++c.b8) W ((cs.toList.drop (lo * ah.size α)).take (k * ah.size α)) ((xs.drop lo).take k):=by
  refine⟨by rw [Tt,hlen],fun j aF=>?_⟩;rw [hlen] at aF;have bc:=g4.2 (lo+j) (by omega);have fc:=y9 (s:=ah.size α) aF;have ahI:=y9 (s:=ah.size α) (show lo+j<xs.length by omega);rw [List.drop_take,List.take_take,Nat.min_eq_left (by omega)] at bc;rw [List.drop_take,List.take_take,Nat.min_eq_left (by omega),List.drop_drop,← Nat.add_mul];simpa using bc
 have gz:=run_loadCells_list (P:=c.P) W ⟨p,lo * ah.size α,none⟩ ((cs.toList.drop (lo * ah.size α)).take (k * ah.size α)) fun j v a6=>by
  rw [jL,cell_of_row W p _ cs T (0,0) eY];rw [List.getElem?_take] at a6;split at a6
  ·rw [List.getElem?_drop] at a6;simpa using a6
  cases a6
 rw [Tt] at gz
 refine⟨by rw [a6];rfl,(cs.toList.drop (lo * ah.size α)).take (k * ah.size α),?_,gx,gx.one⟩
 rw [a6]
 simp only [Builtin.firstCells]
 rw [hlen]
 exact gz
theorem Js {p lo n cap size:Nat}(h:cap≠lo):ix (some p) lo n cap size=Value.slice (some ⟨p,lo * size,none⟩) n (cap - lo):=by simp [ix,h]
theorem PG {i T cap:Nat}{key:Option Nat}{α:Type}[ah α]{xs:List α}(a7:bg c E L y (.eq (aW key xs.length cap)))(ak:L[i]? =some ⟨key,.row T xs cap⟩)(ao:0<xs.length):Src c E L y xs.length xs:=by
 have:=F6 (lo:=0) (k:=xs.length) (N:=xs.length) (by rw [BK];exact a7) ak ao (by omega);simpa using this
theorem Gi {key:Option Nat}{n cap size:Nat}(h:bg c E L x (.eq (ix key 0 n cap size))):bg c E L x (.eq (aW key n cap)):=by rw [← BK (size:=size)];exact h
theorem JZ {p lo n cap size:Nat}(aj:cap≠lo)(h:bg c E L x (.eq (ix (some p) lo n cap size))):bg c E L x (.eq (.slice (some ⟨p,lo * size,none⟩) n (cap - lo))):=by rw [← Js aj];exact h
def dV.DO {α:Type}[ah α](T:TypeId)(xs:List α)(i m cap:Nat):dV where
 holds A W o:= ∃ cs,o= .cells cs T (0,0)∧cs.size=cap * ah.size α∧xs.length+m≤cap∧cap≤maxLen∧hg A W (cs.toList.take (i * ah.size α)) (xs.take i)∧
  hg A W ((cs.toList.drop ((i+m) * ah.size α)).take ((xs.length - i) * ah.size α)) (xs.drop i)
 ni:=False
 mono e h:=let⟨cs,h1,ad,aD,aZ,bc,bu⟩:=h; ⟨cs,h1,ad,aD,aZ,bc.mono e,bu.mono e⟩
theorem Zy {α:Type}[ah α]{T i m cap:Nat}{xs:List α}(ar:i≤xs.length)(hm:xs.length+m≤cap){A W o cells}(h:(dV.row T xs cap).holds A W o)(aj:hg A W cells (xs.drop i)):
 ∃ cs,o= .cells cs T (0,0)∧ (i+m) * ah.size α+cells.length≤cs.size∧ (dV.DO T xs i m cap).holds A W (.cells (cs.toList.take ((i+m) * ah.size α)++cells++cs.toList.drop ((i+m) * ah.size α+cells.length)).toArray T (0,0)):=by
 obtain⟨cs,rfl,g1,g2,g3,g4⟩:=h
 have qZ:cs.toList.length=cap * ah.size α:=by simpa using g1
 have mT:cells.length=(xs.length - i) * ah.size α:=by rw [aj.1,List.length_drop]
 have aw:(i+m) * ah.size α+(xs.length - i) * ah.size α=(xs.length+m) * ah.size α:=by rw [← Nat.add_mul];congr 1;omega
 have aX:(xs.length+m) * ah.size α≤cap * ah.size α:=Nat.mul_le_mul_right _ hm
 have dc:i * ah.size α≤ (i+m) * ah.size α:=Nat.mul_le_mul_right _ (by omega)
 have gA:i * ah.size α≤xs.length * ah.size α:=Nat.mul_le_mul_right _ ar
 have iF:(cs.toList.take ((i+m) * ah.size α)).length=(i+m) * ah.size α:=by rw [List.length_take];omega
 refine⟨cs,rfl,by omega,_,rfl,?_,hm,g3,?_,?_⟩
 ·simp only [List.size_toArray,List.length_append,List.length_take,List.length_drop];omega
 ·rw [List.toList_toArray,List.append_assoc,List.take_append_of_le_length (by rw [iF];omega),List.take_take,Nat.min_eq_left dc]
  have:=I6 ar (⟨cs,rfl,g1,g2,g3,g4⟩:(dV.row T xs cap).holds A W (.cells cs T (0,0)))
  obtain⟨af7,h1,_,_,_,bc⟩:=this
  cases h1
  rwa [List.length_take,Nat.min_eq_left ar] at bc
 rw [List.toList_toArray,List.append_assoc,List.drop_left' iF,← mT,List.take_left]
 exact aj
theorem YP {α:Type}[ah α]{T i cap:Nat}{xs vs:List α}(ar:i≤xs.length){A W o cells}(h:(dV.DO T xs i vs.length cap).holds A W o)(aj:hg A W cells vs):
 ∃ cs,o= .cells cs T (0,0)∧i * ah.size α+cells.length≤cs.size∧ (dV.row T (xs.take i++vs++xs.drop i) cap).holds A W (.cells (cs.toList.take (i * ah.size α)++cells++cs.toList.drop (i * ah.size α+cells.length)).toArray T (0,0)):=by
 obtain⟨cs,rfl,g1,g2,g3,g4,g5⟩:=h
 have qZ:cs.toList.length=cap * ah.size α:=by simpa using g1
 have mT:cells.length=vs.length * ah.size α:=aj.1
 have iS:i * ah.size α+vs.length * ah.size α=(i+vs.length) * ah.size α:=by rw [← Nat.add_mul]
 have aw:(i+vs.length) * ah.size α+(xs.length - i) * ah.size α=(xs.length+vs.length) * ah.size α:=by rw [← Nat.add_mul];congr 1;omega
 have aX:(xs.length+vs.length) * ah.size α≤cap * ah.size α:=Nat.mul_le_mul_right _ g2
 have hlen:(xs.take i++vs++xs.drop i).length=xs.length+vs.length:=by simp;omega
 refine⟨cs,rfl,by omega,_,rfl,?_,by rw [hlen];exact g2,g3,?_⟩
 ·simp only [List.size_toArray,List.length_append,List.length_take,List.length_drop];omega
 rw [List.toList_toArray,hlen]
 have k2:=ud (ud g4 aj) g5
 have iF:(cs.toList.take (i * ah.size α)++cells).length=(i+vs.length) * ah.size α:=by rw [List.length_append,List.length_take];omega
 have kT:(cs.toList.take (i * ah.size α)++cells++cs.toList.drop (i * ah.size α+cells.length)).take ((xs.length+vs.length) * ah.size α)=cs.toList.take (i * ah.size α)++cells++(cs.toList.drop ((i+vs.length) * ah.size α)).take ((xs.length - i) * ah.size α):=by
  rw [List.take_append,iF,List.take_of_length_le (by omega),mT,iS];congr 2;omega
 rw [kT]
 exact k2
theorem I9 {α:Type}[ah α]{T lo cap:Nat}{xs vs:List α}(hk:lo+vs.length≤xs.length){A W o cells}(h:(dV.row T xs cap).holds A W o)(aj:hg A W cells vs):
 ∃ cs,o= .cells cs T (0,0)∧lo * ah.size α+cells.length≤cs.size∧ (dV.row T (xs.take lo++vs++xs.drop (lo+vs.length)) cap).holds A W (.cells (cs.toList.take (lo * ah.size α)++cells++cs.toList.drop (lo * ah.size α+cells.length)).toArray T (0,0)):=by
 obtain⟨cs,rfl,g1,g2,g3,g4⟩:=h
 have qZ:cs.toList.length=cap * ah.size α:=by simpa using g1
 have mT:cells.length=vs.length * ah.size α:=aj.1
 have iS:lo * ah.size α+vs.length * ah.size α=(lo+vs.length) * ah.size α:=by rw [← Nat.add_mul]
 have aw:(lo+vs.length) * ah.size α≤xs.length * ah.size α:=Nat.mul_le_mul_right _ hk
 have aX:xs.length * ah.size α≤cap * ah.size α:=Nat.mul_le_mul_right _ g2
 have hlen:(xs.take lo++vs++xs.drop (lo+vs.length)).length=xs.length:=by simp;omega
 refine⟨cs,rfl,by omega,_,rfl,?_,by rw [hlen];exact g2,g3,?_⟩
 ·simp only [List.size_toArray,List.length_append,List.length_take,List.length_drop];omega
 rw [List.toList_toArray,hlen]
 have g5:=OF (lo:=lo) g4 aj hk
 have e:(cs.toList.take (lo * ah.size α)++cells++cs.toList.drop (lo * ah.size α+cells.length)).take (xs.length * ah.size α)=(cs.toList.take (xs.length * ah.size α)).take (lo * ah.size α)++cells++(cs.toList.take (xs.length * ah.size α)).drop (lo * ah.size α+cells.length):=by
  have dc:(cs.toList.take (lo * ah.size α)++cells).length=lo * ah.size α+cells.length:=by rw [List.length_append,List.length_take];omega
  rw [List.take_append,dc,List.take_of_length_le (by omega),List.take_take,Nat.min_eq_left (by omega),List.drop_take]
 rw [e]
 exact g5
theorem aas {p n cap e:Nat}(hu:c.P.underlying t=some (.slice e))(ao:bg c E L x (.eq (aW (some p) n cap))):cf c E L ⟨d,.call ⟨.builtin .cap,#[x],#[t]⟩,ty,pos,af,g⟩ (.of (cap:Int)):= .pure fun a W s=>by
 have h1:a.eval x=_:=ao a W s;exact⟨.int .i64 cap,by simp [execOp,resolve,invoke,builtin,Builtin.cap_,h1,aW,run_underlying hu,goInt],of_int.2 rfl⟩
theorem sx {p n cap:Nat}{α:Type}[ah α]{e:TypeId}{lo ar:Option Operand}{m h:Nat}{Ex Ey:Int}(hu:c.P.underlying t=some (.slice e))(eZ:bG c.P e α)(ao:bg c E L x (.eq (aW (some p) n cap)))
 (hy:vC c E L lo Ex 0) (eL:vC c E L ar Ey n) (hm:Ex=m) (aO:Ey=h) (cu:m≤h∧h≤cap):
 cf c E L ⟨d,.slice t x lo ar none,ty,pos,af,g⟩ (.eq (ix (some p) m (h - m) cap (ah.size α))):= .pure fun a W s=>by
 subst hm;subst aO
 obtain⟨rY,ly⟩:=cu
 obtain⟨gG,eM,ev⟩:=eZ.info
 have h1:a.eval x=_:=ao a W s
 refine⟨_,?_,rfl⟩
 simp only [ix]
 have ak:∀ v,v=Value.int .i64 m→ (Instr.sliceBound v h .sliceB).run c.P W= .ok m W:=fun v a6=>pN rY a6
 have hH:∀ v,v=Value.int .i64 h→ (Instr.sliceBound v cap .sliceAcap).run c.P W= .ok h W:=fun v a6=>pN (by omega) a6
 generalize fc:(h:Int)=Uv at eL
 generalize D5:(m:Int)=Uw at hy
 generalize D6:(n:Int)=Ux at eL
 generalize TR:(0:Int)=Uy at hy
 cases hy with
 | none=>
   have hi:m=0:=by omega
   cases eL with
   | none=>
     have ly:h=n:=by omega
     subst ly
     subst hi
     simp [execOp,Instr.sliceAt,Instr.slice,Instr.sliceBounds,h1,aW,run_underlying hu,Go.sizeOf,typeInfo,eM,ev,jL]
   | some cu=>
     subst fc
     subst hi
     simp [execOp,Instr.sliceAt,Instr.slice,Instr.sliceBounds,h1,aW,run_underlying hu,Go.sizeOf,typeInfo,eM,ev,jL,hH _ (of_int.1 (cu a W s))]
 | some al=>
   subst D5
   cases eL with
   | none=>
     have ly:h=n:=by omega
     subst ly
     simp [execOp,Instr.sliceAt,Instr.slice,Instr.sliceBounds,h1,aW,run_underlying hu,Go.sizeOf,typeInfo,eM,ev,jL,ak _ (of_int.1 (al a W s))]
     split <;> rfl
   | some cu=>
     subst fc
     simp [execOp,Instr.sliceAt,Instr.slice,Instr.sliceBounds,h1,aW,run_underlying hu,Go.sizeOf,typeInfo,eM,ev,jL,ak _ (of_int.1 (al a W s)),hH _ (of_int.1 (cu a W s))]
     split <;> rfl
theorem ab7 {f:FuncId}{fn:Func}{p q T U cap cap' i j e tR rk UC iH xX UD ky:Nat}{α:Type}[ah α]{xs vs:List α}(DD:Nat.beq (ah.size α) 0=false)
 (bb:c.P.funcs[f]? =some fn) (acO:(fn.name== "runtime.NumGoroutine")=false) (hb:fn.body.isNone=true) (aO:Extern.findNext fn=none)
 (he:Extern.find fn=some (Extern.SlicesOverlaps.overlaps #[t,t] #[tR])) (hu:c.P.underlying t=some (.slice e)) (eZ:bG c.P e α)
 (ao:bg c E L x (.eq (.slice (some ⟨q,UD,none⟩) rk UC))) (a7:bg c E L y (.eq (.slice (some ⟨p,ky,none⟩) iH xX)))
 (ar:L[i]? =some ⟨some p,.row T xs cap⟩) (aF:L[j]? =some ⟨some q,.row U vs cap'⟩) (Hi:p≠q) (uU:0<cap):
 cf c E L ⟨d,.call ⟨.value (.func f),#[x,y],#[t,t]⟩,ty,pos,af,g⟩ (.of false):= .pure fun a W s=>by
 obtain⟨o,bk,cs,rfl,g1,g2,g3,g4⟩:=s.own _ (List.mem_of_getElem? ar)
 obtain⟨o',qV,en,rfl,aJ,bT,dC,gU⟩:=s.own _ (List.mem_of_getElem? aF)
 obtain⟨gG,eM,ev⟩:=eZ.info
 have h1:a.eval x=_:=ao a W s
 have ad:a.eval y=_:=a7 a W s
 have k4:ah.size α≠0:=fun h=>by rw [h] at DD;cases DD
 have da:cs.size≠0:=by rw [g1];exact Nat.mul_ne_zero (by omega) k4
 have af8:=Lib.run_overlaps_apart (P:=c.P) W t tR e hu (ah.size α) (fun w=>by simp [Go.sizeOf,typeInfo,eM,ev]) ⟨q,UD,none⟩ ⟨p,ky,none⟩ rk UC iH xX (fun h=>Hi h.symm) U T en.size cs.size
  (by simp [World.shape?,qV]) (by simp [World.shape?,bk]) da (by simp [World.frozen?,qV]) (by simp [World.frozen?,qV])
 refine⟨.bool false,?_,by exact of_bool.2 rfl⟩
 have bR:a.eval (.func f)= .func (.func f) #[] #[]:=rfl
 simp [execOp,resolve,Deferred.ofValue,bR,invoke,run_callFunc_extern bb acO hb aO he,h1,ad,af8]
theorem ae.aeg {α:Type}[ah α]{rest:List Oper}{bf i e bytes cap m k p T:Nat}{HV:IntKind}{xs:List α}{z:α}(hu:c.P.underlying t=some (.slice e))(jR:c.P.underlying t2=some (.int HV))(eZ:bG c.P e α)(hl:cR c.P e z)(DD:Nat.beq (ah.size α) 0=false)
 (xy:(c.P.info? e).map (·.bytes)=some bytes) (ao:bg c E L x (.eq (ix (some p) 0 m cap (ah.size α)))) (a7:bg c E L y (.of (k:Int))) (ak:L[i]? =some ⟨some p,.row T xs cap⟩) (hm:m≤xs.length) (hk:0<k) (bH:cap<m+k)
 (qT:(m+k) * bytes≤140737488355328) (mQ:m+k≤maxLen) (aO:Nat.blt bf c.n=true)
 (nE:∀ q cap',ae c ops Q rest ((bf,.eq (aW (some q) (m+k) cap'))::E) (⟨some q,.row e (xs.take m++List.replicate k z) cap'⟩::L)):
 ae c ops Q (⟨some bf,.call ⟨.builtin .append,#[x,y],#[t,t2]⟩,ty,pos,af,none⟩::rest) E L:=fun a W s=>by
 obtain⟨gG,eG,eM,dS,r5⟩:=hl.zero
 have nX:gG.size=ah.size α:=by
  obtain⟨i2,h1,ad⟩:=eZ.info;rw [eM] at h1;cases h1;exact ad
 have J3:gG.bytes=bytes:=by simpa [eM] using xy
 subst J3
 have xz:eG.cells.size=ah.size α:=by have:=ah.len (r5 [] W).2;simpa using this
 have k4:ah.size α≠0:=fun h=>by rw [h] at DD;cases DD
 have k7:bf<c.n:=by simpa using aO
 have h1:a.eval x= .slice (some ⟨p,0,none⟩) m cap:=by
  have:=ao a W s;rw [BK] at this;exact this
 obtain⟨o,bk,cs,rfl,g1,g2,g3,g4⟩:=s.own _ (List.mem_of_getElem? ak)
 have mR:maxLen=9223372036854775807:=rfl
 have ad:a.eval y= .int .i64 k:=of_int.1 (a7 a W s)
 have ae8:=I6 hm (⟨cs,rfl,g1,g2,g3,g4⟩:(dV.row T xs cap).holds (aS L++c.b8) W (.cells cs T (0,0)))
 obtain⟨af7,aw,_,_,_,LU⟩:=ae8
 cases aw
 have Lb:(xs.take m).length=m:=by rw [List.length_take];omega
 rw [Lb] at LU
 have sW:∀ (j:Nat) u,(cs.toList.take (m * ah.size α))[j]? =some u→W.drew.cell? ((⟨p,0,none⟩:Addr).add j)=some u:=by
  intro j u mU;rw [List.getElem?_take] at mU;split at mU
  ·rw [jL,Nat.zero_add,cell_of_row W.drew p j cs T (0,0) bk];simpa using mU
  cases mU
 have hold:=run_loadCells_list (P:=c.P) W.drew ⟨p,0,none⟩ _ sW
 rw [LU.1,Lb] at hold
 have aR:=Lib.run_append_grow_zeros (P:=c.P) W t t2 ty e gG eG .i64 HV hu jR eM dS (some ⟨p,0,none⟩) m cap _ (by simp only [Builtin.firstCells];rw [nX];exact hold) k hk (by omega) bH (by omega)
  (by have:k * gG.bytes≤ (m+k) * gG.bytes:=Nat.mul_le_mul_right _ (by omega)
      omega) (growslice_fits bH qT)
 have pw:=grownCap_ge W (m+k) cap e
 have hle:=grownCap_le_maxLen W (m+k) cap e mQ
 have Ht:=r5 (aS L++c.b8) W
 have q0:=BM Ht k k4
 have LP:Builtin.zeroCells eG.cells k=(Array.range (k * ah.size α)).map (eG.cells[· % eG.cells.size]!):=by rw [Builtin.zeroCells,xz]
 rw [← LP] at q0
 have zJ:=(ud LU q0).mono (Ext.dR (Fr.drew W))
 have hlen:(xs.take m++List.replicate k z).length=m+k:=by rw [List.length_append,Lb,List.length_replicate]
 have kN:=(s.world (Fr.drew W)).alloc (o:= .cells ((cs.toList.take (m * ah.size α)).toArray++Builtin.zeroCells eG.cells k++Builtin.zeroCells eG.cells (grownCap W (m+k) cap e - (m+k))) e)
  (cp:= .row e (xs.take m++List.replicate k z) (grownCap W (m+k) cap e))
  (Jw (T:=e) zJ (ds:=(Builtin.zeroCells eG.cells (grownCap W (m+k) cap e - (m+k))).toList) (by rw [Array.length_toList,size_zeroCells,xz,hlen]) (by rw [hlen];exact pw) hle (by simp))
 refine h3 rfl (R:=fun v hU=>v=aW (some W.heap.size) (m+k) (grownCap W (m+k) cap e)∧hU=W.drew.alloc (.cells ((cs.toList.take (m * ah.size α)).toArray++Builtin.zeroCells eG.cells k++Builtin.zeroCells eG.cells (grownCap W (m+k) cap e - (m+k))) e)) (.kX ?_ ⟨rfl,rfl⟩) fun v hU ⟨a6,hw⟩=>?_
 ·simp only [execOp,resolve,invoke,builtin,Sem.run_bind,Sem.run_pure,Result.andThen_ok]
  have aw:(#[x,y]:Array Operand).map a.eval= #[a.eval x,a.eval y]:=by simp
  rw [aw,h1,ad,aR]
  rfl
 subst a6
 subst hw
 exact nE _ _ _ _ (kN.put k7 rfl)
def I.vA (τ:I):I where
 holds A W v:= ∃ b cur T hC u,v= .pointer (some ⟨b,0,none⟩)∧b ∉ A∧W.heap[b]? =some (.cells cur T hC)∧cur[0]? =some u∧u.oneCell'=true∧τ.holds A W u
 mono e h:=by
  obtain⟨b,cur,T,hC,u,rfl,hb,cu,hs,h1,aR⟩:=h;have ct:b<_:=(Array.getElem?_eq_some_iff.1 cu).1;exact⟨b,cur,T,hC,u,rfl,fun hm=>hb (e.new b hm ct),by rw [e.block b ct hb];exact cu,hs,h1,τ.mono e aR⟩
theorem ae.adU {rest:List Oper}{bf:Nat}{τ:I}(ao:bg c E L x τ)(h1:∀ A W v,τ.holds A W v→v.oneCell'=true)(aO:Nat.blt bf c.n=true)
 (k:ae c ops Q rest ((bf,.vA τ)::E) L):ae c ops Q (⟨some bf,.box t x,ty,pos,af,none⟩::rest) E L:=fun a W s=>by
 have a6:=ao a W s
 have bk:=h1 _ _ _ a6
 refine h3 rfl (R:=fun v W'=>v= .pointer (some ⟨W.heap.size,0,none⟩)∧W'=W.alloc (.cells (a.eval x).cells t)) (.kX ?_ ⟨rfl,rfl⟩) fun v W' ⟨nx,hw⟩=>?_
 ·simp [execOp,Instr.box,newVar,newRow]
 subst nx
 subst hw
 have s1:=((s.alloc (o:= .cells (a.eval x).cells t) (cp:= .dead) trivial).kill 0).pg 1
 refine k _ _ (bM.put s1 (by simpa using aO) ?_)
 refine⟨W.heap.size,(a.eval x).cells,t,(0,0),a.eval x,rfl,fun hm=>?_,J0 W _,by rw [cells_one bk];rfl,bk,τ.mono (A:=aS L++c.b8) (W:=W) ⟨by simp,fun k hk _=>Cu W _ k hk,fun k h _=>h⟩ a6⟩
 rcases List.mem_append.1 hm with hm | hm
 ·exact Nat.lt_irrefl _ (s.lt _ hm)
 exact Nat.lt_irrefl _ (s.fb _ hm).1
theorem PF {τ:I}{D:TypeDesc}(hu:c.P.underlying t=some D)(hd:(match (motive:=TypeDesc→Bool) D with | .struct _ | .array _ _=>true | _=>false)=false)(ao:bg c E L x (.vA τ)):cf c E L ⟨d,.load t x,ty,pos,af,g⟩ τ:= .pure fun a W s=>by
 obtain⟨b,cur,T,hC,u,h1,hb,cu,hs,ad,aR⟩:=ao a W s;have Ea:(isAgg t).run c.P W= .ok false W:=by
  unfold Go.isAgg;rw [Sem.run_bind,run_underlying hu W];simp only [Result.andThen_ok];cases D <;> simp_all
 have sW:W.cell? ⟨b,0,none⟩=some u:=by rw [cell_of_row W b 0 cur T hC cu];exact hs
 refine⟨u,?_,aR⟩;simp [execOp,Instr.loadAt,Instr.sureAddr,h1,loadVar,Sem.run_bind,Ea,sW]
theorem ag.some {code:Code}{i T cap:Nat}{key:Option Nat}{α:Type}[ah α]{xs:List α}(ak:L[i]? =Option.some ⟨key,.row T xs cap⟩)(ao:0<xs.length)(k:∀ p,key=Option.some p→xs.length≤cap→cap≤maxLen→ag c Q code E L):ag c Q code E L:=fun a W s=>by
 obtain⟨p,cs,rfl,eY,g1,g2,g3,g4⟩:=s.rowAt ak ao;exact k p rfl g2 g3 a W s
theorem ag.apart {code:Code}{p q:Nat}{cp cp':dV}{L':List aN}(ak:L=⟨Option.some p,cp⟩::⟨Option.some q,cp'⟩::L')(k:p≠q→ag c Q code E L):ag c Q code E L:=fun a W s=>by
 refine k (fun e=>?_) a W s;have:=s.nodup;rw [ak,e] at this;simp [aS] at this
theorem Jz {s:Nat}{τ:I} :look ((s,τ)::E) s=some τ:=by
 show(bif Nat.beq s s then some τ else look E s)=some τ;rw [Nat.beq_refl];rfl
theorem PQ {s u:Nat}{τ:I}(h:Nat.beq s u=false):look ((s,τ)::E) u=look E u:=by
 show(bif Nat.beq s u then some τ else look E u)=look E u;rw [h];rfl
def I.both (τ σ:I):I where
 holds A W v:=τ.holds A W v∧σ.holds A W v
 mono e h:=⟨τ.mono e h.1,σ.mono e h.2⟩
theorem ae.aaD {rest:List Oper}{s xY i j p o T cap:Nat}{key:Option Nat}{β α:Type}[ah β][ah α]{b b':β}{xs:List α}(l:aI β (List α))(eD:bG c.P t (List α))
 (ao:look E xY=some (.eq (.pointer (some ⟨p,o,none⟩)))) (hs:Nat.beq s xY=false) (a7:look E s=some (.eq (aW key xs.length cap)))
 (ar:L[i]? =some ⟨some p,.var b⟩) (aF:L[j]? =some ⟨key,.row T xs cap⟩) (gd:Nat.beq j i=false) (bk:o=l.off) (hb:l.set b xs=b')
 (k:ae c ops Q rest E ((L.set j ⟨none,.dead⟩).set i ⟨some p,.var b'⟩)):ae c ops Q (⟨none,.store t (.tmp xY) (.tmp s),ty,pos,af,none⟩::rest) E L:=fun a W st=>by
 have aB:∀ t τ,look ((s,I.both (.eq (aW key xs.length cap)) (.of xs))::E) t=some τ→ (s=t∧τ=I.both (.eq (aW key xs.length cap)) (.of xs))∨look E t=some τ:=fun t τ h=>by
  simp only [look] at h;by_cases e:Nat.beq s t=true
  ·rw [e] at h;simp only [cond_true,Option.some.injEq] at h;exact .inl ⟨eH.1 e,h.symm⟩
  simp only [Bool.not_eq_true] at e;rw [e] at h;exact .inr h
 have hk:=st.kill j
 have bb:=st.freeze a7 aF
 have ae9:∀ t τ,look ((s,I.both (.eq (aW key xs.length cap)) (.of xs))::E) t=some τ→ ∃ v,a.tmps[t]? =some v∧τ.holds (aS (L.set j ⟨none,.dead⟩)++c.b8) W v:=fun t τ h=>by
  rcases aB t τ h with⟨rfl,rfl⟩ | h
  ·obtain⟨v,h1,ad⟩:=bb.env s (.of xs) Jz;obtain⟨vE,aD,aZ⟩:=hk.env s _ a7;rw [h1] at aD;simp only [Option.some.injEq] at aD;subst aD;exact⟨v,h1,aZ,ad⟩
  exact hk.env t τ h
 have acP:bM c ((s,I.both (.eq (aW key xs.length cap)) (.of xs))::E) (L.set j ⟨none,.dead⟩) a W:= { hk with env:=ae9 }
 have da:j≠i:=fun e=>by rw [eH.2 e] at gd;cases gd
 refine(ae.store (c:=c) (E:=(s,I.both (.eq (aW key xs.length cap)) (.of xs))::E) (L:=L.set j ⟨none,.dead⟩) (i:=i) (p:=p) (b:=b) (b':=b') (v:=xs) l eD
  (ab ((PQ hs).trans ao)) (fun a W h=>?_) (by rw [List.getElem?_set_ne da];exact ar) bk hb (fun a W h=>k a W (h.less fun t τ bP=>?_))) a W acP
 ·obtain⟨v,h1,ad⟩:=h.env s _ Jz
  have e:a.eval (.tmp s)=v:=by simp [Act.eval,h1]
  rw [e];exact ad.2
 by_cases e:Nat.beq s t=true
 ·have:=eH.1 e
  subst this
  rw [a7] at bP
  simp only [Option.some.injEq] at bP
  subst bP
  exact⟨_,Jz,fun A W v h=>h.1⟩
 simp only [Bool.not_eq_true] at e
 exact⟨τ,(PQ e).trans bP,fun _ _ _ h=>h⟩
theorem ae.Zx {rest:List Oper}{s xY i j p o T cap:Nat}{key:Option Nat}{β α:Type}[ah β][ah α]{b b':β}{xs:List α}(l:aI β (List α))(eD:bG c.P t (List α))
 (ao:look E xY=some (.eq (.pointer (some ⟨p,o,none⟩)))) (hs:Nat.beq s xY=false) (a7:look E s=some (.eq (aW key xs.length cap)))
 (ar:L[i]? =some ⟨some p,.var b⟩) (aF:L[j]? =some ⟨key,.row T xs cap⟩) (gd:Nat.beq j i=false) (bk:o=l.off) (hb:l.set b xs=b')
 (k:ae c ops Q rest E ((L.set i ⟨some p,.var b'⟩).set j ⟨none,.dead⟩)):ae c ops Q (⟨none,.store t (.tmp xY) (.tmp s),ty,pos,af,none⟩::rest) E L:=
 ae.aaD l eD ao hs a7 ar aF gd bk hb (by rw [List.set_comm _ _ (fun e=>by rw [eH.2 e] at gd;cases gd)];exact k)
theorem O3 {α γ:Type}[ah α][ah γ]{A W}{cs:List Value}{x:α}{os:List (Nat×Value)}{u:Value}(l:aI α (List γ))(h:lQ A W cs x os)(hq:(l.off,u)∈os):lQ A W cs (l.set x []) os:=by
 refine⟨?_,h.2⟩;have h1:=l.lK (ds:= [kL]) (g:=([]:List γ)) h.1 (show ah.rep A W [kL] ([]:List γ) from by
  have:=(nM (A:=A) (W:=W) (v:=kL) (xs:=([]:List γ))).2 (.inl ⟨rfl,rfl⟩);exact this.2)
 have hb:(blank os cs)[l.off]? =some kL:=by
  rw [rv,if_pos (List.any_eq_true.2 ⟨_,hq,by simp⟩),(h.2 _ hq).1];rfl
 have ct:l.off<(blank os cs).length:=(List.getElem?_eq_some_iff.1 hb).1;have he:(blank os cs).take l.off++[kL]++(blank os cs).drop (l.off+ah.size (List γ))=blank os cs:=by
  show(blank os cs).take l.off++[kL]++(blank os cs).drop (l.off+1)=blank os cs;have ad:(blank os cs)[l.off]=kL:=(List.getElem?_eq_some_iff.1 hb).2;rw [← ad,List.append_assoc,List.singleton_append,List.getElem_cons_drop,List.take_append_drop]
 rwa [he] at h1
theorem ae.Ln {Ez:List Oper}{p:Nat}{β γ:Type}[ah β][ah γ]{b b':β}{os:List (Nat×Value)}{u:Value}(l:aI β (List γ))(i q:Nat)(ak:L[i]? =some ⟨some p,.cn b os⟩)(hq:os[q]? =some (l.off,u))(hb:l.set b []=b')
 (k:ae c ops Q Ez E (L.set i ⟨some p,.cn b' os⟩)):ae c ops Q Ez E L:=fun a W s=>
 k a W (s.again ak (fun A W o ⟨cs,T,h1,ad⟩=>⟨cs,T,h1,hb ▸ O3 l ad (List.mem_of_getElem? hq)⟩) id)
theorem aa.Ln {z:Exit}{p:Nat}{β γ:Type}[ah β][ah γ]{b b':β}{os:List (Nat×Value)}{u:Value}(l:aI β (List γ))(i q:Nat)(ak:L[i]? =some ⟨some p,.cn b os⟩)(hq:os[q]? =some (l.off,u))(hb:l.set b []=b')
 (k:aa c Q z E (L.set i ⟨some p,.cn b' os⟩)):aa c Q z E L:=fun a W s=>
 k a W (s.again ak (fun A W o ⟨cs,T,h1,ad⟩=>⟨cs,T,h1,hb ▸ O3 l ad (List.mem_of_getElem? hq)⟩) id)
end
def Dx {α:Type}(bytes:Nat)(xs:List α)(i:Int)(vs:List α):Option (List α):=
 if 0≤i∧i≤xs.length∧0<vs.length∧ (xs.length+vs.length) * bytes≤140737488355328∧xs.length+vs.length≤maxLen then some (xs.take i.toNat++vs++xs.drop i.toNat) else none
theorem XV {α:Type}{bytes:Nat}{xs vs r:List α}{i:Int}(h:Dx bytes xs i vs=some r):
 ∃ k:Nat,i=k∧k≤xs.length∧0<vs.length∧ (xs.length+vs.length) * bytes≤140737488355328∧xs.length+vs.length≤maxLen∧r=xs.take k++vs++xs.drop k:=by
 unfold Dx at h
 split at h
 ·rename_i aj
  obtain⟨h1,ad,aD,aZ,bc⟩:=aj
  exact⟨i.toNat,by omega,by omega,aD,aZ,bc,(by simp only [Option.some.injEq] at h;exact h.symm)⟩
 cases h
section
variable {c:dt} {E:List (Nat×I)} {L:List aN} {ops:Array Oper} {Q:Exit→Act→World→Prop} {rest:List Oper} {o:Oper} {bf:Nat}
variable {ty:TypeId} {pos:String} {af:Array Edge} {x y:Operand} {t t2:TypeId}
theorem az {id:Nat}{l:List Oper}{y:Code}(h:ae c l.toArray (Exit.then (c.wp y Q) Q) l E L):ag c Q (.seq (.region id l.toArray false) y) E L:= .seq (.cq h)
theorem aG {y:Code}(h:ag c Q y E L):ae c ops (Exit.then (c.wp y Q) Q) [] E L:= .nil (.next h)
theorem bI {y z:Code}(h:ag c (Exit.then (c.wp z Q) Q) y E L):ae c ops (Exit.then (c.wp (Code.seq y z) Q) Q) [] E L:= .nil (.next (.seq h))
theorem b6 {id:Nat}{l:List Oper}{z:Code}(h:ae c l.toArray (Exit.then (c.wp z Q) Q) l E L):ae c ops (Exit.then (c.wp (Code.seq (.region id l.toArray false) z) Q) Q) [] E L:= .nil (.next (.seq (.cq h)))
theorem cP {y:Code}(h:ag c Q y E L):ag c (Exit.then (c.wp y Q) Q) .skip E L:= .skip (.next h)
theorem av {α β:Type}{m:Option α}{f:α→Option β}{r:β}{P:Prop}(h:m.bind f=some r)(k:∀ y,m=some y→f y=some r→P):P:=(bind_some h).elim fun y h=>k y h.1 h.2
theorem b9 {R:Type}{b:Bool}{A B:Option R}{r:R}{y z:Code}(h:cond b A B=some r)(bP:A=some r→ag c Q y E L)(bb:B=some r→ag c Q z E L)
 (al:bg c E L x (.of b):=by first | exact ab rfl | exact gC _):ag c Q (.cond x y z) E L:=
 .cond al (fun hb=>bP (fY hb h)) (fun hb=>bb (fZ hb h))
theorem bq {τ:I}(h:cf c E L o τ)(k:ae c ops Q rest ((bf,τ)::E) L)(bH:o.guard=none:=by rfl)(hd:o.dst=some bf:=by rfl)(aO:Nat.blt bf c.n=true:=by rfl):ae c ops Q (o::rest) E L:= .v h bH hd aO k
theorem aC {τ:I}(k:ae c ops Q rest ((bf,τ)::E) L)(ao:bg c E L x τ:=by first | exact ab rfl | exact bX _ | exact gC _ | exact ef _)(aO:Nat.blt bf c.n=true:=by rfl):
 ae c ops Q (⟨some bf,.move x,ty,pos,af,none⟩::rest) E L:= .v (cG ao) rfl rfl aO k
theorem aH {τ:I}(k:ae c ops Q rest ((bf,τ)::E) L)(ao:bg c E L x τ:=by first | exact ab rfl | exact bX _ | exact gC _ | exact ef _)(aO:Nat.blt bf c.n=true:=by rfl):
 ae c ops Q (⟨some bf,.assign x,ty,pos,af,none⟩::rest) E L:= .v (e2 ao) rfl rfl aO k
theorem aU {σ τ:I}(h:bg c E L x σ→cf c E L o τ)(k:ae c ops Q rest ((bf,τ)::E) L)(ao:bg c E L x σ:=by first | exact ab rfl | exact bX _ | exact gC _ | exact ef _)
 (bH:o.guard=none:=by rfl) (hd:o.dst=some bf:=by rfl) (aO:Nat.blt bf c.n=true:=by rfl):ae c ops Q (o::rest) E L:= .v (h ao) bH hd aO k
theorem bj {σ q3 τ:I}(h:bg c E L x σ→bg c E L y q3→cf c E L o τ)(k:ae c ops Q rest ((bf,τ)::E) L)(ao:bg c E L x σ:=by first | exact ab rfl | exact bX _ | exact gC _ | exact ef _)
 (a7:bg c E L y q3:=by first | exact ab rfl | exact bX _ | exact gC _ | exact ef _)
 (bH:o.guard=none:=by rfl) (hd:o.dst=some bf:=by rfl) (aO:Nat.blt bf c.n=true:=by rfl):ae c ops Q (o::rest) E L:= .v (h ao a7) bH hd aO k
theorem dZ {α:Type}[ah α]{a b:α}(e:some a=some b)(h:cf c E L o (.of a))(k:ae c ops Q rest ((bf,.of b)::E) L)(bH:o.guard=none:=by rfl)(hd:o.dst=some bf:=by rfl)(aO:Nat.blt bf c.n=true:=by rfl):
 ae c ops Q (o::rest) E L:= .v (h.hG (dA e)) bH hd aO k
theorem gb {i:Nat}{τs:List I}{τ:I}(k:ae c ops Q rest ((bf,τ)::E) L)(ao:bg c E L x (.eu τs):=by exact ab rfl)(ar:τs[i]? =some τ:=by rfl)(aO:Nat.blt bf c.n=true:=by rfl):
 ae c ops Q (⟨some bf,.extract x i,ty,pos,af,none⟩::rest) E L:= .v (lN ao ar) rfl rfl aO k
theorem bQ {p o:Nat}{β γ:Type}[ah β][ah γ]{b:β}(j:Nat)(l:aI β γ)(eD:bG c.P t γ)(k:ae c ops Q rest ((bf,.of (l.get b))::E) L)(ao:bg c E L x (.eq (.pointer (some ⟨p,o,none⟩))):=by exact ab rfl)
 (ak:L[j]? =some ⟨some p,.var b⟩:=by rfl) (bk:o=l.off:=by rfl) (aO:Nat.blt bf c.n=true:=by rfl):ae c ops Q (⟨some bf,.load t x,ty,pos,af,none⟩::rest) E L:= .v (dz l eD ao ak bk rfl) rfl rfl aO k
theorem cj {p:Nat}{β:Type}[ah β]{b:β}(j:Nat)(eD:bG c.P t β)(k:ae c ops Q rest ((bf,.of b)::E) L)(ao:bg c E L x (.eq (.pointer (some ⟨p,0,none⟩))):=by exact ab rfl)
 (ak:L[j]? =some ⟨some p,.var b⟩:=by rfl) (aO:Nat.blt bf c.n=true:=by rfl):ae c ops Q (⟨some bf,.load t x,ty,pos,af,none⟩::rest) E L:= .v (dz (aI.id β) eD ao ak rfl rfl) rfl rfl aO k
theorem TG {p o:Nat}{β γ:Type}[ah β][ah γ]{b:β}{os:List (Nat×Value)}(j:Nat)(l:aI β γ)(eD:bG c.P t γ)(k:ae c ops Q rest ((bf,.of (l.get b))::E) L)(ao:bg c E L x (.eq (.pointer (some ⟨p,o,none⟩))):=by exact ab rfl)
 (ak:L[j]? =some ⟨some p,.cn b os⟩:=by rfl) (bk:o=l.off:=by rfl) (bo:uC os l.off (ah.size γ)=true:=by rfl) (aO:Nat.blt bf c.n=true:=by rfl):ae c ops Q (⟨some bf,.load t x,ty,pos,af,none⟩::rest) E L:= .v (F3 l eD ao ak bk rfl bo) rfl rfl aO k
theorem zP {s f o:Nat}{β γ:Type}[ah β][ah γ]{b:β}(l:aI β γ)(fd:cE c.P s f o)(k:ae c ops Q rest ((bf,.ptr (l.get b))::E) L)(ao:bg c E L x (.ptr b):=by exact ab rfl)(bk:l.off=o:=by rfl)(aO:Nat.blt bf c.n=true:=by rfl):
 ae c ops Q (⟨some bf,.fieldAddr s x f,ty,pos,af,none⟩::rest) E L:= .v (CI l fd ao bk rfl) rfl rfl aO k
theorem gi {α:Type}[ah α][Inhabited α]{xs:List α}{e:TypeId}{i:Int}{j:Nat}(hk:idx xs.length i=some j)(hu:c.P.underlying t=some (.slice e))(eZ:bG c.P e α)(k:ae c ops Q rest ((bf,.ptr (ay xs j))::E) L)
 (ao:bg c E L x (.of xs):=by exact ab rfl) (a7:bg c E L y (.of i):=by first | exact ab rfl | exact bX _) (aO:Nat.blt bf c.n=true:=by rfl):
 ae c ops Q (⟨some bf,.indexAddr t x y,ty,pos,af,none⟩::rest) E L:= .v (qD hu eZ ao a7 (cY hk)) rfl rfl aO k
theorem ti {b e:Bool}{p:Prop}(k:ae c ops Q rest ((bf,.of (b||e))::E) L)(ao:bg c E L x (.of b):=by exact ab rfl)(a7:bg c E L y (.cond p (.of e)):=by exact ab rfl)(hp:b=false→p:=by exact fun h=>h)(aO:Nat.blt bf c.n=true:=by rfl):
 ae c ops Q (⟨some bf,.pick x (.const (.bool true)) y,ty,pos,af,none⟩::rest) E L:= .v (s0 ao a7 hp) rfl rfl aO k
theorem iZ {b e:Bool}{p:Prop}(k:ae c ops Q rest ((bf,.of (b&&e))::E) L)(ao:bg c E L x (.of b):=by exact ab rfl)(a7:bg c E L y (.cond p (.of e)):=by exact ab rfl)(hp:b=true→p:=by exact fun h=>h)(aO:Nat.blt bf c.n=true:=by rfl):
 ae c ops Q (⟨some bf,.pick x y (.const (.bool false)),ty,pos,af,none⟩::rest) E L:= .v (nQ ao a7 hp) rfl rfl aO k
theorem dF {τ:I}{j g:Nat}{b want:Bool}(h:b=want→cf c E L o τ)(k:ae c ops Q rest ((bf,.cond (b=want) τ)::E) L)(bH:o.guard=some (j,want):=by rfl)(aF:(ops[j]?).bind (·.dst)=some g:=by rfl)(al:look E g=some (.of b):=by rfl)
 (hd:o.dst=some bf:=by rfl) (aO:Nat.blt bf c.n=true:=by rfl):ae c ops Q (o::rest) E L:= .g h bH aF al hd aO k
theorem cX {σ τ:I}{j g:Nat}{b want:Bool}(h:bg c E L x σ→cf c E L o τ)(k:ae c ops Q rest ((bf,.cond (b=want) τ)::E) L)
 (ao:b=want→bg c E L x σ:=by first | exact fun hb=>b1 rfl hb | exact fun _=>ab rfl | exact fun _=>bX _ | exact fun _=>gC _)
 (bH:o.guard=some (j,want):=by rfl) (aF:(ops[j]?).bind (·.dst)=some g:=by rfl) (al:look E g=some (.of b):=by rfl)
 (hd:o.dst=some bf:=by rfl) (aO:Nat.blt bf c.n=true:=by rfl):ae c ops Q (o::rest) E L:= .g (fun hb=>h (ao hb)) bH aF al hd aO k
theorem jl {σ q3 τ:I}{j g:Nat}{b want:Bool}(h:bg c E L x σ→bg c E L y q3→cf c E L o τ)(k:ae c ops Q rest ((bf,.cond (b=want) τ)::E) L)
 (ao:b=want→bg c E L x σ:=by first | exact fun hb=>b1 rfl hb | exact fun _=>ab rfl | exact fun _=>bX _ | exact fun _=>gC _)
 (a7:b=want→bg c E L y q3:=by first | exact fun hb=>b1 rfl hb | exact fun _=>ab rfl | exact fun _=>bX _ | exact fun _=>gC _)
 (bH:o.guard=some (j,want):=by rfl) (aF:(ops[j]?).bind (·.dst)=some g:=by rfl) (al:look E g=some (.of b):=by rfl)
 (hd:o.dst=some bf:=by rfl) (aO:Nat.blt bf c.n=true:=by rfl):ae c ops Q (o::rest) E L:= .g (fun hb=>h (ao hb) (a7 hb)) bH aF al hd aO k
theorem cQ {α:Type}[ah α]{z:α}(hl:cR c.P t z)(k:∀ p,ae c ops Q rest ((bf,.eq (.pointer (some ⟨p,0,none⟩)))::E) (⟨some p,.var z⟩::L))(aO:Nat.blt bf c.n=true:=by rfl):
 ae c ops Q (⟨some bf,.alloc t,ty,pos,af,none⟩::rest) E L:= .alloc hl aO k
theorem b3 {α:Type}[ah α]{z:α}(k:∀ p,ae c ops Q rest ((bf,.eq (.pointer (some ⟨p,0,none⟩)))::E) (⟨some p,.var z⟩::L))(ao:bg c E L x (.of z):=by first | exact ab rfl | exact bX _ | exact gC _)(aO:Nat.blt bf c.n=true:=by rfl):
 ae c ops Q (⟨some bf,.box t x,ty,pos,af,none⟩::rest) E L:= .box ao aO k
theorem qP {p o:Nat}{β γ:Type}[ah β][ah γ]{b:β}{v:γ}(i:Nat)(l:aI β γ)(eD:bG c.P t γ)(k:ae c ops Q rest E (L.set i ⟨some p,.var (l.set b v)⟩))(ao:bg c E L x (.eq (.pointer (some ⟨p,o,none⟩))):=by exact ab rfl)
 (a7:bg c E L y (.of v):=by first | exact ab rfl | exact bX _ | exact gC _ | exact look_nil | exact ef _) (ak:L[i]? =some ⟨some p,.var b⟩:=by rfl) (bk:o=l.off:=by rfl):
 ae c ops Q (⟨none,.store t x y,ty,pos,af,none⟩::rest) E L:= .store l eD ao a7 ak bk rfl k
theorem cr {p:Nat}{β:Type}[ah β]{b v:β}(i:Nat)(eD:bG c.P t β)(k:ae c ops Q rest E (L.set i ⟨some p,.var v⟩))(ao:bg c E L x (.eq (.pointer (some ⟨p,0,none⟩))):=by exact ab rfl)
 (a7:bg c E L y (.of v):=by first | exact ab rfl | exact bX _ | exact gC _ | exact look_nil | exact ef _) (ak:L[i]? =some ⟨some p,.var b⟩:=by rfl):
 ae c ops Q (⟨none,.store t x y,ty,pos,af,none⟩::rest) E L:= .store (aI.id β) eD ao a7 ak rfl rfl k
theorem zO {p o:Nat}{β γ:Type}[ah β][ah γ]{b b':β}{v:γ}(i:Nat)(l:aI β γ)(eD:bG c.P t γ)(k:ae c ops Q rest E (L.set i ⟨some p,.var b'⟩))(ao:bg c E L x (.eq (.pointer (some ⟨p,o,none⟩))):=by exact ab rfl)
 (a7:bg c E L y (.of v):=by first | exact ab rfl | exact bX _ | exact gC _ | exact look_nil | exact ef _) (ak:L[i]? =some ⟨some p,.var b⟩:=by rfl) (bk:o=l.off:=by rfl) (hb:some (l.set b v)=some b'):
 ae c ops Q (⟨none,.store t x y,ty,pos,af,none⟩::rest) E L:= .store l eD ao a7 ak bk (dA hb) k
theorem eO {f:FuncId}{xs:List Operand}{ats:Array TypeId}{τs:List I}{ρ:I}(ew:bL c.P f)(h:bK c.P f τs ρ)(k:ae c ops Q rest ((bf,ρ)::E) L)
 (ao:ik c E L xs τs:=by repeat (first | exact trivial | refine⟨ab rfl,?_⟩ | refine⟨bX _,?_⟩ | refine⟨gC _,?_⟩ | refine⟨look_nil,?_⟩ | refine⟨ef _,?_⟩)) (aO:Nat.blt bf c.n=true:=by rfl):
 ae c ops Q (⟨some bf,.call ⟨.value (.func f),xs.toArray,ats⟩,ty,pos,af,none⟩::rest) E L:= .v (iN ew h ao) rfl rfl aO k
theorem e9 {f:FuncId}{xs:List Operand}{ats:Array TypeId}{τs:List I}{δ:Type}{ρ:δ→I}{Lo:δ→List aN}(n:Nat)(ew:bL c.P f)(h:bZ c.P f τs (L.take n) ρ Lo)
 (k:∀ q,ae c ops Q rest ((bf,ρ q)::E) (Lo q++L.drop n)) (ao:ik c E L xs τs:=by repeat (first | exact trivial | refine⟨ab rfl,?_⟩ | refine⟨bX _,?_⟩ | refine⟨gC _,?_⟩ | refine⟨look_nil,?_⟩ | refine⟨uh,?_⟩ | refine⟨ef _,?_⟩)) (aO:Nat.blt bf c.n=true:=by rfl):
 ae c ops Q (⟨some bf,.call ⟨.value (.func f),xs.toArray,ats⟩,ty,pos,af,none⟩::rest) E L:=by
 have e:=List.take_append_drop n L
 have:=ae.kE (ty:=ty) (pos:=pos) (af:=af) (ats:=ats) (xs:=xs) (Lin:=L.take n) (Lr:=L.drop n) (E:=E) (Q:=Q) (ops:=ops) ew h (by rw [e];exact ao) aO k
 rwa [e] at this
theorem ll {α:Type}[ah α]{e bytes cap:Nat}{key:Option Nat}{xs ys r:List α}{z:α}(j:Nat)(hu:c.P.underlying t=some (.slice e))(eZ:bG c.P e α)(hl:cR c.P e z)(h:hf bytes xs ys=some r)
 (k:∀ qK cap',ae c ops Q rest ((bf,.eq (aW qK r.length cap'))::E) (L.set j ⟨qK,.row e r cap'⟩)) (xy:(c.P.info? e).map (·.bytes)=some bytes:=by kernel_rfl)
 (hs:bg c E L x (.eq (aW key xs.length cap)):=by first | exact ab rfl | exact uh) (ak:L[j]? =some ⟨key,.row e xs cap⟩:=by rfl) (a7:bg c E L y (.of ys):=by exact ab rfl) (aO:Nat.blt bf c.n=true:=by rfl):
 ae c ops Q (⟨some bf,.call ⟨.builtin .append,#[x,y],#[t,t]⟩,ty,pos,af,none⟩::rest) E L:= .app hu eZ hl xy hs ak a7 h aO k
theorem iq {place:Nat→Option (Nat×Nat)}{β:Type}[ah β]{b b':β}{γ:Type}[ah γ]{v:γ}{i:Nat}{r:List (Nat×Operand)}(l:aI β γ)(k:rP c E L place (l.set b v) r b')
 (hp:place i=some (l.off,ah.size γ):=by rfl) (ao:bg c E L x (.of v):=by first | exact ab rfl | exact bX _ | exact gC _ | exact look_nil | exact ef _):rP c E L place b ((i,x)::r) b':= .cons l hp ao rfl k
theorem gJ {β:Type}[ah β]{z b:β}{bC:List (Nat×Operand)}{pl:Array (Nat×Nat)}(Ev:ic c.P t pl)(hl:cR c.P t z)(vF:β)(bb:rP c E L (pl[·]?) z bC b)(k:ae c ops Q rest ((bf,.of vF)::E) L)(bo:ah.agg β=true:=by rfl)(hb:b=vF:=by rfl)(aO:Nat.blt bf c.n=true:=by rfl):
 ae c ops Q (⟨some bf,.build t bC.toArray,ty,pos,af,none⟩::rest) E L:= .v ((dp bo Ev hl bb).hG hb) rfl rfl aO k
theorem hF {α:Type}[ah α]{e n:Nat}{z:α}{bC:List (Nat×Operand)}(r:List α)(hu:c.P.underlying t=some (.slice e))(eZ:bG c.P e α)(hl:cR c.P e z)(k:ae c ops Q rest ((bf,.of r)::E) L)
 (bb:oA c E L (List.replicate n z) bC r:=by repeat (first | exact oA.nil | refine oA.cons (by simp) (ab rfl) ?_ | refine oA.cons (by simp) (bX _) ?_ | refine oA.cons (by simp) (gC _) ?_ | refine oA.cons (by simp) (ef _) ?_))
 (hs:Nat.beq (ah.size α) 0=false:=by rfl) (tu:Nat.ble (n * ah.size α) 16777216=true:=by rfl) (aO:Nat.blt bf c.n=true:=by rfl):
 ae c ops Q (⟨some bf,.buildSlice t n bC.toArray,ty,pos,af,none⟩::rest) E L:= .v (jf hu eZ hl hs tu bb) rfl rfl aO k
inductive mZ (E:List (Nat×I)):List Nat→List (Nat×I)→Prop
 | nil:mZ E [] []
 | cons {t:Nat} {h0:List Nat} {τ:I} {xU:List (Nat×I)} :look E t=some τ→mZ E h0 xU→mZ E (t::h0) ((t,τ)::xU)
theorem mZ.le:∀ {h0:List Nat} {jY:List (Nat×I)},mZ E h0 jY→gM E jY
 | _,_,.nil=>.nil
 | _,_,.cons h k=>.same h k.le
theorem iA {code:Code}{jY:List (Nat×I)}(h0:List Nat)(k:ag c Q code jY L)(aB:mZ E h0 jY:=by repeat (first | exact mZ.nil | (apply mZ.cons;rfl))):ag c Q code E L:= .le aB.le k
theorem jt {z:Exit}{jY:List (Nat×I)}(h0:List Nat)(k:aa c Q z jY L)(aB:mZ E h0 jY:=by repeat (first | exact mZ.nil | (apply mZ.cons;rfl))):aa c Q z E L:= .le aB.le k
theorem c0 {z:Exit}{E':List (Nat×I)}{L':List aN}(n:Nat)(k:aa c Q z E' L')(ak:L.drop n=L':=by rfl)(h:gM E E':=by repeat (first | exact gM.nil | refine gM.same rfl ?_)):aa c Q z E L:= .meet n ak h k
theorem fA {σ ε γ δ:Type}{E':σ→γ→List (Nat×I)}{L':σ→γ→List aN}{xs:ε→Exit}{gY:ε→δ→List (Nat×I)}{Lx:ε→δ→List aN}{s:σ}(g:γ)(n:Nat)(ak:L.drop n=L' s g:=by rfl)
 (h:gM E (E' s g):=by repeat (first | exact gM.nil | refine gM.same rfl ?_)):aa c (zZ c E' L' xs gY Lx (.inl s)) .normal E L:= .aaB g n ak h
theorem dO {σ ε γ δ:Type}{E':σ→γ→List (Nat×I)}{L':σ→γ→List aN}{xs:ε→Exit}{gY:ε→δ→List (Nat×I)}{Lx:ε→δ→List aN}{e:ε}{z:Exit}(g:δ)(n:Nat)(ao:z=xs e:=by rfl)(aO:z≠ .normal:=by simp)(ak:L.drop n=Lx e g:=by rfl)
 (h:gM E (gY e g):=by repeat (first | exact gM.nil | refine gM.same rfl ?_)):aa c (zZ c E' L' xs gY Lx (.inr e)) z E L:= .aaC g n ao aO ak h
theorem hD {t:Nat}{p:Nat}{α:Type}[ah α]{v:α}(i:Nat)(eD:bG c.P ty α)(h:look E t=some (.eq (.pointer (some ⟨p,0,none⟩))):=by rfl)(ak:L[i]? =some ⟨some p,.var v⟩:=by rfl):tI c E L (.cell t ty) (.of v):=ae0 eD h ak
theorem cJ {fn:Func}{t:Nat}{τ:I}(aR:fn.results= #[.tmp t]:=by rfl)(h:look E t=some τ:=by rfl)(gT:c.ds= []:=by rfl):aa c (bodyPost c.P fn (zI c τ)) .ret E L:= .ji aR (uW h) gT
theorem TE {fn:Func}{t u:Nat}{τ oR:I}(aR:fn.results= #[.tmp t,.tmp u]:=by rfl)(h:look E t=some τ:=by rfl)(ad:look E u=some oR:=by rfl)(gT:c.ds= []:=by rfl):aa c (bodyPost c.P fn (zI c (.eu [τ,oR]))) .ret E L:= .Dn aR (uW h) (uW ad) gT
theorem lS {fn:Func}{t:Nat}{τ:I}{δ:Type}{ρ:δ→I}{Lo:δ→List aN}(bf:δ)(hs:(Lo bf).Sublist L:=by repeat (first | exact List.nil_sublist _ | refine List.Sublist.cons_cons _ ?_))(aR:fn.results= #[.tmp t]:=by rfl)(h:look E t=some τ:=by rfl)(tw:ρ bf=τ:=by rfl)(gT:c.ds= []:=by rfl):
 aa c (bodyPost c.P fn (kG c.X c.b8 c.jx ρ Lo)) .ret E L:= .fI bf hs aR tw (dL h) gT
def p7:List aN→List (Nat×aN)→List aN
 | L,[]=>L
 | L,(i,e)::r=>p7 (L.set i e) r
inductive rl:List aN→List aN→Prop
 | nil:rl [] []
 | cons {e:aN} {r s:List aN} :rl r s→rl (e::r) (e::s)
theorem rl.eq:∀ {l m:List aN},rl l m→l=m
 | _,_,.nil=>rfl
 | _,_,.cons h=>by rw [h.eq]
theorem gh {σ ε γ δ:Type}{body:Code}{N:Nat}{b:σ→Option (σ ⊕ ε)}{cF:σ}{e:ε}{jY:List (Nat×I)}{hJ:List aN}(al:ey N b cF=some e)(h0:List Nat)(u:σ→γ→List (Nat×I))(ul:σ→γ→List (Nat×aN))(xs:ε→Exit)
 (MV:ε→δ→List (Nat×I)) (LV:ε→δ→List (Nat×aN)) (g0:γ)
 (w0:∀ s r,b s=some r→ ∀ g,ag c (zZ c (fun s g=>u s g++jY) (fun s g=>p7 hJ (ul s g)) xs (fun e d=>MV e d++jY) (fun e d=>p7 hJ (LV e d)) r) body (u s g++jY) (p7 hJ (ul s g)))
 (qA:∀ g,aa c Q (xs e) (MV e g++jY) (p7 hJ (LV e g)))
 (xx:rl L hJ:=by repeat (first | exact rl.nil | apply rl.cons))
 (af9:mZ E h0 jY:=by repeat (first | exact mZ.nil | (apply mZ.cons;rfl))) (aB:gM E (u cF g0++jY):=by repeat (first | exact gM.nil | refine gM.same rfl ?_)) (ak:hJ=p7 hJ (ul cF g0):=by rfl):ag c Q (.loop body) E L:=
 ag.zj al (fun s g=>u s g++jY) (fun s g=>p7 hJ (ul s g)) xs (fun e d=>MV e d++jY) (fun e d=>p7 hJ (LV e d)) g0 (xx.eq.trans ak) aB w0 qA
theorem iz {γ:Type}{b:Bool}{y z:Code}{jY:List (Nat×I)}{hJ:List aN}(h0:List Nat)(u:γ→List (Nat×I))(ul:γ→List (Nat×aN))(vD:∀ g,aa c Q .normal (u g++jY) (p7 hJ (ul g)))
 (bP:(∀ g,aa c Q .normal (u g++jY) (p7 hJ (ul g)))→b=true→ag c Q y E hJ) (bb:(∀ g,aa c Q .normal (u g++jY) (p7 hJ (ul g)))→b=false→ag c Q z E hJ)
 (xx:rl L hJ:=by repeat (first | exact rl.nil | apply rl.cons))
 (af9:mZ E h0 jY:=by repeat (first | exact mZ.nil | (apply mZ.cons;rfl))) (al:bg c E hJ x (.of b):=by first | exact ab rfl | exact gC _):ag c Q (.cond x y z) E L:=by
 cases xx.eq
 exact ag.cH (fun g=>u g++jY) (fun g=>p7 L (ul g)) al vD bP bb
section
variable {all:List fj} {w:Nat→Bool}
theorem ec {τ:I}{hyp:List aN→Prop}(h:∀ L',hyp L'→cf c E L' o τ)(bH:o.guard=none:=by rfl):∀ L',hyp L'→l4 c ops E L' o τ:=fun L' ak=>.v (h L' ak) bH
theorem c7 {τ:I}{hyp:List aN→Prop}(ao:∀ L',bg c E L' x τ:=by first | exact fun _=>ab rfl | exact fun _=>bX _ | exact fun _=>gC _ | exact fun _=>ef _):∀ L',hyp L'→l4 c ops E L' ⟨some bf,.move x,ty,pos,af,none⟩ τ:=fun L' _=>.v (cG (ao L')) rfl
theorem xR {τ:I}{hyp:List aN→Prop}(ao:∀ L',bg c E L' x τ:=by first | exact fun _=>ab rfl | exact fun _=>bX _ | exact fun _=>gC _ | exact fun _=>ef _):∀ L',hyp L'→l4 c ops E L' ⟨some bf,.assign x,ty,pos,af,none⟩ τ:=fun L' _=>.v (e2 (ao L')) rfl
theorem H1 {σ τ:I}{hyp:List aN→Prop}(h:∀ {L'},bg c E L' x σ→cf c E L' o τ)(bH:o.guard=none:=by rfl)(ao:∀ L',bg c E L' x σ:=by first | exact fun _=>ab rfl | exact fun _=>bX _ | exact fun _=>gC _ | exact fun _=>ef _):
 ∀ L',hyp L'→l4 c ops E L' o τ:=fun L' _=>.v (h (ao L')) bH
theorem jb {σ q3 τ:I}{hyp:List aN→Prop}(h:∀ {L'},bg c E L' x σ→bg c E L' y q3→cf c E L' o τ)(bH:o.guard=none:=by rfl)(ao:∀ L',bg c E L' x σ:=by first | exact fun _=>ab rfl | exact fun _=>bX _ | exact fun _=>gC _ | exact fun _=>ef _)
 (a7:∀ L',bg c E L' y q3:=by first | exact fun _=>ab rfl | exact fun _=>bX _ | exact fun _=>gC _ | exact fun _=>ef _):∀ L',hyp L'→l4 c ops E L' o τ:=fun L' _=>.v (h (ao L') (a7 L')) bH
theorem du {p o:Nat}{β γ:Type}[ah β][ah γ]{b:β}(i:Nat)(l:aI β γ)(eD:bG c.P t γ)(ao:∀ L',bg c E L' x (.eq (.pointer (some ⟨p,o,none⟩))):=by exact fun _=>ab rfl)(ak:L[i]? =some ⟨some p,.var b⟩:=by rfl)(bk:o=l.off:=by rfl)
 (hu:p2 w i 0 all=true:=by first | rfl | kernel_rfl):∀ L':List aN,(∀ (j:Nat) (e:aN),L[j]? =some e→p2 w j 0 all=true→L'[j]? =some e)→l4 c ops E L' ⟨some bf,.load t x,ty,pos,af,none⟩ (.of (l.get b)):=
 fun L' r3=>.v (dz l eD (ao L') (r3 _ _ ak hu) bk rfl) rfl
theorem e3 {p:Nat}{β:Type}[ah β]{b:β}(i:Nat)(eD:bG c.P t β)(ao:∀ L',bg c E L' x (.eq (.pointer (some ⟨p,0,none⟩))):=by exact fun _=>ab rfl)(ak:L[i]? =some ⟨some p,.var b⟩:=by rfl)
 (hu:p2 w i 0 all=true:=by first | rfl | kernel_rfl):∀ L':List aN,(∀ (j:Nat) (e:aN),L[j]? =some e→p2 w j 0 all=true→L'[j]? =some e)→l4 c ops E L' ⟨some bf,.load t x,ty,pos,af,none⟩ (.of b):=
 fun L' r3=>.v (dz (aI.id β) eD (ao L') (r3 _ _ ak hu) rfl rfl) rfl
theorem eP {f:FuncId}{xs:List Operand}{ats:Array TypeId}{τs:List I}{ρ:I}{hyp:List aN→Prop}(ew:bL c.P f)(h:bK c.P f τs ρ)
 (ao:∀ L',ik c E L' xs τs:=by intro L';repeat (first | exact trivial | refine⟨ab rfl,?_⟩ | refine⟨bX _,?_⟩ | refine⟨gC _,?_⟩ | refine⟨look_nil,?_⟩ | refine⟨ef _,?_⟩)):
 ∀ L',hyp L'→l4 c ops E L' ⟨some bf,.call ⟨.value (.func f),xs.toArray,ats⟩,ty,pos,af,none⟩ ρ:=fun L' _=>.v (iN ew h (ao L')) rfl
theorem mn {α:Type}[ah α][Inhabited α]{xs:List α}{e:TypeId}{i:Int}{j:Nat}{hyp:List aN→Prop}(hk:idx xs.length i=some j)(hu:c.P.underlying t=some (.slice e))(eZ:bG c.P e α)
 (ao:∀ L',bg c E L' x (.of xs):=by exact fun _=>ab rfl) (a7:∀ L',bg c E L' y (.of i):=by first | exact fun _=>ab rfl | exact fun _=>bX _):
 ∀ L',hyp L'→l4 c ops E L' ⟨some bf,.indexAddr t x y,ty,pos,af,none⟩ (.ptr (ay xs j)):=fun L' _=>.v (qD hu eZ (ao L') (a7 L') (cY hk)) rfl
theorem vb {s f o:Nat}{β γ:Type}[ah β][ah γ]{b:β}{hyp:List aN→Prop}(l:aI β γ)(fd:cE c.P s f o)(ao:∀ L',bg c E L' x (.ptr b):=by exact fun _=>ab rfl)(bk:l.off=o:=by rfl):
 ∀ L',hyp L'→l4 c ops E L' ⟨some bf,.fieldAddr s x f,ty,pos,af,none⟩ (.ptr (l.get b)):=fun L' _=>.v (CI l fd (ao L') bk rfl) rfl
theorem tE {α:Type}[ah α]{a b:α}{hyp:List aN→Prop}(e:some a=some b)(h:∀ L',hyp L'→cf c E L' o (.of a))(bH:o.guard=none:=by rfl):∀ L',hyp L'→l4 c ops E L' o (.of b):=fun L' ak=>.v ((h L' ak).hG (dA e)) bH
theorem vc {i:Nat}{τs:List I}{τ:I}{hyp:List aN→Prop}(ao:∀ L',bg c E L' x (.eu τs):=by exact fun _=>ab rfl)(ar:τs[i]? =some τ:=by rfl):∀ L',hyp L'→l4 c ops E L' ⟨some bf,.extract x i,ty,pos,af,none⟩ τ:=fun L' _=>.v (lN (ao L') ar) rfl
theorem eT {τ:I}{j g:Nat}{b want:Bool}{hyp:List aN→Prop}(h:∀ L',hyp L'→b=want→cf c E L' o τ)(bH:o.guard=some (j,want):=by rfl)(aF:(ops[j]?).bind (·.dst)=some g:=by rfl)(al:look E g=some (.of b):=by rfl):
 ∀ L',hyp L'→l4 c ops E L' o (.cond (b=want) τ):=fun L' ak=>.g (h L' ak) bH aF al
end
def a8 (s:Nat)(up rd:List Nat)(τ:I):eQ:=⟨some s,up,rd,[],fun _=>τ,fun _ _=>⟨none,.dead⟩⟩
section
variable {hs:List eQ} {i:Nat} {up rd:List Nat}
theorem e4 {τ:I}(ao:∀ (hd:Nat→Hid) (E':List (Nat×I)) (L':List aN),(∀ t τ,look (nv hd hs E up) t=some τ→look E' t=some τ)→bg c E' L' x τ:=by first | exact fun _ _ _ aB=>ab (aB _ _ rfl) | exact fun _ _ _ _=>bX _ | exact fun _ _ _ _=>gC _ | exact fun _ _ _ _=>ef _)
 (aO:Nat.blt bf c.n=true:=by rfl):cv c ops Q hs E L i ⟨some bf,.move x,ty,pos,af,none⟩ (a8 bf up rd τ):=iW rfl rfl aO fun hd E' L' aB _=>cG (ao hd E' L' aB)
theorem eN {σ τ:I}(h:∀ {E' L'},bg c E' L' x σ→cf c E' L' o τ)(bH:o.guard=none:=by rfl)(hd:o.dst=some bf:=by rfl)
 (ao:∀ (hd:Nat→Hid) (E':List (Nat×I)) (L':List aN),(∀ t τ,look (nv hd hs E up) t=some τ→look E' t=some τ)→bg c E' L' x σ:=by first | exact fun _ _ _ aB=>ab (aB _ _ rfl) | exact fun _ _ _ _=>bX _ | exact fun _ _ _ _=>gC _ | exact fun _ _ _ _=>ef _)
 (aO:Nat.blt bf c.n=true:=by rfl):cv c ops Q hs E L i o (a8 bf up rd τ):=iW bH hd aO fun hd E' L' aB _=>h (ao hd E' L' aB)
theorem xS {σ q3 τ:I}(h:∀ {E' L'},bg c E' L' x σ→bg c E' L' y q3→cf c E' L' o τ)(bH:o.guard=none:=by rfl)(hd:o.dst=some bf:=by rfl)
 (ao:∀ (hd:Nat→Hid) (E':List (Nat×I)) (L':List aN),(∀ t τ,look (nv hd hs E up) t=some τ→look E' t=some τ)→bg c E' L' x σ:=by first | exact fun _ _ _ aB=>ab (aB _ _ rfl) | exact fun _ _ _ _=>bX _ | exact fun _ _ _ _=>gC _ | exact fun _ _ _ _=>ef _)
 (a7:∀ (hd:Nat→Hid) (E':List (Nat×I)) (L':List aN),(∀ t τ,look (nv hd hs E up) t=some τ→look E' t=some τ)→bg c E' L' y q3:=by first | exact fun _ _ _ aB=>ab (aB _ _ rfl) | exact fun _ _ _ _=>bX _ | exact fun _ _ _ _=>gC _ | exact fun _ _ _ _=>ef _)
 (aO:Nat.blt bf c.n=true:=by rfl):cv c ops Q hs E L i o (a8 bf up rd τ):=iW bH hd aO fun hd E' L' aB _=>h (ao hd E' L' aB) (a7 hd E' L' aB)
theorem mP {p o:Nat}{β γ:Type}[ah β][ah γ]{b:β}(k:Nat)(l:aI β γ)(eD:bG c.P t γ)
 (ao:∀ (hd:Nat→Hid) (E':List (Nat×I)) (L':List aN),(∀ t τ,look (nv hd hs E up) t=some τ→look E' t=some τ)→bg c E' L' x (.eq (.pointer (some ⟨p,o,none⟩))):=by exact fun _ _ _ aB=>ab (aB _ _ rfl))
 (ak:∀ hd:Nat→Hid,(jo (fun _=>true) hd 0 (hs.take i) L)[k]? =some ⟨some p,.var b⟩:=by exact fun _=>rfl) (aR:rd.contains k=true:=by rfl) (bk:o=l.off:=by rfl)
 (aO:Nat.blt bf c.n=true:=by rfl):cv c ops Q hs E L i ⟨some bf,.load t x,ty,pos,af,none⟩ (a8 bf up rd (.of (l.get b))):=iW rfl rfl aO fun hd E' L' aB r3=>dz l eD (ao hd E' L' aB) (r3 _ _ (ak hd) aR) bk rfl
theorem kM {p:Nat}{β:Type}[ah β]{b:β}(k:Nat)(eD:bG c.P t β)
 (ao:∀ (hd:Nat→Hid) (E':List (Nat×I)) (L':List aN),(∀ t τ,look (nv hd hs E up) t=some τ→look E' t=some τ)→bg c E' L' x (.eq (.pointer (some ⟨p,0,none⟩))):=by exact fun _ _ _ aB=>ab (aB _ _ rfl))
 (ak:∀ hd:Nat→Hid,(jo (fun _=>true) hd 0 (hs.take i) L)[k]? =some ⟨some p,.var b⟩:=by exact fun _=>rfl) (aR:rd.contains k=true:=by rfl)
 (aO:Nat.blt bf c.n=true:=by rfl):cv c ops Q hs E L i ⟨some bf,.load t x,ty,pos,af,none⟩ (a8 bf up rd (.of b)):=iW rfl rfl aO fun hd E' L' aB r3=>dz (aI.id β) eD (ao hd E' L' aB) (r3 _ _ (ak hd) aR) rfl rfl
theorem cD {τ:I}(h:∀ (hd:Nat→Hid) (E':List (Nat×I)) (L':List aN),(∀ t τ,look (nv hd hs E up) t=some τ→look E' t=some τ)→ (∀ j e,(jo (fun _=>true) hd 0 (hs.take i) L)[j]? =some e→rd.contains j=true→L'[j]? =some e)→cf c E' L' o τ)
 (bH:o.guard=none:=by rfl) (hd:o.dst=some bf:=by rfl) (aO:Nat.blt bf c.n=true:=by rfl):cv c ops Q hs E L i o (a8 bf up rd τ):=iW bH hd aO h
end
end
theorem FL {F:Fence}{n tM:Nat}{P:Program}{code:Code}{Q:Exit→Act→World→Prop}{a:Act}{W:World}(hd:F.depth=none)(h:code.wpIn F n P Q a W):code.wpIn F tM P Q a W:=
 fun b k cs zU hb _=>h b k cs zU hb (fun d hd'=>by rw [hd] at hd';cases hd')
def dV.is (o:Obj):dV where
 holds _ _ x:=x=o
 ni:=False
 mono _ h:=h
abbrev dV.dE:dV:= .is (.deferred (some []))
def I.ln (f:FuncId)(τs:List I):I where
 holds A W v:= ∃ iH:List Value,v= .func (.func f) #[] iH.toArray∧hc A W τs iH
 mono e h:=let⟨iH,h1,ad⟩:=h; ⟨iH,h1,ad.mono e⟩
theorem bM.qL {c E L a W}(h:bM c E L a W){i p:Nat}{cp cp':dV}(ar:L[i]? =some ⟨some p,cp⟩){o':Obj}(aj:cp'.holds (aS L++c.b8) W o'):
 bM c E (L.set i ⟨some p,cp'⟩) a (W.putObj p o'):=by
 have gy:aS (L.set i ⟨some p,cp'⟩)=aS L:=y7 (cp:=cp') ar
 have hp:p∈aS L:=lM.2 ⟨_,List.mem_of_getElem? ar,rfl⟩
 have gR:Ext (aS L++c.b8) W (aS L++c.b8) (W.putObj p o'):=
  ⟨by simp,fun k _ bo=>World.putObj_heap_other (fun e=>bo (e ▸ List.mem_append.2 (.inl hp))),fun _ h _=>h⟩
 exact
 {defers:=h.defers
  size:=h.size
  env:=fun t τ al=>by rw [gy];exact let⟨v,h1,ad⟩:=h.env t τ al; ⟨v,h1,τ.mono gR ad⟩
  dR:=⟨h.dR.os,h.dR.tape,h.dR.output,h.dR.drawn,by simpa using h.dR.size,fun k hk ao=>by
   rw [World.putObj_heap_other (fun e:k=p=>ao (by subst e;exact h.gw _ hp hk))];exact h.dR.block k hk ao⟩
  own:=fun e he=>by
   rw [gy];obtain⟨j,aF⟩:=List.mem_iff_getElem?.1 he;rw [List.getElem?_set] at aF;split at aF
   ·rename_i gd;subst gd;split at aF
    ·simp only [Option.some.injEq] at aF;subst aF;exact⟨_,World.putObj_heap_same (h.lt p hp),cp'.mono gR aj⟩
    cases aF
   rename_i gd;have h1:=h.own e (List.mem_of_getElem? aF);unfold aN.ok at *;split at h1
   ·rename_i q hq;obtain⟨o',qV,cu⟩:=h1;have da:q≠p:=fun e'=>gd (J1 h.nodup ar aF rfl (e' ▸ hq));exact⟨o',by rw [World.putObj_heap_other da];exact qV,dV.mono _ gR cu⟩
   exact h1
  nodup:=by rw [gy];exact h.nodup
  lt:=by rw [gy];simpa using h.lt
  gw:=by rw [gy];exact h.gw
  fb:=by rw [gy];simpa using h.fb }
theorem Rn {c:dt}{E:List (Nat×I)}{L:List aN}{d:Option Tmp}{ty:TypeId}{pos:String}{af:Array Edge}{g:Option (Nat×Bool)}{f:FuncId}{xs:List Operand}{τs:List I}(ao:ik c E L xs τs):
 cf c E L ⟨d,.makeFunc (.func f) #[] xs.toArray,ty,pos,af,g⟩ (.ln f τs):= .pure fun a W s=>
 ⟨.func (.func f) #[] (xs.map a.eval).toArray,by simp [execOp,Instr.makeFunc],_,rfl,ao.holds a W s⟩
structure zL (A:List Nat)(W:World)(L:List aN):Prop where
 fb:∀ k∈A,k<W.heap.size∧k ∉ aS L
 nodup:(aS L).Nodup
 lt:∀ k∈aS L,k<W.heap.size
 ok:∀ e∈L,e.ok (aS L++A) W
def xB (P:Program)(u:Value){α σ ε γ:Type}(τ:α→I)(Ls:σ→γ→List aN)(Lx:ε→γ→List aN)(step:α→σ→Option (σ ⊕ ε))(R:List Nat→World→Prop):Prop:=
 ∃ l,u= .func (.yield l) #[] #[]∧ ∀ x s r,step x s=some r→ ∀ g A W v,R (aS (Ls s g)++A) W→zL A W (Ls s g)→ (τ x).holds (aS (Ls s g)++A) W v→
   YieldAt Fence.wide 8 P l #[v] W (match r with
    | .inl cw=>kG (aS (Ls s g)) A W (fun _:γ=>I.of true) (fun g=>Ls cw g)
    | .inr q=>kG (aS (Ls s g)) A W (fun _:γ=>I.of false) (fun g=>Lx q g))
def Lr {σ ε γ:Type}(Ls:σ→γ→List aN)(Lx:ε→γ→List aN):σ ⊕ ε→γ→List aN
 | .inl s,g=>Ls s g
 | .inr q,g=>Lx q g
structure Cc (P:Program)(f:FuncId)(τs:List I)(Lin:List aN){α:Type}(τ:α→I)(run:∀ {σ ε:Type},(α→σ→Option (σ ⊕ ε))→σ→Option (σ ⊕ ε)):Prop where
 go:∀ {σ ε γ:Type} (Ls:σ→γ→List aN) (Lx:ε→γ→List aN) (step:α→σ→Option (σ ⊕ ε)) (cF:σ) (g0:γ) (r:σ ⊕ ε),run step cF=some r→
  ∀ (A:List Nat) (W:World) (u:Value) (vs:List Value),zL A W (Lin++Ls cF g0)→hc (aS (Lin++Ls cF g0)++A) W τs vs→
    xB P u τ Ls Lx step (fun c8 W'=>Ext (aS (Lin++Ls cF g0)++A) W c8 W')→
    Calls P f (u::vs).toArray W (kG (aS (Lin++Ls cF g0)) A W (fun _:γ=>.eu []) (fun g=>Lin++Lr Ls Lx r g))
theorem Cc.of {P:Program}{f:FuncId}{fn:Func}{code:Code}{n:Nat}{τs:List I}{Lin:List aN}{α:Type}{τ:α→I}{run:∀ {σ ε:Type},(α→σ→Option (σ ⊕ ε))→σ→Option (σ ⊕ ε)}
 (bb:P.funcs[f]? =some fn) (hb:fn.body=some code) (aO:fn.ntmps=n) (hlen:Nat.ble (τs.length+1) n=true)
 (h:∀ {σ ε γ:Type} (Ls:σ→γ→List aN) (Lx:ε→γ→List aN) (step:α→σ→Option (σ ⊕ ε)) (cF:σ) (g0:γ) (r:σ ⊕ ε),run step cF=some r→
  ∀ W A u,xB P u τ Ls Lx step (fun c8 W'=>Ext (aS (Lin++Ls cF g0)++A) W c8 W')→
    ag ⟨P,n,W,aS (Lin++Ls cF g0),A,none,[]⟩ (bodyPost P fn (kG (aS (Lin++Ls cF g0)) A W (fun _:γ=>.eu []) (fun g=>Lin++Lr Ls Lx r g))) code (params 0 (.eq u::τs)) (Lin++Ls cF g0)):Cc P f τs Lin τ run:=by
 refine⟨?_⟩
 intro σ ε γ Ls Lx step cF g0 r aR A W u vs al a6 a7
 refine calls_of_wp bb hb (wpIn_wide.1 (h Ls Lx step cF g0 r aR W A u a7 _ _ ?_))
 have nx:hc (aS (Lin++Ls cF g0)++A) W (.eq u::τs) (u::vs):= .cons rfl a6
 have iB:=nx.length
 have hle:τs.length+1≤n:=Nat.le_of_ble_eq_true hlen
 exact
 {defers:=rfl
  size:=by simp at iB;simp [aO,iB];omega
  env:=fun t τ ft=>by
   obtain⟨_,v,ad,aD⟩:=wa nx 0 t τ ft;refine⟨v,?_,aD⟩;have ct:t<(u::vs).length:=(List.getElem?_eq_some_iff.1 ad).1;rw [Array.getElem?_append_left (by simpa using ct)];simpa using ad
  dR:= .refl _ _
  own:=al.ok
  nodup:=al.nodup
  lt:=al.lt
  gw:=fun k hk _=>hk
  fb:=al.fb }
section
variable {c:dt} {E:List (Nat×I)} {L:List aN} {ops:Array Oper} {Q:Exit→Act→World→Prop}
variable {d:Option Tmp} {ty:TypeId} {pos:String} {af:Array Edge} {g:Option (Nat×Bool)} {x y:Operand} {t t2:TypeId}
theorem bM.SC {a:Act}{W:World}(s:bM c E L a W):Ext (c.X++c.b8) c.jx (aS L++c.b8) W:=
 ⟨s.dR.size,fun k hk bo=>s.dR.block k hk fun ao=>bo (List.mem_append.2 (.inl ao)),fun k hm ct=>by
   rcases List.mem_append.1 hm with hm | hm
   ·exact List.mem_append.2 (.inl (s.gw k hm ct))
   exact List.mem_append.2 (.inr hm)⟩
theorem bM.G2 {a:Act}{W:World}{Lin Lr:List aN}(s:bM c E (Lin++Lr) a W):zL (aS Lr++c.b8) W Lin:=by
 have mN:=s.nodup;rw [e5] at mN;obtain⟨n9,px,q1⟩:=List.nodup_append.1 mN;exact
 {fb:=fun k hm=>by
   rcases List.mem_append.1 hm with hm | hm
   ·exact⟨s.lt k (by rw [e5];exact List.mem_append.2 (.inr hm)),fun h=>q1 k h k hm rfl⟩
   obtain⟨h1,ad⟩:=s.fb k hm;exact⟨h1,fun h=>ad (by rw [e5];exact List.mem_append.2 (.inl h))⟩
  nodup:=n9
  lt:=fun k hm=>s.lt k (by rw [e5];exact List.mem_append.2 (.inl hm))
  ok:=fun e he=>aN.uo (s.own e (List.mem_append.2 (.inl he))) (.drop fun k hm=>by
   rw [e5];simp only [List.mem_append] at hm ⊢;rcases hm with hm | hm | hm
   ·exact .inl (.inl hm)
   ·exact .inl (.inr hm)
   exact .inr hm) fun _ _=>rfl }
theorem B1 {Lin Lr:List aN}{A:List Nat}{W:World} :Ext (aS (Lin++Lr)++A) W (aS Lin++(aS Lr++A)) W:= .drop fun k hm=>by
 rw [e5];simp only [List.mem_append] at hm ⊢;rcases hm with hm | hm | hm
 ·exact .inl (.inl hm)
 ·exact .inl (.inr hm)
 exact .inr hm
theorem Jf {Lin Lr:List aN}{A:List Nat}{W:World} :Ext (aS Lin++(aS Lr++A)) W (aS (Lin++Lr)++A) W:= .drop fun k hm=>by
 rw [e5] at hm;simp only [List.mem_append] at hm ⊢;rcases hm with(hm | hm) | hm
 ·exact .inl hm
 ·exact .inr (.inl hm)
 exact .inr (.inr hm)
theorem ae.yield {rest:List Oper}{bf lE:Nat}{ats:Array TypeId}{u:Value}{α σ ε γ:Type}{τ:α→I}{Ls:σ→γ→List aN}{Lx:ε→γ→List aN}{step:α→σ→Option (σ ⊕ ε)}{Lin:List aN}{x:Operand}{v:α}{s:σ}{gg:γ}{r:σ ⊕ ε}
 (aj:c.rd=none) (a7:xB c.P u τ Ls Lx step (fun c8 W'=>Ext (c.X++c.b8) c.jx c8 W')) (bb:look E lE=some (.eq u)) (ao:bg c E (Lin++Ls s gg) x (τ v)) (aR:step v s=some r) (aO:Nat.blt bf c.n=true)
 (aJ:∀ cw,r= .inl cw→ ∀ eW,ae c ops Q rest ((bf,.of true)::E) (Lin++Ls cw eW)) (bT:∀ q,r= .inr q→ ∀ eW,ae c ops Q rest ((bf,.of false)::E) (Lin++Lx q eW)):
 ae c ops Q (⟨some bf,.call ⟨.value (.tmp lE),#[x],ats⟩,ty,pos,af,none⟩::rest) E (Lin++Ls s gg):=fun a W st=>by
 obtain⟨l,rfl,a7⟩:=a7
 obtain⟨MW,h1,ad⟩:=st.env lE _ bb
 have hu:MW= .func (.yield l) #[] #[]:=ad
 subst hu
 have pz:bM c E (Ls s gg++Lin) a W:=st.perm List.perm_append_comm
 have a6:=ao a W st
 have nx:(τ v).holds (aS (Ls s gg)++(aS Lin++c.b8)) W (a.eval x):=(τ v).mono (.drop fun k hm=>by
  rw [e5];simp only [List.mem_append] at hm ⊢;rcases hm with hm | hm | hm
  ·exact .inl (.inr hm)
  ·exact .inl (.inl hm)
  exact .inr hm) a6
 obtain⟨fn,tmps,assign,body,iP,jZ⟩:=a7 v s r aR gg (aS Lin++c.b8) W (a.eval x) (pz.SC.trans B1) pz.G2 nx
 have KG:(execOp a.eval ⟨some bf,.call ⟨.value (.tmp lE),#[x],ats⟩,ty,pos,af,none⟩).run c.P W= .ok (.round l fn tmps assign body) W:=by
  rw [← iP];simp [execOp,resolve,Deferred.ofValue,Act.eval,h1,invoke,Sem.run_bind,Sem.run_pure,Result.andThen]
 refine wpListIn_plain rfl fun K tH=>?_
 refine⟨fun _ _=>trivial,?_⟩
 rw [Oper.semAt_eq _ _ _ (fun _ h=>by cases h),KG,Oper.uponIn_round]
 refine⟨fun h=>by simp at h,?_⟩
 have LW:RoundIn c.F (9 - 1) c.P l fn tmps assign body W _:=jZ
 refine LW.mono fun e W' he=>?_
 cases r with
 | inl cw=>
   obtain⟨w,eW,rfl,q4,aD,aZ,bc,bu⟩:=he
   obtain rfl:=of_bool.1 bu
   refine tH _ _ (aJ cw rfl eW _ _ ?_)
   exact(((pz.after q4 aD aZ bc).perm List.perm_append_comm).put (by simpa using aO) (of_bool.2 rfl))
 | inr q=>
   obtain⟨w,eW,rfl,q4,aD,aZ,bc,bu⟩:=he
   obtain rfl:=of_bool.1 bu
   refine tH _ _ (bT q rfl eW _ _ ?_)
   exact(((pz.after q4 aD aZ bc).perm List.perm_append_comm).put (by simpa using aO) (of_bool.2 rfl))
theorem ae.aao {rest:List Oper}{bf lE j gt:Nat}{b:Bool}{ats:Array TypeId}{u:Value}{α σ ε γ:Type}{τ:α→I}{Ls:σ→γ→List aN}{Lx:ε→γ→List aN}{step:α→σ→Option (σ ⊕ ε)}{Lin:List aN}{x:Operand}{v:α}{s:σ}{gg:γ}{r:σ ⊕ ε}
 (aj:c.rd=none) (a7:xB c.P u τ Ls Lx step (fun c8 W'=>Ext (c.X++c.b8) c.jx c8 W')) (hb:b=true) (aF:(ops[j]?).bind (·.dst)=some gt) (al:look E gt=some (.of b)) (bb:look E lE=some (.cond (b=true) (.eq u))) (ao:bg c E (Lin++Ls s gg) x (τ v)) (aR:step v s=some r) (aO:Nat.blt bf c.n=true)
 (aJ:∀ cw,r= .inl cw→ ∀ eW,ae c ops Q rest ((bf,.cond (b=true) (.of true))::E) (Lin++Ls cw eW)) (bT:∀ q,r= .inr q→ ∀ eW,ae c ops Q rest ((bf,.cond (b=true) (.of false))::E) (Lin++Lx q eW)):
 ae c ops Q (⟨some bf,.call ⟨.value (.tmp lE),#[x],ats⟩,ty,pos,af,some (j,true)⟩::rest) E (Lin++Ls s gg):=fun a W st=>by
 have aB:look ((lE,.eq u)::E) lE=some (.eq u):=by simp [look,Nat.beq_refl]
 have LX:bM c ((lE,.eq u)::E) (Lin++Ls s gg) a W:=st.less fun t nu h=>by
  simp only [look] at h;by_cases e:Nat.beq lE t=true
  ·rw [e] at h;simp only [cond_true,Option.some.injEq] at h;subst h;rw [← eH.1 e];exact⟨_,bb,fun A W v a6=>a6.1 hb⟩
  simp only [Bool.not_eq_true] at e;rw [e] at h;exact⟨_,h,fun _ _ _ h=>h⟩
 have key:=ae.yield (c:=c) (ops:=ops) (Q:=Q) (E:=(lE,.eq u)::E) (rest:=rest) (ty:=ty) (pos:=pos) (af:=af) (ats:=ats) aj a7 aB (fun a W s=>ao a W (s.less fun t nu h=>by
  by_cases e:Nat.beq lE t=true
  ·have:=eH.1 e;subst this;rw [bb] at h;cases h;refine⟨_,aB,fun A W v a6=>⟨fun _=>a6,fun h=>absurd hb h⟩⟩
  ·simp only [Bool.not_eq_true] at e;exact⟨nu,by simp only [look];rw [e];exact h,fun _ _ _ h=>h⟩)) aR aO
  (fun cw e eW a W st=>aJ cw e eW a W (st.less fun t nu h=>by
   simp only [look] at h ⊢;by_cases e:Nat.beq bf t=true
   ·rw [e] at h ⊢;simp only [cond_true,Option.some.injEq] at h ⊢;exact⟨_,rfl,fun A W v a6=>by subst h;exact⟨fun _=>a6,fun h=>absurd hb h⟩⟩
   simp only [Bool.not_eq_true] at e;rw [e] at h ⊢;simp only [cond_false] at h ⊢;by_cases aX:Nat.beq lE t=true
   ·have:=eH.1 aX;subst this;rw [bb] at h;cases h;rw [aX];exact⟨_,rfl,fun A W v a6=>⟨fun _=>a6,fun h=>absurd hb h⟩⟩
   simp only [Bool.not_eq_true] at aX;rw [aX];exact⟨nu,h,fun _ _ _ h=>h⟩))
  (fun cw e eW a W st=>bT cw e eW a W (st.less fun t nu h=>by
   simp only [look] at h ⊢;by_cases e:Nat.beq bf t=true
   ·rw [e] at h ⊢;simp only [cond_true,Option.some.injEq] at h ⊢;exact⟨_,rfl,fun A W v a6=>by subst h;exact⟨fun _=>a6,fun h=>absurd hb h⟩⟩
   simp only [Bool.not_eq_true] at e;rw [e] at h ⊢;simp only [cond_false] at h ⊢;by_cases aX:Nat.beq lE t=true
   ·have:=eH.1 aX;subst this;rw [bb] at h;cases h;rw [aX];exact⟨_,rfl,fun A W v a6=>⟨fun _=>a6,fun h=>absurd hb h⟩⟩
   simp only [Bool.not_eq_true] at aX;rw [aX];exact⟨nu,h,fun _ _ _ h=>h⟩))
 have:=key a W LX
 unfold dt.qb wpListIn at this ⊢
 rw [if_pos (by simp [Region.wanted])] at this
 rw [if_pos (by simp [Region.wanted,yN aF al st,hb])]
 exact this
theorem ae.ei {l:List Oper}{L2:List aN}(h:L=L2)(k:ae c ops Q l E L2):ae c ops Q l E L:=by subst h;exact k
theorem ae.cases {l:List Oper}(b:Bool)(h1:b=true→ae c ops Q l E L)(ad:b=false→ae c ops Q l E L):ae c ops Q l E L:=by
 cases b
 ·exact ad rfl
 exact h1 rfl
theorem ae.abY {o:Oper}{rest:List Oper}{bf j gt:Nat}{b:Bool}(τ:I)(hb:b=false)(bH:o.guard=some (j,true))(hd:o.dst=some bf)(aF:(ops[j]?).bind (·.dst)=some gt)(al:look E gt=some (.of b))(aO:Nat.blt bf c.n=true)
 (k:ae c ops Q rest ((bf,.cond (b=true) τ)::E) L):ae c ops Q (o::rest) E L:=fun a W s=>by
 unfold dt.qb wpListIn
 rw [if_neg (by simp [Region.wanted,bH,yN aF al s,hb]),hd]
 exact⟨fun _ _=>trivial,k _ _ (s.put (by simpa using aO) ⟨fun h=>(by rw [hb] at h;cases h),fun _=>rfl⟩)⟩
theorem ag.Ks {x:Operand}{b:Bool}{y z:Code}(al:bg c E L x (.of b))(hb:b=true)(k:ag c Q y E L):ag c Q (.cond x y z) E L:= .cond al (fun _=>k) fun h=>by rw [hb] at h;cases h
theorem ag.uJ {x:Operand}{b:Bool}{y z:Code}(al:bg c E L x (.of b))(hb:b=false)(k:ag c Q z E L):ag c Q (.cond x y z) E L:= .cond al (fun h=>by rw [hb] at h;cases h) fun _=>k
def Cy:Code→Exit
 | .ret=>.ret
 | .exit id=>.exit id
 | .goto t=>.goto t
 | _=>.normal
def wI:Code→Bool
 | .ret | .exit _ | .goto _=>true
 | _=>false
def EA {σ ε γ:Type}(c:dt)(fu:ε→Code)(l D:Nat)(rec:Loop)(Ls:σ→γ→List aN)(Lx:ε→γ→List aN):σ ⊕ ε→Exit→Act→World→Prop
 | .inl cw,x,a,W=>x= .normal∧ ∃ g,bM c [] (⟨some l,.is (.loop rec)⟩::⟨some D,.dE⟩::Ls cw g) a W
 | .inr q,x,a,W=>wI (fu q)=true∧x=Cy (fu q)∧ ∃ g,bM c [] (⟨some l,.is (.loop rec)⟩::⟨some D,.dE⟩::Lx q g) a W
def EB (c:dt)(l:Nat)(body:Code)(Q:Exit→Act→World→Prop)(a:Act)(W:World):Prop:=
 ∃ oZ,(Instr.beginRound l).run c.P W= .ok () oZ∧c.wp body Q a oZ
theorem aa.begin {l:Nat}{body:Code}{tG:Exit→Act→World→Prop}(i:Nat){r:Loop}(ak:L[i]? =some ⟨some l,.is (.loop r)⟩)(aR:r.state= .ready)
 (k:ag c Q body E (L.set i ⟨some l,.is (.loop { r with state:= .busy })⟩)):aa c (Exit.then (EB c l body Q) tG) .normal E L:=fun a W s=>by
 obtain⟨o,h1,ad⟩:=s.own _ (List.mem_of_getElem? ak)
 have lz:o= .loop r:=ad
 subst lz
 exact⟨_,run_beginRound h1 aR,k _ _ (s.qL ak rfl)⟩
theorem aa.Lp {σ ε γ:Type}{fu:ε→Code}{l D:Nat}{rec:Loop}{Ls:σ→γ→List aN}{Lx:ε→γ→List aN}{cw:σ}(g:γ)(n:Nat)(ak:L.drop n=⟨some l,.is (.loop rec)⟩::⟨some D,.dE⟩::Ls cw g):
 aa c (EA c fu l D rec Ls Lx (.inl cw)) .normal E L:=fun a W s=>⟨rfl,g,by rw [← ak];exact(s.pg n).less (fun t τ h=>by simp [look] at h)⟩
theorem aa.JY {σ ε γ:Type}{fu:ε→Code}{l D:Nat}{rec:Loop}{Ls:σ→γ→List aN}{Lx:ε→γ→List aN}{q:ε}{x:Exit}(g:γ)(n:Nat)(aF:wI (fu q)=true)(ao:x=Cy (fu q))(ak:L.drop n=⟨some l,.is (.loop rec)⟩::⟨some D,.dE⟩::Lx q g):
 aa c (EA c fu l D rec Ls Lx (.inr q)) x E L:=fun a W s=>⟨aF,ao,g,by rw [← ak];exact(s.pg n).less (fun t τ h=>by simp [look] at h)⟩
theorem ag.jump {j:Code}(aF:wI j=true)(k:aa c Q (Cy j) E L):ag c Q j E L:=by
 cases j <;> simp only [wI] at aF <;> first | cases aF | skip
 all_goals first | exact .exit k | exact .ret k | exact fun a W s=>wpIn_goto (k a W s)
theorem NO {P:Program}{l:Nat}{R:Ending→World→Prop}{j:Code}{a:Act}{W W':World}{v:Value}(aF:wI j=true)(bu:(Instr.endRound l (some j)).run P W= .ok v W')(jZ:R (.returned v) W'):
 roundPost P l R (Cy j) a W:=by
 cases j <;> simp only [wI] at aF <;> first | exact⟨_,_,bu,jZ⟩ | cases aF
theorem bM.mark {a:Act}{W:World}(s:bM c E L a W)(D:Nat):bM { c with ds:=D::c.ds } E L { a with defers:=GU D::a.defers } W:=
 {defers:=by simp [s.defers],size:=s.size,env:=s.env,dR:=s.dR,own:=s.own,nodup:=s.nodup,lt:=s.lt,gw:=s.gw,fb:=s.fb }
def LY (P:Program)(f:FuncId)(τs:List I)(Lin:List aN){α σ ε γ:Type}(τ:α→I)(run:(α→σ→Option (σ ⊕ ε))→σ→Option (σ ⊕ ε))(Ls:σ→γ→List aN)(Lx:ε→γ→List aN):Prop:=
 ∀ (step:α→σ→Option (σ ⊕ ε)) (cF:σ) (g0:γ) (r:σ ⊕ ε),run step cF=some r→
   ∀ (A:List Nat) (W:World) (u:Value) (vs:List Value),zL A W (Lin++Ls cF g0)→hc (aS (Lin++Ls cF g0)++A) W τs vs→
     xB P u τ Ls Lx step (fun c8 W'=>Ext (aS (Lin++Ls cF g0)++A) W c8 W')→
     Calls P f (u::vs).toArray W (kG (aS (Lin++Ls cF g0)) A W (fun _:γ=>.eu []) (fun g=>Lin++Lr Ls Lx r g))
theorem OJ {gt p:Nat}{assign body:Code}{f:FuncId}{nr:List I}{Lin:List aN}{α σ ε γ:Type}{τ:α→I}{run:(α→σ→Option (σ ⊕ ε))→σ→Option (σ ⊕ ε)}
 {Ls:σ→γ→List aN} {Lx:ε→γ→List aN} {step:α→σ→Option (σ ⊕ ε)} {cF:σ} {g0:γ} {r:σ ⊕ ε} (fu:ε→Code)
 (aj:c.rd=none) (ew:bL c.P f) (bH:look E gt=some (.ln f nr)) (mw:∀ aw aX ny,LY c.P f nr Lin τ run (fun s g=>aw::aX::Ls s g) ny) (aR:run step cF=some r) (ak:L=Lin++Ls cF g0) (hp:Nat.blt p c.n=true)
 (pV:∀ x s r,step x s=some r→ ∀ g (lr:World) (lC lu:List Nat) (l D:Nat) (rec:Loop),rec.state= .ready→
  ag ⟨c.P,c.n,lr,lC,lu,some l,[]⟩ (Exit.then (EB ⟨c.P,c.n,lr,lC,lu,some l,[]⟩ l body (EA ⟨c.P,c.n,lr,lC,lu,some l,[]⟩ fu l D { rec with state:= .busy } Ls Lx r)) (fun _ _ _=>False)) assign ((p,τ x)::E) (⟨some l,.is (.loop rec)⟩::⟨some D,.dE⟩::Ls s g))
 (ph:∀ cw,r= .inl cw→ ∀ g D,aa { c with ds:=D::c.ds } Q .normal E (⟨some D,.dE⟩::(Lin++Ls cw g)))
 (w2:∀ q,r= .inr q→ ∀ g D,ag { c with ds:=D::c.ds } Q (fu q) E (⟨some D,.dE⟩::(Lin++Lx q g))):
 ag c Q (.rangeFunc (.tmp gt) #[p] assign body) E L:=fun a W st=>by
 subst ak
 refine wpIn_rangeFunc fun fn aga=>?_
 show ∃ l mark afa d acQ Ak args afb,(Instr.enterLoop fn a.tmps #[p] assign body c.rd).run c.P W=_∧_
 rw [aj]
 obtain⟨rec,k3⟩:∃ rec:Loop,rec= { state:= .ready,pending:=none,fn,tmps:=a.tmps,params:= #[p],assign,body,defers:=W.heap.size } :=⟨_,rfl⟩
 obtain⟨v,Eb,iH,xC,agb⟩:=st.env gt _ bH
 obtain⟨hU,Ec⟩:∃ hU,(W.alloc (.deferred (some []))).alloc (.loop rec)=hU:=⟨_,rfl⟩
 have s1:=(st.alloc (o:= .deferred (some [])) (cp:= .dE) rfl).alloc (o:= .loop rec) (cp:= .is (.loop rec)) rfl
 rw [Ec,World.size_alloc] at s1
 obtain⟨D,lD⟩:∃ D,D=W.heap.size:=⟨_,rfl⟩
 obtain⟨l,al⟩:∃ l,l=W.heap.size+1:=⟨_,rfl⟩
 have Ed:=run_enterLoop_outer (P:=c.P) (w:=W) fn a.tmps #[p] assign body
 rw [← k3,Ec,← al,← lD] at Ed
 rw [← al,← lD] at s1
 obtain⟨l0,q5⟩:∃ l0:σ→γ→List aN,l0=fun s g=>⟨some l,.is (.loop rec)⟩::⟨some D,.dE⟩::Ls s g:=⟨_,rfl⟩
 obtain⟨ny,Ee⟩:∃ ny:ε→γ→List aN,ny=fun q g=>⟨some l,.is (.loop { rec with state:= .done,pending:=some (fu q) })⟩::⟨some D,.dE⟩::Lx q g:=⟨_,rfl⟩
 have s2:bM c E (Lin++l0 cF g0) a hU:=s1.perm (by
  rw [q5];exact(List.perm_middle.trans (List.perm_middle.cons _)).symm)
 have LZ:hc (aS (Lin++l0 cF g0)++c.b8) hU nr iH:=by
  have h1:(I.ln f nr).holds (aS (Lin++l0 cF g0)++c.b8) hU v:=by
   obtain⟨vE,h1,ad⟩:=s2.env gt _ bH;rw [Eb] at h1;cases h1;exact ad
  obtain⟨L0,aw,aX⟩:=h1;rw [xC] at aw;have:L0=iH:=by injection aw with _ _ aw;injection aw with aw;exact aw.symm
  rw [← this];exact aX
 have Ef:bM c E ((Lin++l0 cF g0)++[]) a hU:=by rw [List.append_nil];exact s2
 have C0:=Ef.G2
 simp only [aS,List.nil_append] at C0
 have Lc:xB c.P (.func (.yield l) #[] #[]) τ l0 ny step (fun c8 W'=>Ext (aS (Lin++l0 cF g0)++c.b8) hU c8 W'):=by
  refine⟨l,rfl,fun x s kz hs g A oZ v2 gR hle a6=>?_⟩;have DE:=hle;rw [q5] at DE;obtain⟨o,dy,e8⟩:=DE.ok ⟨some l,.is (.loop rec)⟩ (by simp);have qM:o= .loop rec:=e8;subst qM;have a7:=run_yield (P:=c.P) (args:= #[v2]) dy (by rw [k3];rfl);refine⟨_,_,_,_,a7,roundIn_of_wpIn trivial ?_⟩;have aw:rec.assign=assign:=by rw [k3]
  have aX:rec.body=body:=by rw [k3]
  have dc:rec.params= #[p]:=by rw [k3]
  have gA:rec.tmps=a.tmps:=by rw [k3]
  rw [aw,aX,dc,gA];refine FL (n:=9) rfl ?_;have KH:((#[p]:Array Tmp).zip #[v2]).foldl (fun tmps (t,a)=>tmps.setIfInBounds t a) a.tmps=a.tmps.setIfInBounds p v2:=by simp
  rw [KH];subst q5 Ee;refine wpIn_mono ((pV x s kz hs g oZ (aS (⟨some l,.is (.loop rec)⟩::⟨some D,.dE⟩::Ls s g)) A l D rec (by rw [k3])) { tmps:=a.tmps.setIfInBounds p v2,defers:= [] } oZ ?_) ?_
  ·have jC:p<c.n:=by simpa using hp
   exact
   {defers:=rfl
    size:=by simp [s2.size]
    env:=fun t nu ft=>by
     simp only [look] at ft;by_cases e:Nat.beq p t=true
     ·rw [e] at ft;simp only [cond_true,Option.some.injEq] at ft;subst ft;have:=eH.1 e;subst this;exact⟨v2,by simp [s2.size,jC],a6⟩
     simp only [Bool.not_eq_true] at e;rw [e] at ft;simp only [cond_false] at ft;obtain⟨u,h1,ad⟩:=s2.env t nu ft;have da:p≠t:=fun h=>by rw [eH.2 h] at e;cases e
     exact⟨u,by rw [Array.getElem?_setIfInBounds_ne da];exact h1,nu.mono gR ad⟩
    dR:= .refl _ _
    own:=hle.ok
    nodup:=hle.nodup
    lt:=hle.lt
    gw:=fun k hk _=>hk
    fb:=hle.fb }
  intro e a3 ahj hq;cases e with
  | normal=>
    obtain⟨MX,L1,hb⟩:=hq
    refine⟨MX,L1,FL (n:=9) rfl (wpIn_mono hb ?_)⟩
    intro e a5 EC Hv
    have fin:∀ (jump:Option Code) {Lr:List aN},bM ⟨c.P,c.n,oZ,aS (⟨some l,.is (.loop rec)⟩::⟨some D,.dE⟩::Ls s g),A,some l,[]⟩ [] (⟨some l,.is (.loop { rec with state:= .busy })⟩::⟨some D,.dE⟩::Lr) a5 EC→
     ∃ pE,(Instr.endRound l jump).run c.P EC= .ok (.bool jump.isNone) pE∧bM ⟨c.P,c.n,oZ,aS (⟨some l,.is (.loop rec)⟩::⟨some D,.dE⟩::Ls s g),A,some l,[]⟩ [] (⟨some l,.is (.loop { rec with state:=if jump.isNone then .ready else .done,pending:=jump })⟩::⟨some D,.dE⟩::Lr) a5 pE:=fun jump Lr iG=>by
     obtain⟨o,h1,ad⟩:=iG.own ⟨some l,.is (.loop { rec with state:= .busy })⟩ (by simp)
     have lz:o= .loop { rec with state:= .busy } :=ad
     subst lz
     exact⟨_,run_endRound jump h1,iG.qL (i:=0) rfl rfl⟩
    cases kz with
    | inl cw=>
      obtain⟨rfl,eW,iG⟩:=Hv
      obtain⟨pE,bu,jw⟩:=fin none iG
      refine⟨_,pE,bu,?_⟩
      have Eg:({ rec with state:=if (none:Option Code).isNone then .ready else .done,pending:=none } :Loop)=rec:=by rw [k3];rfl
      rw [Eg] at jw
      exact jw.ends (ρ:=fun _:γ=>I.of true) (Lo:=fun g=>⟨some l,.is (.loop rec)⟩::⟨some D,.dE⟩::Ls cw g) eW (List.Sublist.refl _) (of_bool.2 rfl)
    | inr q=>
      obtain⟨aF,rfl,eW,iG⟩:=Hv
      obtain⟨pE,bu,jw⟩:=fin (some (fu q)) iG
      have key:kG (aS (⟨some l,.is (.loop rec)⟩::⟨some D,.dE⟩::Ls s g)) A oZ (fun _:γ=>I.of false) (fun g=>⟨some l,.is (.loop { rec with state:= .done,pending:=some (fu q) })⟩::⟨some D,.dE⟩::Lx q g) (.returned (.bool false)) pE:=
       jw.ends (ρ:=fun _:γ=>I.of false) (Lo:=fun g=>⟨some l,.is (.loop { rec with state:= .done,pending:=some (fu q) })⟩::⟨some D,.dE⟩::Lx q g) eW (List.Sublist.refl _) (of_bool.2 rfl)
      exact NO aF bu key
  | exit id=>exact hq.elim
  | goto t=>exact hq.elim
  | ret=>exact hq.elim
  | panic MN=>exact hq.elim
  | outgrown=>exact hq.elim
 have L3:LY c.P f nr Lin τ run l0 ny:=by rw [q5];exact mw _ _ ny
 have w3:=L3 step cF g0 r aR c.b8 hU (.func (.yield l) #[] #[]) iH C0 LZ Lc
 have mT:a.eval (.tmp gt)= .func (.func f) #[] iH.toArray:=by simp [Act.eval,Eb,xC]
 refine⟨l,[GU D],hU,{ target:= .fn (.func f) iH.toArray,args:= #[.func (.yield l) #[] #[]] },hU,f,#[.func (.yield l) #[] #[]]++iH.toArray,hU,Ed,?_,fun _ _=>trivial,?_,fun h=>by simp at h,?_⟩
 ·simp only [resolve,mT]
  simp [go_sem]
 ·simp [invoke,go_sem,ew.run]
 refine CallsIn.Jt ?_
 have KI:(#[.func (.yield l) #[] #[]]++iH.toArray:Array Value)=(.func (.yield l) #[] #[]::iH).toArray:=by simp
 rw [KI]
 refine w3.mono fun e MY ⟨ahk,eW,he,bb,aD,aZ,bc,bu⟩=>?_
 subst he
 have pF:=Ef.after bb aD (by simpa [aS] using aZ) (by simpa [aS] using bc)
 rw [List.append_nil] at pF
 cases r with
 | inl cw=>
   simp only [Lr] at pF
   subst q5
   have ED:bM c E (⟨some l,.is (.loop rec)⟩::⟨some D,.dE⟩::(Lin++Ls cw eW)) a MY:=pF.perm (by
    exact List.perm_middle.trans (List.perm_middle.cons _))
   obtain⟨o,dy,e8⟩:=ED.own ⟨some l,.is (.loop rec)⟩ (by simp)
   have qM:o= .loop rec:=e8
   subst qM
   have ns:=run_endLoop (P:=c.P) dy (by rw [k3];simp)
   have jC:rec.pending=none:=by rw [k3]
   rw [jC] at ns
   refine⟨none,_,ns,?_⟩
   have tN:=(ED.qL (i:=0) (cp':= .is (.loop { rec with state:= .exhausted })) (o':= .loop { rec with state:= .exhausted }) rfl rfl).pg 1
   rw [jC] at tN
   exact ph cw rfl eW D _ _ (tN.mark D)
 | inr q=>
   simp only [Lr] at pF
   subst Ee
   have ED:bM c E (⟨some l,.is (.loop { rec with state:= .done,pending:=some (fu q) })⟩::⟨some D,.dE⟩::(Lin++Lx q eW)) a MY:=pF.perm (by
    exact List.perm_middle.trans (List.perm_middle.cons _))
   obtain⟨o,dy,e8⟩:=ED.own ⟨some l,.is (.loop { rec with state:= .done,pending:=some (fu q) })⟩ (by simp)
   have qM:o= .loop { rec with state:= .done,pending:=some (fu q) } :=e8
   subst qM
   have ns:=run_endLoop (P:=c.P) dy (by simp)
   refine⟨some (fu q),_,ns,?_⟩
   have tN:=(ED.qL (i:=0) (cp':= .is (.loop { rec with state:= .exhausted,pending:=some (fu q) })) (o':= .loop { rec with state:= .exhausted,pending:=some (fu q) }) rfl rfl).pg 1
   exact w2 q rfl eW D _ _ (tN.mark D)
theorem YO {gt p:Nat}{assign body:Code}{f:FuncId}{nr:List I}{Lin:List aN}{α σ ε γ:Type}{τ:α→I}{run:∀ {σ ε:Type},(α→σ→Option (σ ⊕ ε))→σ→Option (σ ⊕ ε)}
 {Ls:σ→γ→List aN} {Lx:ε→γ→List aN} {step:α→σ→Option (σ ⊕ ε)} {cF:σ} {g0:γ} {r:σ ⊕ ε} (fu:ε→Code)
 (aj:c.rd=none) (ew:bL c.P f) (bH:look E gt=some (.ln f nr)) (mw:Cc c.P f nr Lin τ run) (aR:run step cF=some r) (ak:L=Lin++Ls cF g0) (hp:Nat.blt p c.n=true)
 (pV:∀ x s r,step x s=some r→ ∀ g (lr:World) (lC lu:List Nat) (l D:Nat) (rec:Loop),rec.state= .ready→
  ag ⟨c.P,c.n,lr,lC,lu,some l,[]⟩ (Exit.then (EB ⟨c.P,c.n,lr,lC,lu,some l,[]⟩ l body (EA ⟨c.P,c.n,lr,lC,lu,some l,[]⟩ fu l D { rec with state:= .busy } Ls Lx r)) (fun _ _ _=>False)) assign ((p,τ x)::E) (⟨some l,.is (.loop rec)⟩::⟨some D,.dE⟩::Ls s g))
 (ph:∀ cw,r= .inl cw→ ∀ g D,aa { c with ds:=D::c.ds } Q .normal E (⟨some D,.dE⟩::(Lin++Ls cw g)))
 (w2:∀ q,r= .inr q→ ∀ g D,ag { c with ds:=D::c.ds } Q (fu q) E (⟨some D,.dE⟩::(Lin++Lx q g))):
 ag c Q (.rangeFunc (.tmp gt) #[p] assign body) E L:=
 OJ (run:=run) fu aj ew bH (fun aw aX ny=>mw.go (fun s g=>aw::aX::Ls s g) ny) aR ak hp pV ph w2
theorem WU {P:Program}{fn:Func}{R:Ending→World→Prop}{a:Act}{W:World}(h:bodyPost P fn R .ret a W):bodyPostM Fence.wide 9 P fn R .ret a W:=by
 obtain⟨h1,v,ad,aD⟩:=h;show LeavesInM Fence.wide 9 P fn a.tmps R a.defers .returning W;rw [h1];exact⟨v,ad,aD⟩
theorem aa.pj {P:Program}{fn:Func}{R:Ending→World→Prop}(k:aa c (bodyPost P fn R) .ret E L):aa c (bodyPost P fn R) .normal E L:=fun a W s=>k a W s
theorem aa.Dp {fn:Func}{R:Ending→World→Prop}(k:aa c (bodyPost c.P fn R) .ret E L):aa c (bodyPostM Fence.wide 9 c.P fn R) .ret E L:=fun a W s=>WU (k a W s)
theorem aa.uX {fn:Func}{R:Ending→World→Prop}{D:Nat}(i:Nat)(ak:L[i]? =some ⟨some D,.dE⟩)(gT:c.ds= [D])(k:aa { c with ds:= [] } (bodyPost c.P fn R) .ret E (L.set i ⟨some D,.is (.deferred none)⟩)):
 aa c (bodyPostM Fence.wide 9 c.P fn R) .ret E L:=fun a W s=>by
 obtain⟨o,h1,ad⟩:=s.own _ (List.mem_of_getElem? ak)
 have lz:o= .deferred (some []):=ad
 subst lz
 have s2:=s.qL ak (cp':= .is (.deferred none)) (o':= .deferred none) rfl
 have l1:bM { c with ds:= [] } E (L.set i ⟨some D,.is (.deferred none)⟩) { a with defers:= [] } (W.putObj D (.deferred none)):=
  {defers:=rfl,size:=s2.size,env:=s2.env,dR:=s2.dR,own:=s2.own,nodup:=s2.nodup,lt:=s2.lt,gw:=s2.gw,fb:=s2.fb }
 obtain⟨_,v,aD,aZ⟩:=k _ _ l1
 show LeavesInM Fence.wide 9 c.P fn a.tmps R a.defers .returning W
 rw [s.defers,gT]
 exact⟨by simp,.inl ⟨D,_,rfl,run_takeDeferred h1,v,aD,aZ⟩⟩
end
theorem bK.ahy {P:Program}{f:FuncId}{fn:Func}{code:Code}{n:Nat}{τs:List I}{ρ:I}(bb:P.funcs[f]? =some fn)(hb:fn.body=some code)(aO:fn.ntmps=n)(hlen:Nat.ble τs.length n=true)
 (h:∀ W A,ag ⟨P,n,W,[],A,none,[]⟩ (bodyPostM Fence.wide 9 P fn fun e W'=> ∃ v,e= .returned v∧Fr [] W W'∧ρ.holds A W' v) code (params 0 τs) []):bK P f τs ρ:=by
 intro A W vs gk a6
 refine(callsIn_wide (n:=9)).1 (callsIn_of_wp_marks bb hb trivial (h W A _ _ ?_))
 have al:=a6.length
 have hle:τs.length≤n:=Nat.le_of_ble_eq_true hlen
 exact
 {defers:=rfl
  size:=by simp [aO,al];omega
  env:=fun t τ iB=>by
   obtain⟨_,v,ad,aD⟩:=wa a6 0 t τ iB;refine⟨v,?_,aD⟩;have ct:t<vs.length:=(List.getElem?_eq_some_iff.1 ad).1;rw [Array.getElem?_append_left (by simpa using ct)];simpa using ad
  dR:= .refl _ _
  own:=by simp
  nodup:=by simp [aS]
  lt:=by simp [aS]
  gw:=by simp [aS]
  fb:=fun k hk=>⟨gk k hk,by simp [aS]⟩ }
theorem bZ.ofM {P:Program}{f:FuncId}{fn:Func}{code:Code}{n:Nat}{τs:List I}{Lin:List aN}{δ:Type}{ρ:δ→I}{Lo:δ→List aN}(bb:P.funcs[f]? =some fn)(hb:fn.body=some code)(aO:fn.ntmps=n)(hlen:Nat.ble τs.length n=true)
 (h:∀ W A,ag ⟨P,n,W,aS Lin,A,none,[]⟩ (bodyPostM Fence.wide 9 P fn (kG (aS Lin) A W ρ Lo)) code (params 0 τs) Lin):bZ P f τs Lin ρ Lo:=by
 intro A W vs gk h7 ct iD a6
 refine(callsIn_wide (n:=9)).1 (callsIn_of_wp_marks bb hb trivial (h W A _ _ ?_))
 have al:=a6.length
 have hle:τs.length≤n:=Nat.le_of_ble_eq_true hlen
 exact
 {defers:=rfl
  size:=by simp [aO,al];omega
  env:=fun t τ iB=>by
   obtain⟨_,v,ad,aD⟩:=wa a6 0 t τ iB;refine⟨v,?_,aD⟩;have ct:t<vs.length:=(List.getElem?_eq_some_iff.1 ad).1;rw [Array.getElem?_append_left (by simpa using ct)];simpa using ad
  dR:= .refl _ _
  own:=iD
  nodup:=h7
  lt:=ct
  gw:=fun k hk _=>hk
  fb:=gk }
theorem IY {τ σ:I}(h:τ.Flat)(k:σ.Flat):(I.eu [τ,σ]).Flat:=fun A W c8 W' v ⟨vs,h1,ad⟩=>by
 refine⟨vs,h1,?_⟩;generalize vs.toList=l at ad;cases ad with
 | cons a r=>cases r with
   | cons b r=>cases r;exact .cons (h _ _ _ _ _ a) (.cons (k _ _ _ _ _ b) .nil)
section
variable {c:dt} {E:List (Nat×I)} {L:List aN} {ops:Array Oper} {Q:Exit→Act→World→Prop}
variable {d:Option Tmp} {ty:TypeId} {pos:String} {af:Array Edge} {g:Option (Nat×Bool)} {x y:Operand} {t t2:TypeId}
theorem cf.via {o:Oper}{τ:I}{E':List (Nat×I)}{L':List aN}(bb:τ.Flat)(hs:∀ a W,bM c E L a W→bM c E' L' a W)(h:cf c E' L' o τ):cf c E L o τ:=fun a W st=>by
 have:=h a W (hs a W st);unfold hv at this ⊢;exact Oper.wp_mono (fun gX W' ⟨v,h1,ad,aD⟩=>⟨v,h1,ad,bb _ _ _ _ _ aD⟩) this
theorem bM.tell {a:Act}{W:World}(s:bM c E L a W){gN:Nat}{σ τ:I}(al:look E gN=some σ)(h:∀ v,σ.holds (aS L++c.b8) W v→τ.holds (aS L++c.b8) W v):bM c ((gN,τ)::E) L a W:=by
 refine { s with env:=fun t nu ft=>?_ };simp only [look] at ft;by_cases e:Nat.beq gN t=true
 ·rw [e] at ft;simp only [cond_true,Option.some.injEq] at ft;subst ft;have:=eH.1 e;subst this;obtain⟨v,h1,ad⟩:=s.env gN _ al;exact⟨v,h1,h v ad⟩
 simp only [Bool.not_eq_true] at e;rw [e] at ft;exact s.env t nu ft
theorem bM.SD {a:Act}{W:World}(s:bM c E L a W){i p:Nat}{α:Type}[ah α]{z:α}(ak:L[i]? =some ⟨some p,.var z⟩):
 (I.ptr z).holds (aS (L.set i ⟨none,.dead⟩)++c.b8) W (.pointer (some ⟨p,0,none⟩)):=by
 obtain⟨o,eY,cs,T,rfl,aR⟩:=s.own _ (List.mem_of_getElem? ak)
 have hlen:cs.toList.length=ah.size α:=ah.len aR
 refine⟨p,0,cs,T,(0,0),rfl,s.BT ak,eY,by simp at hlen;omega,?_⟩
 rw [List.drop_zero,← hlen,List.take_length]
 have lh:=yy (L:=L) (i:=i) (cp:= .dead)
 exact ah.mono (.drop fun k hm=>by
  rcases List.mem_append.1 hm with hm | hm
  ·exact List.mem_append.2 (.inl (lh.subset hm))
  exact List.mem_append.2 (.inr hm)) aR
abbrev Eh (f p:Nat):Value:= .func (.func f) #[.pointer (some ⟨p,0,none⟩)] #[]
theorem ab9 {f p:Nat}(ao:bg c E L x (.eq (.pointer (some ⟨p,0,none⟩)))):cf c E L ⟨d,.makeFunc (.func f) #[x] #[],ty,pos,af,g⟩ (.eq (Eh f p)):= .pure fun a W s=>by
 have h:=ao a W s;refine⟨_,?_,rfl⟩;have df:a.eval x= .pointer (some ⟨p,0,none⟩):=h;simp [execOp,Instr.makeFunc,df,Eh]
theorem ZM {f p:Nat}{α β γ δ:Type}[ah α][ah β][ah γ][ah δ]{z:δ}{F:α→β→Option γ}{P:Program}(ew:bL P f)(h:∀ x y r,F x y=some r→bK P f [.ptr z,.of x,.of y] (.of r)){A:List Nat}{W:World}
 (hp:(I.ptr z).holds A W (.pointer (some ⟨p,0,none⟩))):(I.xl P F).holds A W (Eh f p):=
 ⟨f,_,#[],rfl,ew,fun c8 W' e gk x y r mx ri jy a6 xC=>by simpa using h x y r jy c8 W' [_,mx,ri] gk (.cons (I.mono _ e hp) (.cons a6 (.cons xC .nil)))⟩
theorem cf.RS {o:Oper}{τ σ:I}{p:Nat}{α:Type}[ah α]{z:α}(i gN:Nat)(al:look E gN=some σ)(a6:∀ A W v,σ.holds A W v→v= .pointer (some ⟨p,0,none⟩))(ak:L[i]? =some ⟨some p,.var z⟩)(bb:τ.Flat)
 (h:cf c ((gN,.ptr z)::E) (L.set i ⟨none,.dead⟩) o τ):cf c E L o τ:=
 .via bb (fun a W s=>(s.kill i).tell (σ:=σ) al (fun v cu=>by rw [a6 _ _ _ cu];exact s.SD ak)) h
theorem cf.aau {o:Oper}{τ:I}{p f:Nat}{α β γ δ:Type}[ah α][ah β][ah γ][ah δ]{z:δ}{F:α→β→Option γ}(i gN:Nat)(al:look E gN=some (.eq (Eh f p)))(ak:L[i]? =some ⟨some p,.var z⟩)(ew:bL c.P f)
 (jy:∀ x y r,F x y=some r→bK c.P f [.ptr z,.of x,.of y] (.of r)) (bb:τ.Flat) (h:cf c ((gN,.xl c.P F)::E) (L.set i ⟨none,.dead⟩) o τ):cf c E L o τ:=
 .via bb (fun a W s=>(s.kill i).tell al (fun v cu=>by have agc:v=Eh f p:=cu;rw [agc];exact ZM ew jy (s.SD ak))) h
theorem cf.ab8 {o:Oper}{τ:I}{p cap T:Nat}{key:Option Nat}{β γ:Type}[ah β][ah γ]{b b':β}{xs:List γ}{os os':List (Nat×Value)}(l:aI β (List γ))(i j q:Nat)(gd:Nat.beq i j=false)(ak:L[i]? =some ⟨some p,.cn b os⟩)(qj:L[j]? =some ⟨key,.row T xs cap⟩)
 (hq:os[q]? =some (l.off,aW key xs.length cap)) (hb:l.set b xs=b') (py:rE os l.off=os') (bb:τ.Flat) (h:cf c E ((L.set j ⟨none,.dead⟩).set i ⟨some p,.cn b' os'⟩) o τ):cf c E L o τ:=
 .via bb (fun a W s=>s.lg l (fun e=>by rw [e,Nat.beq_refl] at gd;cases gd) ak qj q hq hb py) h
theorem cf.aat {o:Oper}{τ:I}{p cap T:Nat}{key:Option Nat}{β γ:Type}[ah β][ah γ]{b b':β}{xs:List γ}{os os':List (Nat×Value)}(l:aI β (List γ))(i j q gN:Nat)(gd:Nat.beq i j=false)(ak:L[i]? =some ⟨some p,.cn b os⟩)(qj:L[j]? =some ⟨key,.row T xs cap⟩)
 (hq:os[q]? =some (l.off,aW key xs.length cap)) (hb:l.set b xs=b') (py:rE os l.off=os') (ps:look E gN=some (.eq (aW key xs.length cap))) (bb:τ.Flat) (h:cf c ((gN,.of xs)::E) ((L.set j ⟨none,.dead⟩).set i ⟨some p,.cn b' os'⟩) o τ):cf c E L o τ:=
 .via bb (fun a W s=>s.GG l (fun e=>by rw [e,Nat.beq_refl] at gd;cases gd) ak qj q hq hb py ps) h
theorem cf.RR {o:Oper}{τ:I}{p:Nat}{β:Type}[ah β]{b:β}(i:Nat)(ak:L[i]? =some ⟨some p,.cn b []⟩)(bb:τ.Flat)(h:cf c E (L.set i ⟨some p,.var b⟩) o τ):cf c E L o τ:=
 .via bb (fun a W s=>s.Cw (cp':= .var b) ak (fun o ⟨cs,T,h1,ad⟩=>⟨cs,T,h1,ad.1⟩) id) h
theorem Om {P:Program}{T:TypeId}{e:TypeId}(h:P.underlying T=some (.pointer e))(p:Addr)(W:World)(n:Nat):(Op.equalIn (n+1) T (.pointer (some p)) (.pointer none)).run P W= .ok false W:=by
 simp [Op.equalIn,run_underlying h]
theorem Gh {p:Addr}{e:TypeId}(hu:c.P.underlying t=some (.pointer e))(ao:bg c E L x (.eq (.pointer (some p)))):cf c E L ⟨d,.binOp .eql t x (.const (.pointer none)) t2,ty,pos,af,g⟩ (.of false):= .pure fun a W s=>by
 have aO:a.eval (.const (.pointer none))= .pointer none:=rfl;have h1:a.eval x= .pointer (some p):=ao a W s;refine⟨.bool false,?_,of_bool.2 rfl⟩;simp only [execOp,eqGuard,binOp,h1,aO,Op.equal,Op.maxDepth];simp [Om hu p W 9999]
theorem Zv {γ:Type}[ah γ]{r:γ}{e:TypeId}(hu:c.P.underlying t=some (.pointer e))(ao:bg c E L x (.ptr r)):cf c E L ⟨d,.binOp .eql t x (.const (.pointer none)) t2,ty,pos,af,g⟩ (.of false):= .pure fun a W s=>by
 have aO:a.eval (.const (.pointer none))= .pointer none:=rfl;obtain⟨b,off,cur,T,hC,h1,_⟩:=ao a W s;refine⟨.bool false,?_,of_bool.2 rfl⟩;simp only [execOp,eqGuard,binOp,h1,aO,Op.equal,Op.maxDepth];simp [Om hu _ W 9999]
theorem ag.bD {code:Code}(i:Nat){e:aN}(h:L[i]? =Option.some e)(k:ag c Q code E (e::L.eraseIdx i)):ag c Q code E L:=fun a W s=>k a W (s.bD h)
theorem Zq {p:Option Addr} :∀ A W v,(I.eq (.pointer p)).holds A W v→v.oneCell'=true:=fun A W v h=>by
 have df:v= .pointer p:=h;rw [df];rfl
def fi (c:dt)(E:List (Nat×I))(L:List aN)(o:Oper)(τ:I):Prop:=
 ∀ a W,bM c E L a W→hv c.P o a W fun v W'=>bM c E L a W'∧τ.holds (aS L++c.b8) W' v
theorem ae.iE {o:Oper}{rest:List Oper}{d:Nat}{τ:I}(h:fi c E L o τ)(bH:o.guard=none)(hd:o.dst=some d)(aO:Nat.blt d c.n=true)
 (k:ae c ops Q rest ((d,τ)::E) L):ae c ops Q (o::rest) E L:=fun a W s=>
 h3 bH (h a W s) fun v W' ⟨f,a6⟩=>by
  rw [hd];exact k _ _ (f.put (by simpa using aO) a6)
theorem ae.se {o:Oper}{rest:List Oper}{d j g:Nat}{b want:Bool}{τ:I}(h:b=want→fi c E L o τ)(bH:o.guard=some (j,want))(aF:(ops[j]?).bind (·.dst)=some g)
 (al:look E g=some (.of b)) (hd:o.dst=some d) (aO:Nat.blt d c.n=true)
 (k:ae c ops Q rest ((d,.cond (b=want) τ)::E) L):ae c ops Q (o::rest) E L:=fun a W s=>by
 have a7:=yN aF al s
 unfold dt.qb wpListIn
 by_cases hb:b=want
 ·rw [if_pos (by simp [Region.wanted,bH,a7,hb])]
  refine((h hb a W s).wpIn fun v W' ⟨f,a6⟩=>?_)
  rw [hd]
  exact k _ _ (f.put (by simpa using aO) ⟨fun _=>a6,fun h=>absurd hb h⟩)
 rw [if_neg (by simp [Region.wanted,bH,a7,hb])]
 rw [hd]
 exact⟨fun _ _=>trivial,k _ _ (s.put (by simpa using aO) ⟨fun h=>absurd h hb,fun _=>rfl⟩)⟩
def p8 (L:List aN):List Nat→List aN→Prop
 | [],[]=>True
 | i::is,e::es=>L[i]? =some e∧p8 L is es
 | _,_=>False
theorem NY {L:List aN}{i j:Nat}(h:i≠j):(L.eraseIdx i)[if j<i then j else j - 1]? =L[j]? :=by
 rw [List.getElem?_eraseIdx];by_cases h1:j<i
 ·simp [h1]
 have: ¬ (j - 1<i):=by omega
 simp only [h1,if_false,this];congr 1;omega
theorem p8.shift {L:List aN}{i:Nat} :∀ {is:List Nat} {es:List aN},p8 L is es→i ∉ is→p8 (L.eraseIdx i) (is.map fun j=>if j<i then j else j - 1) es
 | [],[],_,_=>trivial
 | j::is,e::es,⟨h1,ad⟩,aO=>by
   simp only [List.mem_cons,not_or] at aO;exact⟨by rw [NY aO.1];exact h1,p8.shift ad aO.2⟩
theorem N4 {i:Nat} :∀ {is:List Nat},is.Nodup→i ∉ is→ (is.map fun j=>if j<i then j else j - 1).Nodup
 | [],_,_=>by simp
 | j::is,h,aO=>by
   simp only [List.mem_cons,not_or] at aO;obtain⟨h1,ad⟩:=List.nodup_cons.1 h;refine List.nodup_cons.2 ⟨fun hm=>?_,N4 ad aO.2⟩;obtain⟨k,hk,he⟩:=List.mem_map.1 hm;have r8:k≠i:=fun e=>aO.2 (e ▸ hk);have ahX:k≠j:=fun e=>h1 (e ▸ hk);have hZ:j≠i:=fun e=>aO.1 e.symm;have Hp:(if k<i then k else k - 1)=(if j<i then j else j - 1):=he;split at Hp <;> split at Hp <;> omega
theorem p8.perm:∀ {is:List Nat} {es L:List aN},p8 L is es→is.Nodup→ ∃ R,L.Perm (es++R)
 | [],[],L,_,_=>⟨L,List.Perm.refl _⟩
 | i::is,e::es,L,⟨h1,ad⟩,aO=>by
   obtain⟨n9,px⟩:=List.nodup_cons.1 aO;obtain⟨R,jZ⟩:=(ad.shift n9).perm (N4 px n9);exact⟨R,(uf h1).trans (jZ.cons e)⟩
 termination_by is=>is.length
 decreasing_by simp
theorem fi.call {f:FuncId}{xs:List Operand}{ats:Array TypeId}{τs:List I}{Lin:List aN}{ρ:Unit→I}{Lo:Unit→List aN}(is:List Nat)(ew:bL c.P f)(h:bZ c.P f τs Lin ρ Lo)
 (ao:ik c E L xs τs) (aO:decide is.Nodup=true) (hp:p8 L is Lin) (al:Lo ()=Lin):fi c E L ⟨d,.call ⟨.value (.func f),xs.toArray,ats⟩,ty,pos,af,g⟩ (ρ ()):=fun a W s=>by
 obtain⟨R,jZ⟩:=hp.perm (of_decide_eq_true aO)
 have cw:=s.perm jZ
 have Ei:=wA jZ
 have Hw:∀ k,k∈aS L++c.b8↔k∈aS (Lin++R)++c.b8:=fun k=>by
  simp only [List.mem_append];rw [Ei.mem_iff]
 have cu:hc (aS (Lin++R)++c.b8) W τs (xs.map a.eval):=(ao.QY s).mono (.drop fun k hm=>(Hw k).2 hm)
 have bk:=BH (d:=d) (ty:=ty) (pos:=pos) (af:=af) (g:=g) (ats:=ats) ew h cw cu
 unfold hv at bk ⊢
 refine Oper.wp_mono (fun gX W' ⟨v,h1,bf,ad,aD⟩=>⟨v,h1,?_,?_⟩) bk
 ·cases bf;rw [al] at ad;exact ad.perm jZ.symm
 cases bf
 rw [al] at aD
 exact I.mono _ (.drop fun k hm=>(Hw k).1 hm) aD
theorem p8.set {L:List aN}{i j:Nat}{x y aw aX:aN}(gd:i≠j)(ar:L[i]? =some aw)(aF:L[j]? =some aX):∃ R,L.Perm (aw::aX::R)∧ ((L.set i x).set j y).Perm (x::y::R):=by
 have LI:p8 L [i,j] [aw,aX]:=⟨ar,aF,trivial⟩;have hle:∀ M:List aN,∀ u v:aN,M[i]? =some u→M[j]? =some v→M.Perm (u::v::(M.eraseIdx i).eraseIdx (if j<i then j else j - 1)):=fun M u v h1 ad=>
  (uf h1).trans ((uf (by rw [NY gd];exact ad)).cons u)
 refine⟨_,hle L aw aX ar aF,?_⟩;have hx:=(List.getElem?_eq_some_iff.1 ar).1;have z7:=(List.getElem?_eq_some_iff.1 aF).1;have h1:=hle ((L.set i x).set j y) x y (by rw [List.getElem?_set_ne (Ne.symm gd),List.getElem?_set_self hx]) (by rw [List.getElem?_set_self (by simpa using z7)]);have ad:((L.set i x).set j y).eraseIdx i=(L.eraseIdx i).set (if j<i then j else j - 1) y:=by
  apply List.ext_getElem?;intro k;simp only [List.getElem?_eraseIdx,List.getElem?_set,List.length_set,List.length_eraseIdx,hx,if_true];by_cases hk:k<i <;> by_cases hZ:j<i <;> simp only [hk,hZ,if_true,if_false] <;> (repeat' split) <;> first | rfl | omega | skip
 rw [ad,List.eraseIdx_set_eq] at h1;exact h1
theorem ae.aav {rest:List Oper}{bf:Nat}{f:FuncId}{xs:List Operand}{ats:Array TypeId}{τs:List I}{aw aX:aN}{δ:Type}{ρ:δ→I}{Lo:δ→List aN}(lo:δ→aN)(i j:Nat)(ew:bL c.P f)(h:bZ c.P f τs [aw,aX] ρ Lo)
 (ao:ik c E L xs τs) (gd:Nat.beq i j=false) (ar:L[i]? =some aw) (aF:L[j]? =some aX) (hy:∀ q,Lo q= [lo q]) (aO:Nat.blt bf c.n=true) (k:∀ q,ae c ops Q rest ((bf,ρ q)::E) ((L.set i (lo q)).set j ⟨none,.dead⟩)):
 ae c ops Q (⟨some bf,.call ⟨.value (.func f),xs.toArray,ats⟩,ty,pos,af,none⟩::rest) E L:=fun a W s=>by
 have da:i≠j:=fun e=>by rw [e,Nat.beq_refl] at gd;cases gd
 obtain⟨R,jZ,_⟩:=p8.set (x:=aw) (y:=aX) da ar aF
 have cw:=s.perm jZ
 have Ei:=wA jZ
 have Hw:∀ k,k∈aS L++c.b8↔k∈aS ([aw,aX]++R)++c.b8:=fun k=>by
  simp only [List.mem_append];rw [Ei.mem_iff];simp [e5]
 have cu:hc (aS ([aw,aX]++R)++c.b8) W τs (xs.map a.eval):=(ao.QY s).mono (.drop fun k hm=>(Hw k).2 hm)
 refine h3 rfl (BH (Lin:= [aw,aX]) ew h cw cu) fun v W' ⟨q,ad,aD⟩=>?_
 refine k q _ _ ?_
 obtain⟨HW,agd,TY⟩:=p8.set (x:=lo q) (y:=⟨none,.dead⟩) da ar aF
 have age:(aw::aX::R).Perm (aw::aX::HW):=jZ.symm.trans agd
 have Tu:R.Perm HW:=(age.cons_inv).cons_inv
 rw [hy] at ad aD
 have aZ:bM c E (lo q::⟨none,.dead⟩::R) a W':= { ad with
  own:=fun e he=>by
   simp only [List.mem_cons] at he;rcases he with rfl | rfl | he
   ·exact ad.own _ (by simp)
   ·trivial
   exact ad.own _ (by simp [he]) }
 have bc:bM c E ((L.set i (lo q)).set j ⟨none,.dead⟩) a W':=aZ.perm (((Tu.cons _).cons _).trans TY.symm)
 have bu:(aS ((L.set i (lo q)).set j ⟨none,.dead⟩)).Perm (aS (lo q::R)):=by
  have:=wA (TY.trans ((Tu.symm.cons _).cons _));simpa [aS] using this
 refine bc.put (by simpa using aO) (I.mono _ (.drop fun k hm=>?_) aD)
 rcases List.mem_append.1 hm with hm | hm
 ·exact List.mem_append.2 (.inl (bu.mem_iff.1 hm))
 exact List.mem_append.2 (.inr hm)
theorem Lu {L:List aN}{i:Nat}{x e:aN}(h:L[i]? =some x):(L.set i e)[i]? =some e:=by
 rw [List.getElem?_set_self (List.getElem?_eq_some_iff.1 h).1]
theorem TK {L:List aN}{i j:Nat}{r:Option aN}{e:aN}(aO:Nat.beq j i=false)(h:L[i]? =r):(L.set j e)[i]? =r:=by
 rw [List.getElem?_set_ne (fun e=>by rw [e,Nat.beq_refl] at aO;cases aO)];exact h
theorem YZ {p lo cap:Nat}{α:Type}[ah α](a7:bg c E L y (.eq (ix (some p) lo 0 cap (ah.size α)))):Src c E L y 0 ([]:List α):=fun a W s=>by
 have h1:a.eval y=_:=a7 a W s;have aj:=run_loadCells_list (P:=c.P) W (if cap=lo then(⟨p,0,none⟩:Addr) else⟨p,lo * ah.size α,none⟩) [] (fun j v a6=>by simp at a6);refine⟨by rw [h1];rfl,[],?_,⟨by simp,fun i ar=>by simp at ar⟩,by simp⟩;rw [h1];simp only [ix,Builtin.firstCells,List.length_nil,Nat.zero_mul];exact aj
theorem ae.SE {rest:List Oper}{i e p bf m N cap T:Nat}{α:Type}[ah α]{xs vs r:List α}(hu:c.P.underlying t=some (.slice e))(eZ:bG c.P e α)
 (ao:bg c E L x (.eq (aW (some p) m cap))) (a7:Src c E L y N vs) (k7:vs.length=N) (ak:L[i]? =some ⟨some p,.row T xs cap⟩) (hm:m+N≤xs.length) (aR:xs.take m++vs++xs.drop (m+N)=r) (aO:Nat.blt bf c.n=true)
 (k:ae c ops Q rest ((bf,.eq (aW (some p) (m+N) cap))::E) (L.set i ⟨some p,.row T r cap⟩)):
 ae c ops Q (⟨some bf,.call ⟨.builtin .append,#[x,y],#[t,t]⟩,ty,pos,af,none⟩::rest) E L:=fun a W s=>by
 subst k7
 subst aR
 have h1:a.eval x=_:=ao a W s
 obtain⟨al,cells,aj,pv,zX⟩:=a7 a W s
 obtain⟨o,bk,cu⟩:=s.own _ (List.mem_of_getElem? ak)
 have agf:=cu
 obtain⟨r7,rfl,g1,g2,g3,g4⟩:=cu
 obtain⟨cs,e8,G1,xf⟩:=I9 (lo:=m) hm agf pv
 have qZ:cs=r7:=by injection e8 with h _;exact h.symm
 subst qZ
 obtain⟨gG,eM,ev⟩:=eZ.info
 have kN:=run_storeCells_at (P:=c.P) p (m * ah.size α) T cells 0 cs W bk G1 zX
 simp only [Nat.add_zero] at kN
 have acR:m+vs.length≤cap:=by omega
 have iP:(execOp a.eval ⟨some bf,.call ⟨.builtin .append,#[x,y],#[t,t]⟩,ty,pos,af,none⟩).run c.P W= .ok (.value (aW (some p) (m+vs.length) cap)) (W.setRow p (cs.toList.take (m * ah.size α)++cells++cs.toList.drop (m * ah.size α+cells.length)).toArray):=by
  simp [execOp,resolve,invoke,builtin,Builtin.append_,h1,aW,run_underlying hu,al,Go.sizeOf,typeInfo,eM,ev,acR,aj,jL,kN]
 refine h3 rfl (R:=fun v hU=>v=aW (some p) (m+vs.length) cap∧hU=W.setRow p (cs.toList.take (m * ah.size α)++cells++cs.toList.drop (m * ah.size α+cells.length)).toArray) (.kX iP ⟨rfl,rfl⟩) fun v hU ⟨a6,hw⟩=>?_
 subst a6
 subst hw
 exact k _ _ ((s.store ak bk xf).put (by simpa using aO) rfl)
theorem YJ {i T cap:Nat}{key:Option Nat}{α:Type}[ah α]{xs:List α}{e:TypeId}{lo ar MZ:Operand}{m n k:Nat}(hu:c.P.underlying t=some (.slice e))(eZ:bG c.P e α)(ao:bg c E L x (.eq (aW key xs.length cap)))
 (ak:L[i]? =some ⟨key,.row T xs cap⟩) (hy:bg c E L lo (.of (m:Int))) (eL:bg c E L ar (.of (n:Int))) (agh:bg c E L MZ (.of (k:Int))) (h:m≤n∧n≤k∧k≤xs.length):
 cf c E L ⟨d,.slice t x (some lo) (some ar) (some MZ),ty,pos,af,g⟩ .any:= .pure fun a W s=>by
 obtain⟨ad,aD,aZ⟩:=h
 obtain⟨gG,eM,ev⟩:=eZ.info
 have h1:a.eval x=_:=ao a W s
 have aw:=of_int.1 (hy a W s)
 have aX:=of_int.1 (eL a W s)
 have dc:=of_int.1 (agh a W s)
 have uU:∃ ahl tM,aW key xs.length cap= .slice ahl tM cap∨ (aW key xs.length cap= .slice none 0 0∧k=0):=by
  cases key with
  | some p=>exact⟨_,_,.inl rfl⟩
  | none=>
    have bk:=s.own _ (List.mem_of_getElem? ak)
    have h8:xs= []:=bk.1
    subst h8
    exact⟨none,0,.inr ⟨rfl,by simpa using aZ⟩⟩
 have agi:xs.length≤cap∨key=none:=by
  cases key with
  | none=>exact .inr rfl
  | some p=>
    obtain⟨o,bk,cs,rfl,g1,g2,_⟩:=s.own _ (List.mem_of_getElem? ak)
    exact .inl g2
 cases key with
 | none=>
   have bk:=s.own _ (List.mem_of_getElem? ak)
   have h8:xs= []:=bk.1
   subst h8
   have agj:k=0:=by simpa using aZ
   subst agj
   have r4:n=0:=by omega
   subst r4
   have hi:m=0:=by omega
   subst hi
   have hb:∀ (code:BoundsCode),(Instr.sliceBound (.int .i64 0) 0 code).run c.P W= .ok 0 W:=fun code=>pN (n:=0) (m:=0) (Nat.le_refl _) rfl
   have agk:a.eval lo= .int .i64 0:=aw
   have agl:a.eval ar= .int .i64 0:=aX
   have agm:a.eval MZ= .int .i64 0:=dc
   refine⟨.slice none 0 0,?_,trivial⟩
   simp [execOp,Instr.sliceAt,Instr.slice,Instr.sliceBounds,h1,aW,run_underlying hu,Go.sizeOf,typeInfo,eM,agk,agl,agm,hb]
 | some p=>
   have afc:k≤cap:=by
    rcases agi with h | h
    ·omega
    cases h
   refine⟨.slice (some (if k=m then⟨p,0,none⟩ else⟨p,m * ah.size α,none⟩)) (n - m) (k - m),?_,trivial⟩
   have hb:∀ (a b:Nat) (code:BoundsCode),a≤b→ (Instr.sliceBound (.int .i64 (a:Int)) b code).run c.P W= .ok a W:=fun a b code h=>pN h rfl
   simp [execOp,Instr.sliceAt,Instr.slice,Instr.sliceBounds,h1,aW,run_underlying hu,Go.sizeOf,typeInfo,eM,ev,aw,aX,dc,hb k cap _ afc,hb n k _ aD,hb m n _ ad,jL]
   split <;> rfl
theorem aah {p n cap e:Nat}(hu:c.P.underlying t=some (.slice e))(ao:bg c E L x (.eq (aW (some p) n cap))):cf c E L ⟨d,.call ⟨.builtin .len,#[x],#[t]⟩,ty,pos,af,g⟩ (.of (n:Int)):= .pure fun a W s=>by
 have h1:a.eval x=_:=ao a W s;refine⟨.int .i64 n,?_,of_int.2 rfl⟩;simp [execOp,resolve,invoke,builtin,Builtin.len_,h1,aW,run_underlying hu,goInt]
theorem ae.aag {rest:List Oper}{i e p bf m n cap T:Nat}{α:Type}[ah α]{xs:List α}(hu:c.P.underlying t=some (.slice e))(eZ:bG c.P e α)
 (ao:bg c E L x (.eq (ix (some p) 0 (m - 0) cap (ah.size α)))) (a7:bg c E L y (.eq (ix (some p) n (xs.length - n) cap (ah.size α)))) (ak:L[i]? =some ⟨some p,.row T xs cap⟩) (rY:m<n) (aO:n≤xs.length) (hd:Nat.blt bf c.n=true)
 (k:ae c ops Q rest ((bf,.eq (aW (some p) (m+(xs.length - n)) cap))::E) (L.set i ⟨some p,.row T (xs.take m++xs.drop n++xs.drop (m+(xs.length - n))) cap⟩)):
 ae c ops Q (⟨some bf,.call ⟨.builtin .append,#[x,y],#[t,t]⟩,ty,pos,af,none⟩::rest) E L:=by
 have ju:bg c E L x (.eq (aW (some p) m cap)):=by
  rw [BK,Nat.sub_zero] at ao;exact ao
 rcases Nat.lt_or_ge n xs.length with r6 | r6
 ·have hs:=F6 (k:=xs.length - n) a7 ak (by omega) (by omega)
  rw [show(xs.drop n).take (xs.length - n)=xs.drop n by rw [List.take_of_length_le (by simp)]] at hs
  exact ae.SE hu eZ ju hs (by simp) ak (by omega) rfl hd k
 have bR:xs.length - n=0:=by omega
 rw [bR] at a7 k
 have hs:=YZ (α:=α) a7
 rw [show([]:List α)=xs.drop n by rw [List.drop_of_length_le r6]] at hs
 exact ae.SE hu eZ ju hs (by simp;omega) ak (by omega) rfl hd k
theorem aa.again {z:Exit}{key:Option Nat}{cp:dV}(cp':dV)(i:Nat)(ak:L[i]? =some ⟨key,cp⟩)(h:∀ A W o,cp.holds A W o→cp'.holds A W o)(aO:cp.ni→cp'.ni)(k:aa c Q z E (L.set i ⟨key,cp'⟩)):aa c Q z E L:=fun a W s=>
 k a W (s.again ak h aO)
end
def Dy {α:Type}(xs:List α)(i j:Int):Option (List α):=if 0≤i∧i≤j∧j≤xs.length then some (xs.take i.toNat++xs.drop j.toNat) else none
theorem XQ {α:Type}{xs r:List α}{i j:Int}(h:Dy xs i j=some r):∃ m n:Nat,i=m∧j=n∧m≤n∧n≤xs.length∧r=xs.take m++xs.drop n:=by
 unfold Dy at h;split at h
 ·rename_i aj;refine⟨i.toNat,j.toNat,by omega,by omega,by omega,by omega,?_⟩;cases h;rfl
 cases h
abbrev aA (α:Type):=(α→Prop)→Prop
def aA.of {α:Type}(o:Option α):aA α:=fun Q=> ∃ r,o=some r∧Q r
def aA.bind {α β:Type}(m:aA α)(k:α→aA β):aA β:=fun Q=>m fun r=>k r Q
def aA.ret {α:Type}(x:α):aA α:=fun Q=>Q x
def p1 {σ ε:Type} :Nat→ (σ→aA (σ ⊕ ε))→σ→aA ε
 | 0,_,_=>fun _=>False
 | n+1,b,s=>fun Q=>b s fun r=>match r with
   | .inl cw=>p1 n b cw Q
   | .inr e=>Q e
abbrev aY (cb:Type):=List (Nat×cb)
abbrev Ref:=Option Nat
instance ahx:ah Ref:= .scalar (fun x=>Value.pointer (x.map fun p=>⟨p,0,none⟩)) fun _=>rfl
theorem uE {A W v}{x:Ref} :(I.of x).holds A W v↔v= .pointer (x.map fun p=>⟨p,0,none⟩):=
 ⟨fun h=>o5 h.1 h.2,fun h=>by subst h;exact⟨rfl,rfl⟩⟩
instance:bm Ref:=⟨[.pointer none],fun _ _=>rfl⟩
def aA.mk {cb:Type}(hp:aY cb)(k:cb):aA (Nat×aY cb):=fun Q=> ∀ a:Nat×aY cb,a.1 ∉ hp.map (·.1)∧a.2=(a.1,k)::hp→Q a
theorem aA.uj {cb α:Type}{hp:aY cb}{c:cb}{k:Nat×aY cb→aA α}{R:α→Prop}(h:aA.bind (aA.mk hp c) k R)(a:Nat×aY cb)(bo:a.1 ∉ hp.map (·.1)∧a.2=(a.1,c)::hp):k a R:=h a bo
class fl (cb:Type) where
 h4:Nat→cb→List aN
 root:∀ p k,∃ e∈h4 p k,e.key=some p
def aT {cb:Type}[fl cb]:aY cb→List aN
 | []=>[]
 | (p,k)::r=>fl.h4 p k++aT r
def pat {cb:Type} :aY cb→Nat→Option cb
 | [],_=>none
 | (q,k)::r,p=>if q=p then some k else pat r p
def dx {cb:Type} :aY cb→Nat→cb→aY cb
 | [],_,_=>[]
 | (q,k)::r,p,k'=>if q=p then(q,k')::r else(q,k)::dx r p k'
def fe {cb:Type}(hp:aY cb):List Nat:=hp.map (·.1)
theorem wg {cb:Type}[fl cb]:∀ {hp:aY cb} {p:Nat} {k:cb},pat hp p=some k→ ∃ R,(aT hp).Perm (fl.h4 p k++R)∧ ∀ k',(aT (dx hp p k')).Perm (fl.h4 p k'++R)
 | [],_,_,h=>by simp [pat] at h
 | (q,tO)::r,p,k,h=>by
   simp only [pat] at h;split at h
   ·rename_i e;subst e;simp only [Option.some.injEq] at h;subst h;exact⟨aT r,.refl _,fun k'=>by simp only [dx,if_pos];exact .refl _⟩
   rename_i e;obtain⟨R,h1,ad⟩:=wg h;refine⟨fl.h4 q tO++R,?_,fun k'=>?_⟩
   ·exact(h1.append_left (fl.h4 q tO)).trans (by rw [← List.append_assoc,← List.append_assoc];exact List.perm_append_comm.append_right R)
   simp only [dx,if_neg e];exact((ad k').append_left (fl.h4 q tO)).trans (by rw [← List.append_assoc,← List.append_assoc];exact List.perm_append_comm.append_right R)
theorem QZ {cb:Type}[fl cb]{hp:aY cb}{p:Nat}(h:p∈fe hp):p∈aS (aT hp):=by
 induction hp with
 | nil=>simp [fe] at h
 | cons x r b7=>
   obtain⟨q,k⟩:=x
   simp only [fe,List.map_cons,List.mem_cons] at h
   simp only [aT,e5,List.mem_append]
   rcases h with h | h
   ·subst h
    obtain⟨e,he,hk⟩:=fl.root p k
    exact .inl (lM.2 ⟨e,he,hk⟩)
   exact .inr (b7 h)
theorem la {cb:Type}{hp:aY cb}{p:Nat}{k:cb}(h:pat hp p=some k):p∈fe hp:=by
 induction hp with
 | nil=>simp [pat] at h
 | cons x r b7=>
   simp only [pat] at h
   split at h
   ·rename_i e;simp [fe,e]
   simp only [fe,List.map_cons,List.mem_cons];exact .inr (b7 h)
theorem wB {cb:Type}{hp:aY cb}{p:Nat}{k:cb} :fe (dx hp p k)=fe hp:=by
 induction hp with
 | nil=>rfl
 | cons x r b7=>simp only [dx];split <;> simp_all [fe]
theorem B2 {cb:Type}{hp:aY cb}{p q:Nat}{k:cb} :pat (dx hp p k) q=if p=q then(pat hp p).map (fun _=>k) else pat hp q:=by
 induction hp with
 | nil=>simp [dx,pat]
 | cons x r b7=>
   simp only [dx]
   by_cases e:x.1=p
   ·rw [if_pos e]
    by_cases h:p=q
    ·simp [pat,e,h]
    have: ¬ x.1=q:=fun df=>h (e ▸ df)
    simp [pat,e,h]
   rw [if_neg e]
   by_cases h:p=q
   ·subst h
    rw [if_pos rfl] at b7 ⊢
    simp [pat,e,b7]
   rw [if_neg h] at b7 ⊢
   simp [pat,b7]
section
variable {c:dt} {E:List (Nat×I)} {L:List aN} {ops:Array Oper} {Q:Exit→Act→World→Prop}
variable {d:Option Tmp} {ty:TypeId} {pos:String} {af:Array Edge} {g:Option (Nat×Bool)} {x y:Operand} {t t2:TypeId}
theorem Y0 {L L':List aN}(p:L.Perm L'){A:List Nat}(k:Nat):k∈aS L++A↔k∈aS L'++A:=by
 simp only [List.mem_append];rw [(wA p).mem_iff]
theorem ot {L L':List aN}(p:L.Perm L'){A:List Nat}{W:World} :Ext (aS L++A) W (aS L'++A) W:= .drop fun k hm=>(Y0 p k).2 hm
theorem bg.perm {L':List aN}{x:Operand}{τ:I}(p:L.Perm L')(h:bg c E L x τ):bg c E L' x τ:=fun a W s=>
 τ.mono (ot p) (h a W (s.perm p.symm))
theorem ae.perm {l:List Oper}{L':List aN}(p:L.Perm L')(h:ae c ops Q l E L):ae c ops Q l E L':=fun a W s=>h a W (s.perm p.symm)
theorem eE {x:Operand}{r:Ref}{p:Nat}(ao:bg c E L x (.of r))(h:r=some p):bg c E L x (.eq (.pointer (some ⟨p,0,none⟩))):=fun a W s=>by
 subst h;exact uE.1 (ao a W s)
theorem ss:bg c E L (.const (.pointer none)) (.of (none:Ref)):=fun a W s=>uE.2 rfl
variable {cb:Type} [fl cb] {hp:aY cb} {loc:List aN}
theorem eV {p n:Nat}{k:cb}{e:aN}(ak:L.drop n=aT hp)(h:pat hp p=some k)(hk:fl.h4 p k= [e]):e∈L:=by
 obtain⟨R,h1,_⟩:=wg h;rw [hk] at h1;have:e∈L.drop n:=by rw [ak];exact h1.mem_iff.2 (by simp)
 exact List.mem_of_mem_drop this
theorem kH {L':List aN}{e:aN}(ak:∀ (i:Nat) (e:aN),L[i]? =some e→L'[i]? =some e)(h:e∈L):e∈L':=by
 obtain⟨i,ar⟩:=List.mem_iff_getElem?.1 h;exact List.mem_of_getElem? (ak i e ar)
theorem fW {x:Operand}{t:TypeId}{p o:Nat}{β γ:Type}[ah β][ah γ]{b:β}(l:aI β γ){r:γ}(eD:bG c.P t γ)(ao:bg c E L x (.eq (.pointer (some ⟨p,o,none⟩))))
 (hm:(⟨some p,.var b⟩:aN)∈L) (bk:o=l.off) (aR:l.get b=r):cf c E L ⟨d,.load t x,ty,pos,af,g⟩ (.of r):=by
 obtain⟨i,ar⟩:=List.mem_iff_getElem?.1 hm
 exact dz (i:=i) l eD ao ar bk aR
theorem ae.ZN {x y:Operand}{t:TypeId}{rest:List Oper}{p o:Nat}{k k':cb}{β γ:Type}[ah β][ah γ]{b b':β}{v:γ}(l:aI β γ)(eD:bG c.P t γ)(ao:bg c E (loc++aT hp) x (.eq (.pointer (some ⟨p,o,none⟩))))
 (a7:bg c E (loc++aT hp) y (.of v)) (hp':pat hp p=some k) (hk:fl.h4 p k= [⟨some p,.var b⟩]) (jQ:fl.h4 p k'= [⟨some p,.var b'⟩]) (bk:o=l.off) (hb:l.set b v=b')
 (nE:ae c ops Q rest E (loc++aT (dx hp p k'))):ae c ops Q (⟨none,.store t x y,ty,pos,af,none⟩::rest) E (loc++aT hp):=by
 obtain⟨R,h1,ad⟩:=wg hp'
 have ad:=ad k'
 rw [hk] at h1
 rw [jQ] at ad
 have dg:∀ {z:β} {M:List aN},M.Perm ([⟨some p,.var z⟩]++R)→ (loc++M).Perm (⟨some p,.var z⟩::(loc++R)):=fun h=>(h.append_left loc).trans (by simp only [List.singleton_append];exact List.perm_middle)
 exact ae.perm (dg h1).symm (ae.store (i:=0) l eD (ao.perm (dg h1)) (a7.perm (dg h1)) rfl bk hb (ae.perm (dg ad) nE))
theorem ae.oz {x y:Operand}{t:TypeId}{rest:List Oper}{p o:Nat}{k k':cb}{dq:aY cb}{β γ:Type}[ah β][ah γ]{b b':β}{v:γ}(n:Nat)(ak:L.drop n=aT hp)(l:aI β γ)(eD:bG c.P t γ)(ao:bg c E L x (.eq (.pointer (some ⟨p,o,none⟩))))(a7:bg c E L y (.of v))(hp':pat hp p=some k)(hk:fl.h4 p k= [⟨some p,.var b⟩])(jQ:fl.h4 p k'= [⟨some p,.var b'⟩])(bk:o=l.off)(hb:l.set b v=b')(dS:dx hp p k'=dq)(nE:ae c ops Q rest E (L.take n++aT dq)):ae c ops Q (⟨none,.store t x y,ty,pos,af,none⟩::rest) E L:=by
 subst dS;have e:L=L.take n++aT hp:=by rw [← ak,List.take_append_drop]
 clear ak;generalize L.take n=loc at *;subst e;exact ae.ZN l eD ao a7 hp' hk jQ bk hb nE
theorem bM.fresh {a:Act}{W:World}(s:bM c E (loc++aT hp) a W):W.heap.size ∉ fe hp:=fun h=>by
 have:=s.lt _ (by rw [e5];exact List.mem_append.2 (.inr (QZ h)));omega
theorem ae.acS {t:TypeId}{x:Operand}{rest:List Oper}{bf:Nat}{α:Type}[ah α]{z:α}(mk:cb)(hk:∀ p,fl.h4 p mk= [⟨some p,.var z⟩])(ao:bg c E (loc++aT hp) x (.of z))(aO:Nat.blt bf c.n=true)
 (k:∀ p,p ∉ fe hp→ae c ops Q rest ((bf,.of (some p:Ref))::E) (loc++aT ((p,mk)::hp))):ae c ops Q (⟨some bf,.box t x,ty,pos,af,none⟩::rest) E (loc++aT hp):=fun a W s=>by
 refine h3 rfl (R:=fun v W'=>v= .pointer (some ⟨W.heap.size,0,none⟩)∧W'=W.alloc (.cells (a.eval x).cells t)) (.kX ?_ ⟨rfl,rfl⟩) fun v W' ⟨a6,hw⟩=>?_
 ·simp [execOp,Instr.box,newVar,newRow]
 subst a6
 subst hw
 refine k _ s.fresh _ _ (bM.put ?_ (by simpa using aO) (uE.2 rfl))
 refine(s.alloc (cp:= .var z) ⟨_,t,rfl,(ao a W s).2⟩).perm ?_
 simp only [aT,hk,List.singleton_append]
 exact List.perm_middle.symm
theorem ae.C9 {t:TypeId}{x:Operand}{rest:List Oper}{bf:Nat}{α:Type}[ah α]{z:α}(n:Nat)(ak:L.drop n=aT hp)(mk:cb)(hk:∀ p,fl.h4 p mk= [⟨some p,.var z⟩])(ao:bg c E L x (.of z))(aO:Nat.blt bf c.n=true)(k:∀ a:Nat×aY cb,a.1 ∉ hp.map (·.1)∧a.2=(a.1,mk)::hp→ae c ops Q rest ((bf,.of (some a.1:Ref))::E) (L.take n++aT a.2)):ae c ops Q (⟨some bf,.box t x,ty,pos,af,none⟩::rest) E L:=by
 have e:L=L.take n++aT hp:=by rw [← ak,List.take_append_drop]
 clear ak;generalize L.take n=loc at *;subst e;exact ae.acS mk hk ao aO fun p h=>k (p,(p,mk)::hp) ⟨h,rfl⟩
theorem ou {A B C:List aN} :((A++B)++C).Perm ((A++C)++B):=by
 rw [List.append_assoc,List.append_assoc];exact List.perm_append_comm.append_left A
theorem ae.ij {rest:List Oper}{bf:Nat}{f:FuncId}{xs:List Operand}{ats:Array TypeId}{τs:List I}{Lin Lr:List aN}{δ:Type}{ρ:δ→I}{Lo:δ→List aN}{hq:δ→aY cb}(ew:bL c.P f)(h:bZ c.P f τs (Lin++aT hp) ρ (fun d=>Lo d++aT (hq d)))
 (ao:ik c E ((Lin++Lr)++aT hp) xs τs) (aO:Nat.blt bf c.n=true) (k:∀ q,ae c ops Q rest ((bf,ρ q)::E) ((Lo q++Lr)++aT (hq q))):
 ae c ops Q (⟨some bf,.call ⟨.value (.func f),xs.toArray,ats⟩,ty,pos,af,none⟩::rest) E ((Lin++Lr)++aT hp):=fun a W s=>
 h3 rfl (BH (Lr:=Lr) ew h (s.perm ou) ((ao.holds a W s).mono (ot ou))) fun v W' ⟨q,cw,a6⟩=>
  k q _ _ ((cw.perm ou).put (by simpa using aO) ((ρ q).mono (ot ou) a6))
theorem ae.jg {rest:List Oper}{bf:Nat}{f:FuncId}{xs:List Operand}{ats:Array TypeId}{τs:List I}{Lin Lr:List aN}{δ:Type}{ρ:δ→I}{Lo:δ→List aN}{hq:δ→aY cb}(n m:Nat)(ak:L.drop n=aT hp)(ew:bL c.P f)(h:bZ c.P f τs (Lin++aT hp) ρ (fun d=>Lo d++aT (hq d)))
 (h1:(L.take n).take m=Lin) (ad:(L.take n).drop m=Lr) (ao:ik c E L xs τs) (aO:Nat.blt bf c.n=true) (k:∀ q,ae c ops Q rest ((bf,ρ q)::E) ((Lo q++Lr)++aT (hq q))):
 ae c ops Q (⟨some bf,.call ⟨.value (.func f),xs.toArray,ats⟩,ty,pos,af,none⟩::rest) E L:=by
 have e:L=(Lin++Lr)++aT hp:=by rw [← h1,← ad,List.take_append_drop,← ak,List.take_append_drop]
 clear ak h1 ad
 subst e
 exact ae.ij ew h ao aO k
theorem fi.aaE {f:FuncId}{xs:List Operand}{ats:Array TypeId}{τs:List I}{ρ:I}(ew:bL c.P f)(h:bZ c.P f τs (aT hp) (fun _:Unit=>ρ) (fun _=>aT hp))
 (ao:ik c E (loc++aT hp) xs τs):fi c E (loc++aT hp) ⟨d,.call ⟨.value (.func f),xs.toArray,ats⟩,ty,pos,af,g⟩ ρ:=fun a W s=>by
 have dg:(loc++aT hp).Perm (aT hp++loc):=List.perm_append_comm
 have bk:=BH (d:=d) (ty:=ty) (pos:=pos) (af:=af) (g:=g) (ats:=ats) (Lr:=loc) ew h (s.perm dg) ((ao.holds a W s).mono (ot dg))
 unfold hv at bk ⊢
 exact Oper.wp_mono (fun gX W' ⟨v,h1,_,ad,aD⟩=>⟨v,h1,ad.perm dg.symm,ρ.mono (ot dg.symm) aD⟩) bk
theorem fi.ij {f:FuncId}{xs:List Operand}{ats:Array TypeId}{τs:List I}{ρ:I}(n:Nat)(ak:L.drop n=aT hp)(ew:bL c.P f)(h:bZ c.P f τs (aT hp) (fun _:Unit=>ρ) (fun _=>aT hp))(ao:ik c E L xs τs):fi c E L ⟨d,.call ⟨.value (.func f),xs.toArray,ats⟩,ty,pos,af,g⟩ ρ:=by
 have e:L=L.take n++aT hp:=by rw [← ak,List.take_append_drop]
 clear ak;generalize L.take n=loc at *;subst e;exact fi.aaE ew h ao
theorem IF {P:Program}{e:TypeId}(W:World)(n:Nat){t:TypeId}(a:Option Addr)(h:P.underlying t=some (.pointer e)):(Op.equalIn (n+1) t (.pointer a) (.pointer none)).run P W= .ok a.isNone W:=by
 cases a <;> simp [Op.equalIn,run_underlying h]
theorem mB {r:Ref}{e:TypeId}(hu:c.P.underlying t=some (.pointer e))(ao:bg c E L x (.of r)):cf c E L ⟨d,.binOp .eql t x (.const (.pointer none)) t2,ty,pos,af,g⟩ (.of r.isNone):= .pure fun a W s=>by
 have h1:=uE.1 (ao a W s);refine⟨.bool r.isNone,?_,of_bool.2 rfl⟩;have aO:a.eval (.const (.pointer none))= .pointer none:=rfl;simp only [execOp,eqGuard,binOp,h1,aO,Op.equal,Op.maxDepth];have:=IF (P:=c.P) W 9999 (r.map fun p=>⟨p,0,none⟩) hu;simp only [Option.isNone_map] at this;simp [this]
theorem FF {r:Ref}{e:TypeId}(hu:c.P.underlying t=some (.pointer e))(ao:bg c E L x (.of r)):cf c E L ⟨d,.binOp .neq t x (.const (.pointer none)) t2,ty,pos,af,g⟩ (.of r.isSome):= .pure fun a W s=>by
 have h1:=uE.1 (ao a W s);refine⟨.bool r.isSome,?_,of_bool.2 rfl⟩;have aO:a.eval (.const (.pointer none))= .pointer none:=rfl;simp only [execOp,eqGuard,binOp,h1,aO,Op.equal,Op.maxDepth];have:=IF (P:=c.P) W 9999 (r.map fun p=>⟨p,0,none⟩) hu;simp only [Option.isNone_map] at this;simp [this]
end
theorem Xp {P:Program}{t e el:TypeId}{n:Nat}(h:P.underlying t=some (.array n e))(eZ:bG P e Ref)(hu:P.underlying e=some (.pointer el)){A:List Nat}{W:World}{u v:Value}{x y:Vector Ref n}(ao:(I.of x).holds A W u)(a7:(I.of y).holds A W v)
 (aO:∀ i,i<n→bF y i=none) (d:Nat) (hd:2≤d):(Op.equalIn d t u v).run P W= .ok (decide (x=y)) W:=by
 obtain⟨d,rfl⟩:∃ e,d=e+1:=⟨d - 1,by omega⟩
 obtain⟨h1,ad⟩:=ao
 obtain⟨aD,aZ⟩:=a7
 obtain⟨xs,rfl⟩:∃ cs,u= .agg cs:=by simpa [shaped,ah.agg] using h1
 obtain⟨ys,rfl⟩:∃ cs,v= .agg cs:=by simpa [shaped,ah.agg] using aD
 simp only [Value.cells] at ad aZ
 have ts:xs.toList.length=n * ah.size Ref:=ah.len ad
 have D2:ys.toList.length=n * ah.size Ref:=ah.len aZ
 have sX:∀ i∈List.range' 0 n,((do
  let a ← part e xs (i * ah.size Ref)
  let b ← part e ys (i * ah.size Ref)
  Op.equalIn d e a b):Sem Bool).run P W= .ok (decide (bF x i=bF y i)) W:=by
  intro i ar
  have hx:i<n:=by simpa using ar
  have fc:i * ah.size Ref+ah.size Ref≤n * ah.size Ref:=(aI.idx (α:=Ref) n i hx).gK
  obtain⟨a,bo,tt⟩:=rz (A:=A) (P:=P) (W:=W) (cs:=xs) (off:=i * ah.size Ref) eZ (by simp at ts;omega) ((aI.idx (α:=Ref) n i hx).iV ad)
  obtain⟨b,hb,D3⟩:=rz (A:=A) (P:=P) (W:=W) (cs:=ys) (off:=i * ah.size Ref) eZ (by simp at D2;omega) ((aI.idx (α:=Ref) n i hx).iV aZ)
  simp only [Sem.run_bind,bo,hb,Result.andThen_ok]
  obtain⟨d,rfl⟩:∃ e,d=e+1:=⟨d - 1,by omega⟩
  have aw:=uE.1 tt
  have aX:=uE.1 D3
  subst aw;subst aX
  have agn:(aI.idx (α:=Ref) n i hx).get y=none:=aO i hx
  rw [agn,Option.map_none,IF W d _ hu]
  have dc:bF y i=none:=aO i hx
  rw [dc]
  show Result.ok ((bF x i).map _).isNone W=_
  congr 1
  cases bF x i <;> rfl
 have bb:=IE (P:=P) (W:=W) _ _ _ sX
 have k2:(List.range' 0 n).all (fun i=>decide (bF x i=bF y i))=decide (x=y):=by
  rw [Bool.eq_iff_iff,List.all_eq_true,decide_eq_true_eq];constructor
  ·intro h;apply Vector.ext;intro i ar;have:=h i (by simpa using ar);simpa [bF,ar] using this
  rintro rfl i _;simp
 rw [k2] at bb
 simp only [Op.equalIn,Sem.run_bind,run_underlying h,Result.andThen_ok,eZ.sizeOf,Std.Legacy.Range.forIn_eq_forIn_range']
 simp only [Std.Legacy.Range.size,Nat.sub_zero,Nat.add_one_sub_one,Nat.div_one] at bb ⊢
 simp only [bind_assoc] at bb
 rw [bb]
 by_cases D4:x=y
 ·simp [D4]
 simp [D4]
theorem YI {c:dt}{E:List (Nat×I)}{L:List aN}{d:Option Tmp}{ty:TypeId}{pos:String}{af:Array Edge}{g:Option (Nat×Bool)}{x y:Operand}{t t2 e el:TypeId}{n:Nat}{a b:Vector Ref n}(h:c.P.underlying t=some (.array n e))(eZ:bG c.P e Ref)(hu:c.P.underlying e=some (.pointer el))(bH:c.P.eqGuardType c.P.depth t=false)
 (ao:bg c E L x (.of a)) (a7:bg c E L y (.of b)) (aO:∀ i,i<n→bF b i=none):cf c E L ⟨d,.binOp .eql t x y t2,ty,pos,af,g⟩ (.of (decide (a=b))):= .pure fun A W s=>by
 have h1:=ao A W s
 have ad:=a7 A W s
 obtain⟨xs,h8⟩:∃ cs,A.eval x= .agg cs:=by simpa [shaped,ah.agg] using h1.1
 obtain⟨ys,vn⟩:∃ cs,A.eval y= .agg cs:=by simpa [shaped,ah.agg] using ad.1
 have aD:=Xp h eZ hu h1 ad aO 10000 (by decide)
 rw [h8,vn] at aD
 refine⟨.bool (decide (a=b)),?_,of_bool.2 rfl⟩
 simp only [execOp,h8,vn,Sem.run_bind,run_eqGuard_agg W .eql t x y xs ys bH,Result.andThen_ok,run_eql_struct,aD,Sem.run_pure]
section
variable {c:dt} {E:List (Nat×I)} {L:List aN} {ops:Array Oper} {Q:Exit→Act→World→Prop}
theorem aA.ZO {α β:Type}{o:Option α}{k:α→aA β}{R:β→Prop}(h:aA.bind (aA.of o) k R):∃ r,o=some r∧k r R:=h
theorem Xq {F:Fence}{n:Nat}{P:Program}{body:Code}{σ ε:Type}(b:σ→aA (σ ⊕ ε))(gf:σ→Act→World→Prop)(X:ε→Exit→Act→World→Prop)
 (pV:∀ s R,b s R→ ∀ a W,gf s a W→body.wpIn F n P (fun x a W=>(∃ cw,R (.inl cw)∧x= .normal∧gf cw a W)∨ ∃ e,R (.inr e)∧x≠ .normal∧X e x a W) a W)
 (Q:Exit→Act→World→Prop) (R:ε→Prop) (qA:∀ e x a W,R e→X e x a W→Q x a W) {cF:σ} {N:Nat} (al:p1 N b cF R) {a0:Act} {jx:World} (bR:gf cF a0 jx):
 (Code.loop body).wpIn F n P Q a0 jx:=by
 intro dR k cs zU hb aR
 have key:∀ N s,p1 N b s R→ ∀ a W,gf s a W→
  ∃ x gX W',Q x gX W'∧ArrivesIn (Machine.fenced P F) P (lone (dR.atR a (.code body::.inLoop body::k)) cs W) dR k cs x gX W':=by
  intro N
  induction N with
  | zero=>intro s h;exact h.elim
  | succ N b7=>
    intro s h a W mw
    obtain⟨x,zE,zF,hq,rU⟩:=pV s _ h a W mw dR (.inLoop body::k) cs zU hb aR
    rcases hq with⟨cw,h1,ao,LF⟩ | ⟨e,h1,ao,MO⟩
    ·subst ao
     obtain⟨K5,K6,K7,KD,Ju⟩:=b7 cw h1 zE zF LF
     exact⟨K5,K6,K7,KD,.of_steps (StepsIn.trans rU (.one (fenced_calm hb aR rfl) stepR_inLoop)) Ju⟩
    exact⟨x,zE,zF,qA _ _ _ _ h1 MO,.pass (x:= .inLoop body) rfl (fun _ _=>.inl ao) rU⟩
 obtain⟨x,gX,W',hq,rU⟩:=key N cF al a0 jx bR
 exact⟨x,gX,W',hq,.of_steps (.one (fenced_calm hb aR rfl) stepR_loop) rU⟩
def Hx {σ ε γ δ:Type}(c:dt)(E:σ→γ→List (Nat×I))(L:σ→γ→List aN)(xs:ε→Exit)(gY:ε→δ→List (Nat×I))(Lx:ε→δ→List aN)(R:σ ⊕ ε→Prop):Exit→Act→World→Prop:=fun x a W=>
 (∃ s,R (.inl s)∧x= .normal∧ ∃ g,bM c (E s g) (L s g) a W)∨ ∃ e,R (.inr e)∧x≠ .normal∧x=xs e∧ ∃ g,bM c (gY e g) (Lx e g) a W
theorem aa.JX {σ ε γ δ:Type}{E':σ→γ→List (Nat×I)}{L':σ→γ→List aN}{xs:ε→Exit}{gY:ε→δ→List (Nat×I)}{Lx:ε→δ→List aN}{R:σ ⊕ ε→Prop}{s:σ}(jZ:R (.inl s))(g:γ)(n:Nat)
 (ak:L.drop n=L' s g) (h:gM E (E' s g)):aa c (Hx c E' L' xs gY Lx R) .normal E L:=fun a W st=>.inl ⟨s,jZ,rfl,g,by rw [← ak];exact(st.pg n).less h.look⟩
theorem aa.Ca {σ ε γ δ:Type}{E':σ→γ→List (Nat×I)}{L':σ→γ→List aN}{xs:ε→Exit}{gY:ε→δ→List (Nat×I)}{Lx:ε→δ→List aN}{R:σ ⊕ ε→Prop}{e:ε}{x:Exit}(jZ:R (.inr e))(g:δ)(n:Nat)
 (ao:x=xs e) (aO:x≠ .normal) (ak:L.drop n=Lx e g) (h:gM E (gY e g)):aa c (Hx c E' L' xs gY Lx R) x E L:=fun a W st=>.inr ⟨e,jZ,aO,ao,g,by rw [← ak];exact(st.pg n).less h.look⟩
theorem ag.p1 {σ ε γ δ:Type}{body:Code}{N:Nat}{b:σ→aA (σ ⊕ ε)}{cF:σ}{R:ε→Prop}(al:Gv.p1 N b cF R)
 (E':σ→γ→List (Nat×I)) (L':σ→γ→List aN) (xs:ε→Exit) (gY:ε→δ→List (Nat×I)) (Lx:ε→δ→List aN) (g0:γ) (ak:L=L' cF g0) (aB:gM E (E' cF g0))
 (w0:∀ s R,b s R→ ∀ g,ag c (Hx c E' L' xs gY Lx R) body (E' s g) (L' s g))
 (qA:∀ e,R e→ ∀ g,aa c Q (xs e) (gY e g) (Lx e g)):ag c Q (.loop body) E L:=fun a W st=>by
 subst ak
 exact Xq b (fun s a W=> ∃ g,bM c (E' s g) (L' s g) a W) (fun e x a W=>x=xs e∧ ∃ g,bM c (gY e g) (Lx e g) a W)
  (fun s R hs a W ⟨g,mw⟩=>wpIn_mono (w0 s R hs g a W mw) (fun x a W h=>by
   rcases h with⟨cw,h1,ad,aD⟩ | ⟨e',h1,ad,aD,aZ⟩
   ·exact .inl ⟨cw,h1,ad,aD⟩
   exact .inr ⟨e',h1,ad,aD,aZ⟩)) Q R (fun e x a W jZ ⟨ao,g,hs⟩=>by subst ao;exact qA e jZ g a W hs) al ⟨g0,st.less aB.look⟩
theorem pP {α:Type}{b:Bool}{m n:aA α}{R:α→Prop}(hb:b=true)(h:cond b m n R):m R:=by subst hb;exact h
theorem pQ {α:Type}{b:Bool}{m n:aA α}{R:α→Prop}(hb:b=false)(h:cond b m n R):n R:=by subst hb;exact h
theorem ag.uv {β γ ρ:Type}{oc:ρ→Prop}{x:Operand}{b:Bool}{y z:Code}{aK aP:aA β}{k:β→aA ρ}(h:aA.bind (bif b then aK else aP) k oc)(E':β→γ→List (Nat×I))(L':β→γ→List aN)(al:bg c E L x (.of b))
 (vD:∀ m g,k m oc→aa c Q .normal (E' m g) (L' m g))
 (bP:(∀ m g,k m oc→aa c Q .normal (E' m g) (L' m g))→b=true→aK (fun m=>k m oc)→ag c Q y E L) (bb:(∀ m g,k m oc→aa c Q .normal (E' m g) (L' m g))→b=false→aP (fun m=>k m oc)→ag c Q z E L):ag c Q (.cond x y z) E L:=
 ag.cond al (fun hb=>bP vD hb (pP hb h)) (fun hb=>bb vD hb (pQ hb h))
theorem ag.JW {σ ε γ δ ρ:Type}{body:Code}{N:Nat}{b:σ→aA (σ ⊕ ε)}{cF:σ}{k:ε→aA ρ}{oc:ρ→Prop}(al:aA.bind (Gv.p1 N b cF) k oc)
 (E':σ→γ→List (Nat×I)) (L':σ→γ→List aN) (xs:ε→Exit) (gY:ε→δ→List (Nat×I)) (Lx:ε→δ→List aN) (g0:γ) (ak:L=L' cF g0) (aB:gM E (E' cF g0))
 (w0:∀ s R,b s R→ ∀ g,ag c (Hx c E' L' xs gY Lx R) body (E' s g) (L' s g))
 (qA:∀ e,k e oc→ ∀ g,aa c Q (xs e) (gY e g) (Lx e g)):ag c Q (.loop body) E L:=
 ag.p1 (R:=fun e=>k e oc) al E' L' xs gY Lx g0 ak aB w0 qA
theorem aa7 {n:Nat} :∀ i,i<n→bF (default:Vector Ref n) i=none:=fun i ar=>by
 have:(default:Vector Ref n)=Vector.replicate n none:=rfl;rw [this];simp [bF,ar]
def Dz (s:ByteArray)(i:Int):Option (BitVec 8):=(if 0≤i then s[i.toNat]? else none).map fun b=>BitVec.ofNat 8 b.toNat
theorem Zp {d:Option Tmp}{ty:TypeId}{pos:String}{af:Array Edge}{g:Option (Nat×Bool)}{x y:Operand}{t:TypeId}{s:ByteArray}{i:BitVec 8}{r:BitVec 8}(hu:c.P.underlying t=some .string)(ao:bg c E L x (.of s))(a7:bg c E L y (.of i))(aR:Dz s (i.toNat:Int)=some r):
 cf c E L ⟨d,.index t x y,ty,pos,af,g⟩ (.of r):= .pure fun a W st=>by
 have h1:=QW.1 (ao a W st)
 have ad:=GK.1 (a7 a W st)
 unfold Dz at aR
 cases hb:(if 0≤ (i.toNat:Int) then s[(i.toNat:Int).toNat]? else none) with
 | none=>rw [hb] at aR;cases aR
 | some b=>
   rw [hb] at aR
   simp only [Option.map_some,Option.some.injEq] at aR
   subst aR
   have ct:b.toNat<256:=b.toNat_lt
   refine⟨.int .u8 b.toNat,?_,GK.2 (by simp [BitVec.toNat_ofNat,Nat.mod_eq_of_lt ct])⟩
   have xv:=hb
   simp only [Int.natCast_nonneg,if_true,Int.toNat_natCast] at xv
   simp [execOp,Instr.index,h1,ad,asIntOf,run_underlying hu,xv]
end
structure gE where
 p:Option Nat
 deriving DecidableEq,Inhabited
instance ahw:ah gE:= .scalar (fun x=>Value.map x.p) fun _=>rfl
instance:bm gE:=⟨[.map none],fun _ _=>rfl⟩
theorem uu {A W v}{x:gE} :(I.of x).holds A W v↔v= .map x.p:=
 ⟨fun h=>o5 h.1 h.2,fun h=>by subst h;exact⟨rfl,rfl⟩⟩
theorem l8 {c:dt}{E:List (Nat×I)}{L:List aN}{x:Operand}{r:gE}{p:Nat}(ao:bg c E L x (.of r))(h:r.p=some p):bg c E L x (.of (⟨some p⟩:gE)):=fun a W s=>by
 have:=uu.1 (ao a W s);rw [h] at this;exact uu.2 this
inductive kP {α β:Type}[ah α][ah β](A:List Nat)(W:World):List MapEntry→List (α×β)→Prop
 | nil:kP A W [] []
 | cons {e k v es r} :(I.of k).holds A W e.key→ (I.of v).holds A W e.val→kP A W es r→kP A W (e::es) ((k,v)::r)
theorem kP.mono {α β:Type}[ah α][ah β]{A W c8 W'}(h:Ext A W c8 W'):∀ {es:List MapEntry} {kv:List (α×β)},kP A W es kv→kP c8 W' es kv
 | _,_,.nil=>.nil
 | _,_,.cons h1 ad r=>.cons (I.mono _ h h1) (I.mono _ h ad) (r.mono h)
def dV.map {α β:Type}[ah α][ah β](kv:List (α×β)):dV where
 holds A W o:= ∃ es clock,o= .map es clock∧kP A W es.toList kv∧ (∀ x∈es.toList,x.born<clock)∧ (es.toList.map MapEntry.born).Nodup
 ni:=False
 mono e h:=let⟨es,clock,h1,ad,aD⟩:=h; ⟨es,clock,h1,ad.mono e,aD⟩
def eh {α β:Type}[DecidableEq α]:List (α×β)→α→Option β
 | [],_=>none
 | (k,v)::r,x=>if x=k then some v else eh r x
def ht {α β:Type}[DecidableEq α]:List (α×β)→α→β→List (α×β)
 | [],x,y=>[(x,y)]
 | (k,v)::r,x,y=>if x=k then(x,y)::r else(k,v)::ht r x y
def iy {α β:Type}[DecidableEq α]:List (α×β)→α→List (α×β)
 | [],_=>[]
 | (k,v)::r,x=>if x=k then r else(k,v)::iy r x
class lF (α:Type) [ah α]:Prop where
 uniq:∀ {A W cs c8 W' en} {x:α},ah.rep A W cs x→ah.rep c8 W' en x→cs=en
 plain:∀ {A W cs} {x:α},ah.rep A W cs x→ ∀ v∈cs,∀ n,Instr.sameBits n v v=true
instance:lF Int:=⟨fun h df=>h.trans df.symm,fun h v a6 n=>by subst h;rw [List.mem_singleton.1 a6];simp [Instr.sameBits]⟩
instance:lF (BitVec 64):=⟨fun h df=>h.trans df.symm,fun h v a6 n=>by subst h;rw [List.mem_singleton.1 a6];simp [Instr.sameBits]⟩
instance:lF Bool:=⟨fun h df=>h.trans df.symm,fun h v a6 n=>by subst h;rw [List.mem_singleton.1 a6];simp [Instr.sameBits]⟩
instance {α:Type} [ah α] [Inhabited α] [lF α] {n:Nat} :lF (Vector α n):=⟨fun {A W cs c8 W' en x} h df=>by
 have Al:cs.length=n * ah.size α:=ah.len h;have UE:en.length=n * ah.size α:=ah.len df;have key:∀ m,m≤n→cs.take (m * ah.size α)=en.take (m * ah.size α):=by
  intro m;induction m with
  | zero=>intro _;simp
  | succ m b7=>
    intro hm
    have tv:m<n:=hm
    have aw:=(aI.idx (α:=α) n m tv).iV h
    have aX:=(aI.idx (α:=α) n m tv).iV df
    have dc:=lF.uniq aw aX
    rw [Nat.succ_mul,List.take_add,List.take_add,b7 (by omega)]
    congr 1
 have:=key n (Nat.le_refl _);rwa [← Al,List.take_length,Al,← UE,List.take_length] at this,
 fun {A W cs x} h v a6 k=>by
  have Al:cs.length=n * ah.size α:=ah.len h;obtain⟨i,ar,rfl⟩:=List.getElem_of_mem a6;by_cases hs:ah.size α=0
  ·rw [hs,Nat.mul_zero] at Al;omega
  have hq:i / ah.size α<n:=Nat.div_lt_of_lt_mul (by rw [Al,Nat.mul_comm] at ar;exact ar);have aw:=(aI.idx (α:=α) n (i / ah.size α) hq).iV h;refine lF.plain aw _ ?_ k;have aR:i % ah.size α<ah.size α:=Nat.mod_lt _ (by omega);have hd:=Nat.div_add_mod i (ah.size α);refine List.mem_iff_getElem?.2 ⟨i % ah.size α,?_⟩;simp only [aI.idx];rw [List.getElem?_take,if_pos aR,List.getElem?_drop,Nat.mul_comm,hd];exact List.getElem?_eq_getElem ar⟩
theorem O4 {cs en:List Value}(o s:Nat)(h:(cs.drop o).take s=(en.drop o).take s)(k:cs.drop (o+s)=en.drop (o+s)):cs.drop o=en.drop o:=by
 rw [← List.take_append_drop s (cs.drop o),← List.take_append_drop s (en.drop o),h,List.drop_drop,List.drop_drop,k]
theorem ZP {cs en:List Value}{n:Nat}(h:cs.length=n)(df:en.length=n)(k:cs.drop 0=en.drop 0):cs=en:=by simpa using k
theorem ZQ {cs en:List Value}{n m:Nat}(h:cs.length=n)(df:en.length=n)(k:n≤m):cs.drop m=en.drop m:=by
 rw [List.drop_eq_nil_of_le (by omega),List.drop_eq_nil_of_le (by omega)]
theorem Xr {α:Type}[ah α][lF α]{A W c8 W' u v}{x:α}(h:(I.of x).holds A W u)(df:(I.of x).holds c8 W' v):u=v:=by
 obtain⟨h1,ad⟩:=h;obtain⟨aD,aZ⟩:=df;have bc:=lF.uniq ad aZ;by_cases bo:ah.agg α=true
 ·simp only [shaped,bo,if_true] at h1 aD;obtain⟨a,rfl⟩:=h1;obtain⟨b,rfl⟩:=aD;simp only [Value.cells] at bc;congr 1;exact Array.toList_inj.1 bc
 simp only [Bool.not_eq_true] at bo;simp only [shaped,bo,Bool.false_eq_true,if_false] at h1 aD;rw [cells_one h1,cells_one aD] at bc;simpa using bc
theorem O5 {P:Value→Value→Bool} :∀ {cs:List Value},(∀ v∈cs,P v v=true)→ ((cs.zip cs).all fun(x,y)=>P x y)=true
 | [],_=>rfl
 | a::r,h=>by
   simp only [List.zip_cons_cons,List.all_cons,Bool.and_eq_true];exact⟨h a (by simp),O5 fun v a6=>h v (by simp [a6])⟩
theorem Xs {α:Type}[ah α][lF α]{A W u}{x:α}(h:(I.of x).holds A W u)(n:Nat):Instr.sameBits (n+1) u u=true:=by
 obtain⟨h1,ad⟩:=h;by_cases bo:ah.agg α=true
 ·simp only [shaped,bo,if_true] at h1;obtain⟨a,rfl⟩:=h1;simp only [Value.cells] at ad;simp only [Instr.sameBits,beq_self_eq_true,Bool.true_and];exact O5 fun v a6=>lF.plain ad v a6 n
 simp only [Bool.not_eq_true] at bo;simp only [shaped,bo,Bool.false_eq_true,if_false] at h1;rw [cells_one h1] at ad;exact lF.plain ad u (by simp) _
theorem Yd {α:Type}[ah α][lF α]{P:Program}{A W c8 W' u v}{x:α}(h:(I.of x).holds A W u)(df:(I.of x).holds c8 W' v)(jx:World):(Instr.keyThatStays u v).run P jx= .ok v jx:=by
 have:=Xr h df;subst this;simp [Instr.keyThatStays,Xs h 9999]
def sh (P:Program)(t:TypeId)(α:Type)[ah α](n:Nat):Prop:= ∀ b d A W u (x:α),n≤d→ (I.of x).holds A W u→ (Instr.checkKey b d t u).run P W= .ok () W
theorem OK {P:Program}{t:TypeId}{α:Type}[ah α]{D:TypeDesc}(h:P.underlying t=some D)(hd:(match (motive:=TypeDesc→Bool) D with | .interface _ | .array _ _ | .struct _=>false | _=>true)=true):sh P t α 1:=by
 intro b d A W u x aO ao;obtain⟨d,rfl⟩:∃ e,d=e+1:=⟨d - 1,by omega⟩;simp only [Instr.checkKey,Sem.run_bind,run_underlying h,Result.andThen_ok];cases D <;> simp at hd <;> rfl
theorem NP {P:Program}{W:World}{EE:Type}(f:EE→Sem Unit):∀ (l:List EE),(∀ i∈l,(f i).run P W= .ok () W)→
 (forIn (m:=Sem) l () (fun i _=>do f i;pure (ForInStep.yield ()))).run P W= .ok () W
 | [],_=>by simp
 | i::r,h=>by
   have h1:=h i (by simp);have ad:=NP (P:=P) (W:=W) f r (fun j aF=>h j (by simp [aF]));rw [List.forIn_cons];simp only [Sem.run_bind,h1,Result.andThen_ok,Sem.run_pure];rw [ad]
theorem NI {P:Program}{W:World}{EE:Type}(f:EE→PUnit→Sem (ForInStep PUnit)):∀ (l:List EE),(∀ i∈l,(f i ()).run P W= .ok (.yield ()) W)→ (forIn (m:=Sem) l PUnit.unit f).run P W= .ok () W
 | [],_=>by simp
 | i::r,h=>by
   have h1:=h i (by simp);have ad:=NI (P:=P) (W:=W) f r (fun j aF=>h j (by simp [aF]));rw [List.forIn_cons];simp only [Sem.run_bind,h1,Result.andThen_ok];exact ad
theorem Q0 {P:Program}{t e n k:Nat}{α:Type}[ah α][Inhabited α](h:P.underlying t=some (.array n e))(eZ:bG P e α)(he:sh P e α k):sh P t (Vector α n) (k+1):=by
 intro b d A W u x hd ao;obtain⟨d,rfl⟩:∃ e,d=e+1:=⟨d - 1,by omega⟩;obtain⟨h1,ad⟩:=ao;obtain⟨xs,rfl⟩:∃ cs,u= .agg cs:=by simpa [shaped,ah.agg] using h1
 simp only [Value.cells] at ad;have ts:xs.toList.length=n * ah.size α:=ah.len ad;have sX:∀ i∈List.range' 0 n,((do
  let z ← Go.sizeOf e
  let a ← part e xs (i * z)
  Instr.checkKey b d e a):Sem Unit).run P W= .ok () W:=by
  intro i ar
  have hx:i<n:=by simpa using ar
  have fc:i * ah.size α+ah.size α≤n * ah.size α:=(aI.idx (α:=α) n i hx).gK
  obtain⟨a,bo,tt⟩:=rz (A:=A) (P:=P) (W:=W) (cs:=xs) (off:=i * ah.size α) eZ (by simp at ts;omega) ((aI.idx (α:=α) n i hx).iV ad)
  simp only [Sem.run_bind,eZ.sizeOf,bo,Result.andThen_ok]
  exact he b d A W a _ (by omega) tt
 have bb:=NP (P:=P) (W:=W) _ _ sX;simp only [Instr.checkKey,Sem.run_bind,run_underlying h,Result.andThen_ok,Std.Legacy.Range.forIn_eq_forIn_range'];simp only [Std.Legacy.Range.size,Nat.sub_zero,Nat.add_one_sub_one,Nat.div_one] at bb ⊢;simp only [bind_assoc] at bb;rw [bb];rfl
inductive Ej (P:Program)(β:Type)[ah β](k:Nat):List Field→Prop
 | nil:Ej P β k []
 | cons {γ:Type} [ah γ] {f r} (l:aI β γ):l.off=f.offset→bG P f.type γ→sh P f.type γ k→Ej P β k r→Ej P β k (f::r)
theorem Ye {P:Program}{t k:Nat}{β:Type}[ah β]{fs:Array Field}(bo:ah.agg β=true)(h:P.underlying t=some (.struct fs))(aj:Ej P β k fs.toList):sh P t β (k+1):=by
 intro b d A W u x hd ao;obtain⟨d,rfl⟩:∃ e,d=e+1:=⟨d - 1,by omega⟩;obtain⟨h1,ad⟩:=ao;obtain⟨xs,rfl⟩:∃ cs,u= .agg cs:=by simpa [shaped,bo] using h1
 simp only [Value.cells] at ad;have ts:xs.toList.length=ah.size β:=ah.len ad;have sX:∀ f∈fs.toList,((do
  if f.name≠ "_" then do
   let a ← part f.type xs f.offset
   Instr.checkKey b d f.type a):Sem Unit).run P W= .ok () W:=by
  have key:∀ l,Ej P β k l→ ∀ f∈l,((do
   if f.name≠ "_" then do
    let a ← part f.type xs f.offset
    Instr.checkKey b d f.type a):Sem Unit).run P W= .ok () W:=by
   intro l al
   induction al with
   | nil=>simp
   | cons l bk eZ hk r b7=>
     rename_i f kz
     intro Ak q4
     rcases List.mem_cons.1 q4 with rfl | q4
     ·split
      ·obtain⟨a,bo,tt⟩:=rz (A:=A) (P:=P) (W:=W) (cs:=xs) (off:=l.off) eZ (by have:=l.gK;simp at ts;omega) (l.iV ad)
       rw [← bk]
       simp only [Sem.run_bind,bo,Result.andThen_ok]
       exact hk b d A W a _ (by omega) tt
      rfl
     exact b7 Ak q4
  exact key _ aj
 simp only [Instr.checkKey,Sem.run_bind,run_underlying h,Result.andThen_ok];rw [← Array.forIn_toList,NI]
 ·rfl
 intro f bb;have:=sX f bb;split
 ·rename_i aO;rw [if_pos aO] at this;simp only [Sem.run_bind] at this ⊢;revert this;generalize (part f.type xs f.offset).run P W=r;cases r <;> simp only [Result.andThen] <;> intro h <;> first | rw [h];rfl | cases h
 rfl
structure o0 (P:Program)(t:TypeId)(α:Type)[ah α][DecidableEq α]:Prop where
 check:∀ b A W u (x:α),(I.of x).holds A W u→ (Instr.checkKey b 10000 t u).run P W= .ok () W
 same:∀ A W u v (x y:α),(I.of x).holds A W u→ (I.of y).holds A W v→ (Op.equal t u v).run P W= .ok (decide (x=y)) W
 now:∃ D,P.underlying t=some D∧ ∀ A W u v (x y:α),(I.of x).holds A W u→ (I.of y).holds A W v→Instr.sameNow D u v=none∨Instr.sameNow D u v=some (decide (x=y))
def lO {α β:Type}[DecidableEq α]:List (α×β)→α→Nat→Option (Nat×β)
 | [],_,_=>none
 | (k,v)::r,x,i=>if x=k then some (i,v) else lO r x (i+1)
def Found {α β:Type}[ah α][ah β](A:List Nat)(W:World)(kv:List (α×β)):Option (Nat×Value)→Option (Nat×β)→Prop
 | none,none=>True
 | some (i,u),some (j,v)=>i=j∧ (I.of v).holds A W u
 | _,_=>False
theorem NU {α β:Type}[ah α][ah β][DecidableEq α]{D:TypeDesc}{A:List Nat}{W:World}{u:Value}{x:α}(hu:(I.of x).holds A W u)
 (hs:∀ v (y:α),(I.of y).holds A W v→Instr.sameNow D u v=none∨Instr.sameNow D u v=some (decide (x=y))) (Ek:List (α×β)):∀ {es:List MapEntry} {kv:List (α×β)} (i:Nat),kP A W es kv→
 Instr.findNow D u es i=none∨ ∃ r,Instr.findNow D u es i=some r∧Found A W Ek r (lO kv x i)
 | [],_,i,h=>by cases h;exact .inr ⟨none,rfl,trivial⟩
 | e::es,_,i,h=>by
   cases h with
   | cons h1 ad aD=>
     rename_i k v r
     rcases hs e.key k h1 with aZ | aZ
     ·exact .inl (by simp [Instr.findNow,aZ])
     by_cases hk:x=k
     ·exact .inr ⟨some (i,e.val),by simp [Instr.findNow,aZ,hk],by simp only [lO,if_pos hk];exact⟨rfl,ad⟩⟩
     rcases NU hu hs Ek (i+1) aD with bc | ⟨kz,bc,bu⟩
     ·exact .inl (by simp [Instr.findNow,aZ,hk,bc])
     exact .inr ⟨kz,by simp [Instr.findNow,aZ,hk,bc],by simp only [lO,if_neg hk];exact bu⟩
theorem Nx {α β:Type}[ah α][ah β][DecidableEq α]{P:Program}{t:TypeId}(kU:o0 P t α){A:List Nat}{W:World}{u:Value}{x:α}(hu:(I.of x).holds A W u)(Ek:List (α×β)):∀ {es:List MapEntry} {kv:List (α×β)} (i:Nat),kP A W es kv→
 ∃ r,(Instr.findAsking t u es i).run P W= .ok r W∧Found A W Ek r (lO kv x i)
 | [],_,i,h=>by cases h;exact⟨none,rfl,trivial⟩
 | e::es,_,i,h=>by
   cases h with
   | cons h1 ad aD=>
     rename_i k v r
     have aZ:=kU.same A W u e.key x k hu h1
     by_cases hk:x=k
     ·exact⟨some (i,e.val),by simp [Instr.findAsking,Sem.run_bind,aZ,hk],by simp only [lO,if_pos hk];exact⟨rfl,ad⟩⟩
     obtain⟨kz,bc,bu⟩:=Nx kU hu Ek (i+1) aD
     exact⟨kz,by simp [Instr.findAsking,Sem.run_bind,aZ,hk,bc],by simp only [lO,if_neg hk];exact bu⟩
theorem IG {α β:Type}[ah α][ah β][DecidableEq α]{P:Program}{t:TypeId}(kU:o0 P t α){A:List Nat}{W:World}{u:Value}{x:α}(hu:(I.of x).holds A W u){es:List MapEntry}{kv:List (α×β)}(h:kP A W es kv):
 ∃ r,(Instr.findKey t u es).run P W= .ok r W∧Found A W kv r (lO kv x 0):=by
 obtain⟨D,lD,hs⟩:=kU.now
 rcases NU hu (fun v y a7=>hs A W u v x y hu a7) kv 0 h with h1 | ⟨r,h1,ad⟩
 ·obtain⟨r,aD,aZ⟩:=Nx kU hu kv 0 h
  exact⟨r,by simp [Instr.findKey,Sem.run_bind,run_underlying lD,h1,aD],aZ⟩
 exact⟨r,by simp [Instr.findKey,Sem.run_bind,run_underlying lD,h1],ad⟩
theorem Jg {α β:Type}[ah α][ah β][DecidableEq α]{A:List Nat}{W:World}{x:α} :∀ {es:List MapEntry} {kv:List (α×β)} {j i:Nat} {v:β},kP A W es kv→lO kv x j=some (i,v)→
 ∃ m e,i=j+m∧es[m]? =some e∧ (I.of x).holds A W e.key∧ (∀ (e':MapEntry) (y:β),(I.of x).holds A W e'.key→ (I.of y).holds A W e'.val→kP A W (es.set m e') (ht kv x y))∧kP A W (es.eraseIdx m) (iy kv x)
 | [],_,j,i,v,h,bb=>by cases h;cases bb
 | e::es,_,j,i,v,h,bb=>by
   cases h with
   | cons h1 ad aD=>
     rename_i k vE r
     by_cases hk:x=k
     ·subst hk
      simp only [lO,if_pos] at bb
      simp only [Option.some.injEq,Prod.mk.injEq] at bb
      exact⟨0,e,by omega,rfl,h1,fun e' y g1 g2=>by simp only [ht,if_pos];exact .cons g1 g2 aD,by simp only [iy,if_pos];exact aD⟩
     simp only [lO,if_neg hk] at bb
     obtain⟨m,e',g1,g2,g3,g4,g5⟩:=Jg aD bb
     exact⟨m+1,e',by omega,by simpa using g2,g3,fun L4 y aq dJ=>by simp only [ht,if_neg hk];exact .cons h1 ad (g4 L4 y aq dJ),by simp only [iy,if_neg hk];exact .cons h1 ad g5⟩
theorem IV {α β:Type}[ah α][ah β][DecidableEq α]{A:List Nat}{W:World}{x:α} :∀ {es:List MapEntry} {kv:List (α×β)} {j:Nat},kP A W es kv→lO kv x j=none→
 (∀ (e':MapEntry) (y:β),(I.of x).holds A W e'.key→ (I.of y).holds A W e'.val→kP A W (es++[e']) (ht kv x y))∧iy kv x=kv
 | [],_,j,h,_=>by cases h;exact⟨fun e' y h1 ad=>.cons h1 ad .nil,rfl⟩
 | e::es,_,j,h,bb=>by
   cases h with
   | cons h1 ad aD=>
     rename_i k vE r
     by_cases hk:x=k
     ·simp [lO,hk] at bb
     simp only [lO,if_neg hk] at bb
     obtain⟨g1,g2⟩:=IV aD bb
     exact⟨fun e' y aq dJ=>by simp only [ht,if_neg hk];exact .cons h1 ad (g1 e' y aq dJ),by simp only [iy,if_neg hk,g2]⟩
theorem kP.length {α β:Type}[ah α][ah β]{A W} :∀ {es:List MapEntry} {kv:List (α×β)},kP A W es kv→es.length=kv.length
 | _,_,.nil=>rfl
 | _,_,.cons _ _ r=>by simp [r.length]
theorem On {α β:Type}[DecidableEq α]:∀ (kv:List (α×β)) (x:α) (i:Nat),(lO kv x i).map (·.2)=eh kv x
 | [],_,_=>rfl
 | (k,v)::r,x,i=>by simp only [lO,eh];split <;> simp [On]
section
variable {c:dt} {E:List (Nat×I)} {L:List aN} {ops:Array Oper} {Q:Exit→Act→World→Prop}
variable {d:Option Tmp} {ty:TypeId} {pos:String} {af:Array Edge} {g:Option (Nat×Bool)} {x y z:Operand} {t t2:TypeId}
variable {cb:Type} [fl cb] {hp:aY cb} {loc:List aN}
theorem ae.ZR {α β:Type}[ah α][ah β]{rest:List Oper}{bf:Nat}(mk:cb)(hk:∀ p,fl.h4 p mk= [⟨some p,.map ([]:List (α×β))⟩])(aO:Nat.blt bf c.n=true)
 (k:∀ p,p ∉ fe hp→ae c ops Q rest ((bf,.of (⟨some p⟩:gE))::E) (loc++aT ((p,mk)::hp))):ae c ops Q (⟨some bf,.makeMap t none,ty,pos,af,none⟩::rest) E (loc++aT hp):=fun a W s=>by
 refine h3 rfl (R:=fun v W'=>v= .map (some W.heap.size)∧W'=W.alloc (.map #[] 0)) (.kX ?_ ⟨rfl,rfl⟩) fun v W' ⟨a6,hw⟩=>?_
 ·simp only [execOp,Instr.makeMap,newObj,Sem.run_bind,Sem.run_pure];rfl
 subst a6
 subst hw
 refine k _ s.fresh _ _ (bM.put ?_ (by simpa using aO) (uu.2 rfl))
 refine(s.alloc (cp:= .map ([]:List (α×β))) ⟨#[],0,rfl,.nil,by simp,by simp⟩).perm ?_
 simp only [aT,hk,List.singleton_append]
 exact List.perm_middle.symm
theorem ae.JP {α β:Type}[ah α][ah β]{rest:List Oper}{bf:Nat}(n:Nat)(ak:L.drop n=aT hp)(mk:cb)(hk:∀ p,fl.h4 p mk= [⟨some p,.map ([]:List (α×β))⟩])(aO:Nat.blt bf c.n=true)(k:∀ a:Nat×aY cb,a.1 ∉ hp.map (·.1)∧a.2=(a.1,mk)::hp→ae c ops Q rest ((bf,.of (⟨some a.1⟩:gE))::E) (L.take n++aT a.2)):ae c ops Q (⟨some bf,.makeMap t none,ty,pos,af,none⟩::rest) E L:=by
 have e:L=L.take n++aT hp:=by rw [← ak,List.take_append_drop]
 clear ak;generalize L.take n=loc at *;subst e;exact ae.ZR (α:=α) (β:=β) mk hk aO fun p h=>k (p,(p,mk)::hp) ⟨h,rfl⟩
theorem bM.C1 {a:Act}{W:World}(s:bM c E L a W){p:Nat}{α β:Type}[ah α][ah β]{kv:List (α×β)}(hm:(⟨some p,.map kv⟩:aN)∈L):
 ∃ es clock,W.heap[p]? =some (.map es clock)∧kP (aS L++c.b8) W es.toList kv∧ (∀ x∈es.toList,x.born<clock)∧ (es.toList.map MapEntry.born).Nodup:=by
 obtain⟨o,bk,es,clock,rfl,ad,aD,aZ⟩:=s.own _ hm
 exact⟨es,clock,bk,ad,aD,aZ⟩
theorem Oo {a:Act}{W:World}(s:bM c E L a W){p key elem:Nat}{α β:Type}[ah α][ah β][DecidableEq α][Inhabited β]{kv:List (α×β)}{i:α}(hu:c.P.underlying t=some (.map key elem))(kU:o0 c.P key α)(hl:cR c.P elem (default:β))
 (ao:bg c E L x (.of (⟨some p⟩:gE))) (a7:bg c E L y (.of i)) (hm:(⟨some p,.map kv⟩:aN)∈L):
 ∃ u,(I.of ((eh kv i).getD default)).holds (aS L++c.b8) W u∧ ∀ ok,(Instr.lookup t (a.eval x) (a.eval y) ok).run c.P W= .ok (if ok then .tuple #[u,.bool (eh kv i).isSome] else u) W:=by
 obtain⟨es,clock,bk,ad,aD,aZ⟩:=s.C1 hm
 have ju:=uu.1 (ao a W s)
 have pA:=a7 a W s
 obtain⟨r,aR,bb⟩:=IG kU pA ad
 obtain⟨gG,eG,eM,dS,LO⟩:=hl.zero
 have bH:(getObj p).run c.P W= .ok (.map es clock) W:=by simp [getObj,Sem.run,bk]
 have aj:=fun b=>kU.check b _ W _ i pA
 have z8:=On kv i 0
 cases qc:lO kv i 0 with
 | none=>
   rw [qc] at bb z8
   cases r with
   | some q=>exact bb.elim
   | none=>
     refine⟨eG,by rw [← z8];exact LO _ W,fun ok=>?_⟩
     rw [← z8]
     simp [Instr.lookup,Sem.run_bind,run_underlying hu,ju,bH,aj,aR,zeroValue,typeInfo,eM,dS]
 | some q=>
   rw [qc] at bb z8
   cases r with
   | none=>exact bb.elim
   | some na=>
     refine⟨na.2,by rw [← z8];exact bb.2,fun ok=>?_⟩
     rw [← z8]
     simp [Instr.lookup,Sem.run_bind,run_underlying hu,ju,bH,aj,aR]
theorem wz {p key elem:Nat}{α β:Type}[ah α][ah β][DecidableEq α][Inhabited β]{kv:List (α×β)}{i:α}{r:β}(hu:c.P.underlying t=some (.map key elem))(kU:o0 c.P key α)(hl:cR c.P elem (default:β))
 (ao:bg c E L x (.of (⟨some p⟩:gE))) (a7:bg c E L y (.of i)) (hm:(⟨some p,.map kv⟩:aN)∈L) (aR:(eh kv i).getD default=r):
 cf c E L ⟨d,.lookup t x y false,ty,pos,af,g⟩ (.of r):= .pure fun a W s=>by
 subst aR
 obtain⟨u,h1,ad⟩:=Oo s hu kU hl ao a7 hm
 have aD:=ad false
 exact⟨u,by simp only [execOp,Sem.run_bind,aD,Result.andThen_ok];rfl,h1⟩
theorem I7 {p key elem:Nat}{α β:Type}[ah α][ah β][DecidableEq α][Inhabited β]{kv:List (α×β)}{i:α}{r:Option β}(hu:c.P.underlying t=some (.map key elem))(kU:o0 c.P key α)(hl:cR c.P elem (default:β))
 (ao:bg c E L x (.of (⟨some p⟩:gE))) (a7:bg c E L y (.of i)) (hm:(⟨some p,.map kv⟩:aN)∈L) (aR:eh kv i=r):
 cf c E L ⟨d,.lookup t x y true,ty,pos,af,g⟩ (.eu [.of (r.getD default),.of r.isSome]):= .pure fun a W s=>by
 subst aR
 obtain⟨u,h1,ad⟩:=Oo s hu kU hl ao a7 hm
 have aD:=ad true
 exact⟨_,by simp only [execOp,Sem.run_bind,aD,Result.andThen_ok];rfl,_,rfl,.cons h1 (.cons (of_bool.2 rfl) .nil)⟩
theorem Y1 {es:List MapEntry}{m:Nat}{e e':MapEntry}(h:es[m]? =some e)(hb:e'.born=e.born):(es.set m e').map MapEntry.born=es.map MapEntry.born:=by
 apply List.ext_getElem?;intro j;simp only [List.getElem?_map,List.getElem?_set];split
 ·rename_i aF;subst aF;have:=(List.getElem?_eq_some_iff.1 h).1;rw [if_pos this,h];simp [hb]
 rfl
theorem ae.aaF {rest:List Oper}{op:Op}(tq:op= .mapUpdate t x y z∨op= .insert t x y z){p key elem:Nat}{k k':cb}{α β:Type}[ah α][ah β][lF α][DecidableEq α]{kv q6:List (α×β)}{i:α}{v:β}(hu:c.P.underlying t=some (.map key elem))(kU:o0 c.P key α)
 (ao:bg c E (loc++aT hp) x (.of (⟨some p⟩:gE))) (a7:bg c E (loc++aT hp) y (.of i)) (dS:bg c E (loc++aT hp) z (.of v)) (hp':pat hp p=some k) (hk:fl.h4 p k= [⟨some p,.map kv⟩]) (xD:ht kv i v=q6) (jQ:fl.h4 p k'= [⟨some p,.map q6⟩])
 (nE:ae c ops Q rest E (loc++aT (dx hp p k'))):ae c ops Q (⟨none,op,ty,pos,af,none⟩::rest) E (loc++aT hp):=fun a W s=>by
 subst xD
 obtain⟨es,clock,bk,ad,aD,aZ⟩:=s.C1 (eV (n:=loc.length) (by simp) hp' hk)
 have ju:=uu.1 (ao a W s)
 have pA:=a7 a W s
 have TZ:=dS a W s
 obtain⟨r,aR,bb⟩:=IG kU pA ad
 have bH:(getObj p).run c.P W= .ok (.map es clock) W:=by simp [getObj,Sem.run,bk]
 have aj:=kU.check false _ W _ i pA
 have ct:p<W.heap.size:=(Array.getElem?_eq_some_iff.1 bk).1
 have kK:∀ o,(setObj p o).run c.P W= .ok () (W.putObj p o):=fun o=>by simp only [setObj,Sem.run,bk];rfl
 have key:∃ mu wJ,(Instr.mapUpdate t (a.eval x) (a.eval y) (a.eval z)).run c.P W= .ok () (W.putObj p (.map mu wJ))∧kP (aS (loc++aT hp)++c.b8) W mu.toList (ht kv i v)∧ (∀ x∈mu.toList,x.born<wJ)∧ (mu.toList.map MapEntry.born).Nodup:=by
  cases qc:lO kv i 0 with
  | none=>
    rw [qc] at bb
    cases r with
    | some q=>exact bb.elim
    | none=>
      obtain⟨g1,_⟩:=IV ad qc
      refine⟨es.push { key:=a.eval y,val:=a.eval z,born:=clock },clock+1,by simp [Instr.mapUpdate,Sem.run_bind,run_underlying hu,ju,bH,aj,aR,kK],by simpa using g1 { key:=a.eval y,val:=a.eval z,born:=clock } v pA TZ,?_,?_⟩
      ·intro q hq
       simp only [Array.toList_push,List.mem_append,List.mem_singleton] at hq
       rcases hq with hq | rfl
       ·exact Nat.lt_succ_of_lt (aD q hq)
       exact Nat.lt_succ_self _
      simp only [Array.toList_push,List.map_append,List.map_cons,List.map_nil]
      refine List.nodup_append.2 ⟨aZ,by simp,fun b hb b' xv=>?_⟩
      simp only [List.mem_singleton] at xv
      subst xv
      obtain⟨q,hq,rfl⟩:=List.mem_map.1 hb
      exact Nat.ne_of_lt (aD q hq)
  | some q=>
    rw [qc] at bb
    cases r with
    | none=>exact bb.elim
    | some na=>
      obtain⟨m,e,g1,g2,g3,g4,_⟩:=Jg ad qc
      have jT:na.1=m:=by have:=bb.1;omega
      have hq:es[m]? =some e:=by simpa using g2
      have kN:=Yd (P:=c.P) g3 pA W
      let e':MapEntry:= { e with key:=a.eval y,val:=a.eval z }
      have xh:(es.modify m fun e=>{ e with key:=a.eval y,val:=a.eval z }).toList=es.toList.set m e':=by
       apply List.ext_getElem?;intro j;rw [Array.getElem?_toList,Array.getElem?_modify,List.getElem?_set,Array.getElem?_toList];by_cases aF:m=j
       ·subst aF;rw [if_pos rfl,if_pos rfl,hq,if_pos (by simpa using (Array.getElem?_eq_some_iff.1 hq).1)];rfl
       rw [if_neg aF,if_neg aF]
      refine⟨es.modify m fun e=>{ e with key:=a.eval y,val:=a.eval z },clock,by simp [Instr.mapUpdate,Sem.run_bind,run_underlying hu,ju,bH,aj,aR,kK,jT,hq,kN],by rw [xh];exact g4 e' v pA TZ,?_,?_⟩
      ·rw [xh]
       intro w hw
       rcases List.mem_or_eq_of_mem_set hw with hw | rfl
       ·exact aD w hw
       exact aD e (List.mem_of_getElem? g2)
      rw [xh,Y1 (e':=e') g2 rfl];exact aZ
 obtain⟨mu,wJ,iP,aw,aX,dc⟩:=key
 obtain⟨R,aK,aP⟩:=wg hp'
 have aP:=aP k'
 rw [hk] at aK
 rw [jQ] at aP
 have dg:∀ {z:List (α×β)} {M:List aN},M.Perm ([⟨some p,.map z⟩]++R)→ (loc++M).Perm (⟨some p,.map z⟩::(loc++R)):=fun h=>(h.append_left loc).trans (by simp only [List.singleton_append];exact List.perm_middle)
 have cw:=(s.perm (dg aK)).qL (i:=0) (cp':= .map (ht kv i v)) rfl (o':= .map mu wJ) ⟨mu,wJ,rfl,aw.mono (ot (dg aK)),aX,dc⟩
 refine h3 rfl (R:=fun v W'=>W'=W.putObj p (.map mu wJ)) (.yV ?_ rfl) fun v W' hw=>?_
 ·rcases tq with rfl | rfl <;> simp [execOp,iP]
 subst hw
 exact nE _ _ (cw.perm (dg aP).symm)
theorem ae.Ki {rest:List Oper}{op:Op}(n:Nat)(ak:L.drop n=aT hp)(tq:op= .mapUpdate t x y z∨op= .insert t x y z){p key elem:Nat}{k k':cb}{dq:aY cb}{α β:Type}[ah α][ah β][lF α][DecidableEq α]{kv q6:List (α×β)}{i:α}{v:β}(hu:c.P.underlying t=some (.map key elem))(kU:o0 c.P key α)(ao:bg c E L x (.of (⟨some p⟩:gE)))(a7:bg c E L y (.of i))(dS:bg c E L z (.of v))(hp':pat hp p=some k)(hk:fl.h4 p k= [⟨some p,.map kv⟩])(xD:ht kv i v=q6)(jQ:fl.h4 p k'= [⟨some p,.map q6⟩])(dS:dx hp p k'=dq)(nE:ae c ops Q rest E (L.take n++aT dq)):ae c ops Q (⟨none,op,ty,pos,af,none⟩::rest) E L:=by
 subst dS;have e:L=L.take n++aT hp:=by rw [← ak,List.take_append_drop]
 clear ak;generalize L.take n=loc at *;subst e;exact ae.aaF tq hu kU ao a7 dS hp' hk xD jQ nE
theorem ae.aaG {rest:List Oper}{p key elem:Nat}{k k':cb}{α β:Type}[ah α][ah β][DecidableEq α]{kv q6:List (α×β)}{i:α}(hu:c.P.underlying t=some (.map key elem))(kU:o0 c.P key α)
 (ao:bg c E (loc++aT hp) x (.of (⟨some p⟩:gE))) (a7:bg c E (loc++aT hp) y (.of i)) (hp':pat hp p=some k) (hk:fl.h4 p k= [⟨some p,.map kv⟩]) (xD:iy kv i=q6) (jQ:fl.h4 p k'= [⟨some p,.map q6⟩])
 (nE:ae c ops Q rest E (loc++aT (dx hp p k'))):ae c ops Q (⟨none,.call ⟨.builtin .delete,#[x,y],#[t,t2]⟩,ty,pos,af,none⟩::rest) E (loc++aT hp):=fun a W s=>by
 subst xD
 obtain⟨es,clock,bk,ad,aD,aZ⟩:=s.C1 (eV (n:=loc.length) (by simp) hp' hk)
 have ju:=uu.1 (ao a W s)
 have pA:=a7 a W s
 obtain⟨r,aR,bb⟩:=IG kU pA ad
 have bH:(getObj p).run c.P W= .ok (.map es clock) W:=by simp [getObj,Sem.run,bk]
 have aj:=fun b=>kU.check b _ W _ i pA
 have kK:∀ o,(setObj p o).run c.P W= .ok () (W.putObj p o):=fun o=>by simp only [setObj,Sem.run,bk];rfl
 have key:∃ mu,(Builtin.delete_ #[t,t2] ty #[a.eval x,a.eval y]).run c.P W= .ok (.tuple #[]) (W.putObj p (.map mu clock))∧kP (aS (loc++aT hp)++c.b8) W mu.toList (iy kv i)∧ (∀ x∈mu.toList,x.born<clock)∧ (mu.toList.map MapEntry.born).Nodup:=by
  cases qc:lO kv i 0 with
  | none=>
    rw [qc] at bb
    cases r with
    | some q=>exact bb.elim
    | none=>
      obtain⟨_,g1⟩:=IV ad qc
      exact⟨es,by simp [Builtin.delete_,Sem.run_bind,run_underlying hu,ju,bH,aj,aR,kK],by rw [g1];exact ad,aD,aZ⟩
  | some q=>
    rw [qc] at bb
    cases r with
    | none=>exact bb.elim
    | some na=>
      obtain⟨m,e,g1,g2,_,_,g5⟩:=Jg ad qc
      have jT:na.1=m:=by have:=bb.1;omega
      have hm:m<es.size:=by simpa using (List.getElem?_eq_some_iff.1 g2).1
      have he:(es.eraseIdxIfInBounds m).toList=es.toList.eraseIdx m:=by simp [Array.eraseIdxIfInBounds,hm]
      have lh:(es.toList.eraseIdx m).Sublist es.toList:=List.eraseIdx_sublist _ _
      exact⟨es.eraseIdxIfInBounds m,by simp [Builtin.delete_,Sem.run_bind,run_underlying hu,ju,bH,aj,aR,kK,jT],by rw [he];exact g5,by rw [he];exact fun w hw=>aD w (lh.subset hw),by rw [he];exact(lh.map _).nodup aZ⟩
 obtain⟨mu,iP,aw,aX,dc⟩:=key
 obtain⟨R,aK,aP⟩:=wg hp'
 have aP:=aP k'
 rw [hk] at aK
 rw [jQ] at aP
 have dg:∀ {z:List (α×β)} {M:List aN},M.Perm ([⟨some p,.map z⟩]++R)→ (loc++M).Perm (⟨some p,.map z⟩::(loc++R)):=fun h=>(h.append_left loc).trans (by simp only [List.singleton_append];exact List.perm_middle)
 have cw:=(s.perm (dg aK)).qL (i:=0) (cp':= .map (iy kv i)) rfl (o':= .map mu clock) ⟨mu,clock,rfl,aw.mono (ot (dg aK)),aX,dc⟩
 refine h3 rfl (R:=fun v W'=>W'=W.putObj p (.map mu clock)) (.kX (v:= .tuple #[]) ?_ rfl) fun v W' hw=>?_
 ·simp [execOp,resolve,invoke,builtin,iP]
 subst hw
 exact nE _ _ (cw.perm (dg aP).symm)
theorem ae.Kq {rest:List Oper}{p key elem:Nat}{k k':cb}{dq:aY cb}{α β:Type}[ah α][ah β][DecidableEq α]{kv q6:List (α×β)}{i:α}(n:Nat)(ak:L.drop n=aT hp)(hu:c.P.underlying t=some (.map key elem))(kU:o0 c.P key α)(ao:bg c E L x (.of (⟨some p⟩:gE)))(a7:bg c E L y (.of i))(hp':pat hp p=some k)(hk:fl.h4 p k= [⟨some p,.map kv⟩])(xD:iy kv i=q6)(jQ:fl.h4 p k'= [⟨some p,.map q6⟩])(dS:dx hp p k'=dq)(nE:ae c ops Q rest E (L.take n++aT dq)):ae c ops Q (⟨none,.call ⟨.builtin .delete,#[x,y],#[t,t2]⟩,ty,pos,af,none⟩::rest) E L:=by
 subst dS;have e:L=L.take n++aT hp:=by rw [← ak,List.take_append_drop]
 clear ak;generalize L.take n=loc at *;subst e;exact ae.aaG hu kU ao a7 hp' hk xD jQ nE
theorem Zn {p key elem:Nat}{α β:Type}[ah α][ah β]{kv:List (α×β)}(hu:c.P.underlying t=some (.map key elem))(ao:bg c E L x (.of (⟨some p⟩:gE)))(hm:(⟨some p,.map kv⟩:aN)∈L):
 cf c E L ⟨d,.call ⟨.builtin .len,#[x],#[t]⟩,ty,pos,af,g⟩ (.of (kv.length:Int)):= .pure fun a W s=>by
 obtain⟨es,clock,bk,ad,aD,aZ⟩:=s.C1 hm
 have ju:=uu.1 (ao a W s)
 have bH:(getObj p).run c.P W= .ok (.map es clock) W:=by simp [getObj,Sem.run,bk]
 have al:es.size=kv.length:=by simpa using ad.length
 refine⟨.int .i64 kv.length,?_,of_int.2 rfl⟩
 simp [execOp,resolve,invoke,builtin,Builtin.len_,ju,bH,al,run_underlying hu,goInt]
end
theorem aaH {P:Program}{t:TypeId}(h:P.underlying t=some (.int .i64)):o0 P t Int where
 check b A W u x ao:=OK (α:=Int) h rfl b 10000 A W u x (by decide) ao
 same A W u v x y ao a7:=by
  have:=(PJ h).run 10000 (by decide) A W u v x y ao a7;simpa [Op.equal,Op.maxDepth] using this
 now:=⟨_,h,fun A W u v x y ao a7=>.inr (by
  rw [of_int.1 ao,of_int.1 a7];simp only [Instr.sameNow,if_pos];rfl)⟩
theorem Q1 {P:Program}{t:TypeId}{α:Type}[ah α][DecidableEq α]{D:TypeDesc}{n m:Nat}(h:P.underlying t=some D)(lD:(match (motive:=TypeDesc→Bool) D with | .array _ _ | .struct _=>true | _=>false)=true)(ahm:sh P t α n)(xW:mS P t α m)(aO:Nat.ble n 10000=true)(hm:Nat.ble m 10000=true):o0 P t α where
 check b A W u x ao:=ahm b 10000 A W u x (Nat.le_of_ble_eq_true aO) ao
 same A W u v x y ao a7:=by
  have:=xW.run 10000 (Nat.le_of_ble_eq_true hm) A W u v x y ao a7;simpa [Op.equal,Op.maxDepth] using this
 now:=⟨_,h,fun A W u v x y ao a7=>.inl (by cases D <;> simp at lD <;> rfl)⟩
structure iT (P:Program)(t:TypeId)(name:String)(f:FuncId):Prop where
 run:∀ v W args,(callMethod (.iface t v) name args).run P W= .ok (.enter f (#[v]++args)) W
theorem iT.of {P:Program}{t:TypeId}{name:String}{f:FuncId}{i:TypeInfo}{D:TypeDesc}{m:Method}(ar:P.info? t=some i)(hm:i.methods.find? (fun x=>x.name==name)=some m)(hp:m.path= #[])(bb:m.func=some (f,false))(lD:P.underlying t=some D)
 (aO:(match (motive:=TypeDesc→Bool) D with | .pointer _=>false | _=>true)=true) (ew:bL P f):iT P t name f where
 run v W args:=by
  have ago:∀ args,(callFunc f args).run P W= .ok (.enter f args) W:=fun args=>ew.run ..;have dP:∀ n,(method (n+1) t v name).run P W= .ok (f,v) W:=fun n=>by
   simp only [method,Sem.run_bind,typeInfo,run_program,Result.andThen_ok,ar,Sem.run_pure,hm,hp,bb,follow,receiverAt,run_underlying lD];cases D <;> simp at aO <;> simp [Place.get]
  obtain⟨n,aO⟩:∃ n,P.types.size+Made.depth=n+1:=⟨P.types.size+Made.depth - 1,by simp [Made.depth]⟩;simp only [callMethod,Sem.run_bind,run_program,Result.andThen_ok,aO,dP,ago]
theorem iT.qd {P:Program}{t:TypeId}{name:String}{f:FuncId}{D:TypeDesc}(hm:((P.info? t).bind fun i=>(i.methods.find? (fun x=>x.name==name)).map fun m=>(m.path.size,m.func))=some (0,some (f,false)))(lD:P.underlying t=some D)
 (aO:(match (motive:=TypeDesc→Bool) D with | .pointer _=>false | _=>true)=true) (ew:bL P f):iT P t name f:=by
 cases ar:P.info? t with
 | none=>rw [ar] at hm;cases hm
 | some i=>
   rw [ar] at hm
   simp only [Option.bind_some] at hm
   cases ad:i.methods.find? (fun x=>x.name==name) with
   | none=>rw [ad] at hm;cases hm
   | some m=>
     rw [ad] at hm
     simp only [Option.map_some,Option.some.injEq,Prod.mk.injEq] at hm
     exact iT.of ar ad (Array.eq_empty_of_size_eq_zero hm.1) hm.2 lD aO ew
theorem bZ.map {P:Program}{f:FuncId}{τs:List I}{Lin:List aN}{δ xE:Type}{ρ:δ→I}{Lo:δ→List aN}{vt:xE→I}{T0:xE→List aN}(F:δ→xE)(aR:∀ d,vt (F d)=ρ d)(al:∀ d,T0 (F d)=Lo d)(h:bZ P f τs Lin ρ Lo):bZ P f τs Lin vt T0:=
 fun A W vs h1 ad aD aZ bc=>(h A W vs h1 ad aD aZ bc).mono fun e W' ⟨v,d,aq,dJ,bt,fD,hj,jG⟩=>⟨v,F d,aq,dJ,by rw [al];exact bt,by rw [al];exact fD,by rw [al];exact hj,by rw [al,aR];exact jG⟩
structure kW (P:Program)(name:String)(τ:I)(τs:List I)(Lin:List aN){δ:Type}(ρ:δ→I)(Lo:δ→List aN):Prop where
 go:∀ (A:List Nat) (W:World) (u:Value) (vs:List Value),(∀ k∈A,k<W.heap.size∧k ∉ aS Lin)→ (aS Lin).Nodup→ (∀ k∈aS Lin,k<W.heap.size)→ (∀ e∈Lin,e.ok (aS Lin++A) W)→hc (aS Lin++A) W (τ::τs) (u::vs)→
  ∃ f v,(∀ args,(callMethod u name args).run P W= .ok (.enter f (#[v]++args)) W)∧Calls P f (v::vs).toArray W (kG (aS Lin) A W ρ Lo)
theorem kW.of {P:Program}{name:String}{t:TypeId}{f:FuncId}{τ σ:I}{τs:List I}{Lin:List aN}{δ:Type}{ρ:δ→I}{Lo:δ→List aN}(mt:iT P t name f)(L5:∀ A W u,τ.holds A W u→ ∃ v,u= .iface t v∧σ.holds A W v)
 (h:bZ P f (σ::τs) Lin ρ Lo):kW P name τ τs Lin ρ Lo where
 go A W u vs h1 ad aD aZ bc:=by
  cases bc with
  | cons bu dh=>
    obtain⟨v,rfl,fk⟩:=L5 _ _ _ bu
    exact⟨f,v,fun args=>mt.run v W args,h A W (v::vs) h1 ad aD aZ (.cons fk dh)⟩
section
variable {c:dt} {E:List (Nat×I)} {L:List aN} {ops:Array Oper} {Q:Exit→Act→World→Prop}
variable {d:Option Tmp} {ty:TypeId} {pos:String} {af:Array Edge} {g:Option (Nat×Bool)} {x y z:Operand} {t t2:TypeId}
theorem O6 {a:Act}{W:World}{name:String}{xs:List Operand}{ats:Array TypeId}{τ:I}{τs:List I}{Lin Lr:List aN}{δ:Type}{ρ:δ→I}{Lo:δ→List aN}(h:kW c.P name τ τs Lin ρ Lo)
 (s:bM c E (Lin++Lr) a W) (ao:hc (aS (Lin++Lr)++c.b8) W (τ::τs) ((x::xs).map a.eval)):
 hv c.P ⟨d,.call ⟨.invoke x name,xs.toArray,ats⟩,ty,pos,af,g⟩ a W fun v W'=> ∃ bf,bM c E (Lo bf++Lr) a W'∧ (ρ bf).holds (aS (Lo bf++Lr)++c.b8) W' v:=by
 have mN:=s.nodup
 rw [e5] at mN
 obtain⟨n9,px,q1⟩:=List.nodup_append.1 mN
 have kK:Ext (aS (Lin++Lr)++c.b8) W (aS Lin++(aS Lr++c.b8)) W:=B1
 have gk:∀ k∈aS Lr++c.b8,k<W.heap.size∧k ∉ aS Lin:=fun k hm=>by
  rcases List.mem_append.1 hm with hm | hm
  ·exact⟨s.lt k (by rw [e5];exact List.mem_append.2 (.inr hm)),fun h=>q1 k h k hm rfl⟩
  obtain⟨h1,ad⟩:=s.fb k hm;exact⟨h1,fun h=>ad (by rw [e5];exact List.mem_append.2 (.inl h))⟩
 have ct:∀ k∈aS Lin,k<W.heap.size:=fun k hm=>s.lt k (by rw [e5];exact List.mem_append.2 (.inl hm))
 obtain⟨f,v,iP,aj⟩:=h.go (aS Lr++c.b8) W (a.eval x) (xs.map a.eval) gk n9 ct (fun e he=>aN.uo (s.own e (List.mem_append.2 (.inl he))) kK fun _ _=>rfl) (by simpa using ao.mono kK)
 refine .wm (f:=f) (args:=(v::xs.map a.eval).toArray) (W':=W) ?_ (aj.mono fun e W' ⟨v,bf,he,bb,h1,ad,aD,aZ⟩=>?_)
 ·have:=iP (xs.map a.eval).toArray
  simp only [execOp,resolve,Sem.run_bind,Sem.run_pure,Result.andThen_ok,invoke]
  simp only [List.map_toArray] at this ⊢
  simp
  rw [List.take_of_length_le (by simp),this]
  simp
 refine⟨v,he,bf,s.after bb h1 ad aD,(ρ bf).mono Jf aZ⟩
variable {cb:Type} [fl cb] {hp:aY cb}
theorem ae.zB {rest:List Oper}{bf:Nat}{name:String}{xs:List Operand}{ats:Array TypeId}{τ:I}{τs:List I}{Lin Lr:List aN}{δ:Type}{ρ:δ→I}{Lo:δ→List aN}{hq:δ→aY cb}(n m:Nat)(ak:L.drop n=aT hp)(h:kW c.P name τ τs (Lin++aT hp) ρ (fun d=>Lo d++aT (hq d)))
 (h1:(L.take n).take m=Lin) (ad:(L.take n).drop m=Lr) (ao:ik c E L (x::xs) (τ::τs)) (aO:Nat.blt bf c.n=true) (k:∀ q,ae c ops Q rest ((bf,ρ q)::E) ((Lo q++Lr)++aT (hq q))):
 ae c ops Q (⟨some bf,.call ⟨.invoke x name,xs.toArray,ats⟩,ty,pos,af,none⟩::rest) E L:=by
 have e:L=(Lin++Lr)++aT hp:=by rw [← h1,← ad,List.take_append_drop,← ak,List.take_append_drop]
 clear ak h1 ad
 subst e
 exact fun a W s=>h3 rfl (O6 (Lr:=Lr) h (s.perm ou) ((ao.holds a W s).mono (ot ou))) fun v W' ⟨q,cw,a6⟩=>
  k q _ _ ((cw.perm ou).put (by simpa using aO) ((ρ q).mono (ot ou) a6))
theorem fi.zB {name:String}{xs:List Operand}{ats:Array TypeId}{τ:I}{τs:List I}{ρ:I}(n:Nat)(ak:L.drop n=aT hp)(h:kW c.P name τ τs (aT hp) (fun _:Unit=>ρ) (fun _=>aT hp))
 (ao:ik c E L (x::xs) (τ::τs)):fi c E L ⟨d,.call ⟨.invoke x name,xs.toArray,ats⟩,ty,pos,af,g⟩ ρ:=fun a W s=>by
 have e:L=L.take n++aT hp:=by rw [← ak,List.take_append_drop]
 have dg:L.Perm (aT hp++L.take n):=by
  conv=>lhs;rw [e]
  exact List.perm_append_comm
 have bk:=O6 (d:=d) (ty:=ty) (pos:=pos) (af:=af) (g:=g) (ats:=ats) (Lr:=L.take n) h (s.perm dg) ((ao.holds a W s).mono (ot dg))
 unfold hv at bk ⊢
 exact Oper.wp_mono (fun gX W' ⟨v,h1,_,ad,aD⟩=>⟨v,h1,ad.perm dg.symm,ρ.mono (ot dg.symm) aD⟩) bk
theorem JR {D:TypeDesc}{σ τ:I}(hu:c.P.underlying t=some D)(lD:(match (motive:=TypeDesc→Bool) D with | .interface _=>false | _=>true)=true)(ao:bg c E L x σ)(L5:∀ A W v,σ.holds A W v→τ.holds A W (.iface t v)):
 cf c E L ⟨d,.makeInterface t x,ty,pos,af,g⟩ τ:= .pure fun a W s=>
 ⟨.iface t (a.eval x),by
   simp only [execOp,Instr.makeInterface,Sem.run_bind,run_underlying hu,Result.andThen_ok];cases D <;> simp at lD <;> rfl,L5 _ _ _ (ao a W s)⟩
end
def G3 (P:Program)(u:Value){α σ ε γ:Type}(τ:α→I)(Ls:σ→γ→List aN)(Lx:ε→γ→List aN)(step:α→σ→aA (σ ⊕ ε))(ahn:List Nat→World→Prop):Prop:=
 ∃ l,u= .func (.yield l) #[] #[]∧ ∀ x s R,step x s R→ ∀ g A W v,ahn (aS (Ls s g)++A) W→zL A W (Ls s g)→ (τ x).holds (aS (Ls s g)++A) W v→
   YieldAt Fence.wide 8 P l #[v] W (fun e W'=>(∃ cw,R (.inl cw)∧kG (aS (Ls s g)) A W (fun _:γ=>I.of true) (fun g=>Ls cw g) e W')∨ ∃ q,R (.inr q)∧kG (aS (Ls s g)) A W (fun _:γ=>I.of false) (fun g=>Lx q g) e W')
structure B9 (P:Program)(f:FuncId)(τs:List I){cb:Type}[fl cb]{α:Type}(τ:α→I)(run:∀ {σ ε:Type},(σ→aY cb)→ (α→σ→aA (σ ⊕ ε))→σ→aA (σ ⊕ ε)):Prop where
 go:∀ {σ ε γ:Type} (Ls:σ→γ→List aN) (Lx:ε→γ→List aN) (hq:σ→aY cb) (kx:σ→γ→List aN),(∀ s g,Ls s g=kx s g++aT (hq s))→ ∀ (step:α→σ→aA (σ ⊕ ε)) (cF:σ) (g0:γ) (R:σ ⊕ ε→Prop),run hq step cF R→
  ∀ (A:List Nat) (W:World) (u:Value) (vs:List Value),zL A W (Ls cF g0)→hc (aS (Ls cF g0)++A) W τs vs→
    G3 P u τ Ls Lx step (fun c8 W'=>Ext (aS (Ls cF g0)++A) W c8 W')→
    Calls P f (u::vs).toArray W (kG (aS (Ls cF g0)) A W (δ:= {r // R r}×γ) (fun _=>.eu []) (fun d=>Lr Ls Lx d.1.1 d.2))
theorem B9.of {P:Program}{f:FuncId}{fn:Func}{code:Code}{n:Nat}{τs:List I}{cb:Type}[fl cb]{α:Type}{τ:α→I}{run:∀ {σ ε:Type},(σ→aY cb)→ (α→σ→aA (σ ⊕ ε))→σ→aA (σ ⊕ ε)}
 (bb:P.funcs[f]? =some fn) (hb:fn.body=some code) (aO:fn.ntmps=n) (hlen:Nat.ble (τs.length+1) n=true)
 (h:∀ {σ ε γ:Type} (Ls:σ→γ→List aN) (Lx:ε→γ→List aN) (hq:σ→aY cb) (kx:σ→γ→List aN),(∀ s g,Ls s g=kx s g++aT (hq s))→ ∀ (step:α→σ→aA (σ ⊕ ε)) (cF:σ) (g0:γ) (R:σ ⊕ ε→Prop),run hq step cF R→
  ∀ W A u,G3 P u τ Ls Lx step (fun c8 W'=>Ext (aS (Ls cF g0)++A) W c8 W')→
    ag ⟨P,n,W,aS (Ls cF g0),A,none,[]⟩ (bodyPost P fn (kG (aS (Ls cF g0)) A W (δ:= {r // R r}×γ) (fun _=>.eu []) (fun d=>Lr Ls Lx d.1.1 d.2))) code (params 0 (.eq u::τs)) (Ls cF g0)):B9 P f τs τ run:=by
 refine⟨?_⟩
 intro σ ε γ Ls Lx hq kx n1 step cF g0 R aR A W u vs al a6 a7
 refine calls_of_wp bb hb (wpIn_wide.1 (h Ls Lx hq kx n1 step cF g0 R aR W A u a7 _ _ ?_))
 have nx:hc (aS (Ls cF g0)++A) W (.eq u::τs) (u::vs):= .cons rfl a6
 have iB:=nx.length
 have hle:τs.length+1≤n:=Nat.le_of_ble_eq_true hlen
 exact
 {defers:=rfl
  size:=by simp at iB;simp [aO,iB];omega
  env:=fun t τ ft=>by
   obtain⟨_,v,ad,aD⟩:=wa nx 0 t τ ft;refine⟨v,?_,aD⟩;have ct:t<(u::vs).length:=(List.getElem?_eq_some_iff.1 ad).1;rw [Array.getElem?_append_left (by simpa using ct)];simpa using ad
  dR:= .refl _ _
  own:=al.ok
  nodup:=al.nodup
  lt:=al.lt
  gw:=fun k hk _=>hk
  fb:=al.fb }
section
variable {c:dt} {E:List (Nat×I)} {L:List aN} {ops:Array Oper} {Q:Exit→Act→World→Prop}
variable {d:Option Tmp} {ty:TypeId} {pos:String} {af:Array Edge} {g:Option (Nat×Bool)} {x y:Operand} {t t2:TypeId}
theorem RC {cb:Type}[fl cb]{σ γ:Type}{Ls kx:σ→γ→List aN}{hq:σ→aY cb}{s:σ}{g:γ}{p:Nat}{k:cb}{e:aN}(n:Nat)(ak:L.drop n=Ls s g)(n1:∀ s g,Ls s g=kx s g++aT (hq s))(h:pat (hq s) p=some k)(hk:fl.h4 p k= [e]):e∈L:=by
 obtain⟨R,h1,_⟩:=wg h;rw [hk] at h1;have:e∈L.drop n:=by rw [ak,n1];exact List.mem_append.2 (.inr (h1.mem_iff.2 (by simp)))
 exact List.mem_of_mem_drop this
theorem ae.aam {rest:List Oper}{bf lE:Nat}{ats:Array TypeId}{u:Value}{α σ ε γ:Type}{τ:α→I}{Ls:σ→γ→List aN}{Lx:ε→γ→List aN}{step:α→σ→aA (σ ⊕ ε)}{Lin:List aN}{x:Operand}{v:α}{s:σ}{gg:γ}{R:σ ⊕ ε→Prop}
 (aj:c.rd=none) (a7:G3 c.P u τ Ls Lx step (fun c8 W'=>Ext (c.X++c.b8) c.jx c8 W')) (bb:look E lE=some (.eq u)) (ao:bg c E (Lin++Ls s gg) x (τ v)) (aR:step v s R) (aO:Nat.blt bf c.n=true)
 (aJ:∀ cw,R (.inl cw)→ ∀ eW,ae c ops Q rest ((bf,.of true)::E) (Lin++Ls cw eW)) (bT:∀ q,R (.inr q)→ ∀ eW,ae c ops Q rest ((bf,.of false)::E) (Lin++Lx q eW)):
 ae c ops Q (⟨some bf,.call ⟨.value (.tmp lE),#[x],ats⟩,ty,pos,af,none⟩::rest) E (Lin++Ls s gg):=fun a W st=>by
 obtain⟨l,rfl,a7⟩:=a7
 obtain⟨MW,h1,ad⟩:=st.env lE _ bb
 have hu:MW= .func (.yield l) #[] #[]:=ad
 subst hu
 have pz:bM c E (Ls s gg++Lin) a W:=st.perm List.perm_append_comm
 have a6:=ao a W st
 have nx:(τ v).holds (aS (Ls s gg)++(aS Lin++c.b8)) W (a.eval x):=(τ v).mono (.drop fun k hm=>by
  rw [e5];simp only [List.mem_append] at hm ⊢;rcases hm with hm | hm | hm
  ·exact .inl (.inr hm)
  ·exact .inl (.inl hm)
  exact .inr hm) a6
 obtain⟨fn,tmps,assign,body,iP,jZ⟩:=a7 v s R aR gg (aS Lin++c.b8) W (a.eval x) (pz.SC.trans B1) pz.G2 nx
 have KG:(execOp a.eval ⟨some bf,.call ⟨.value (.tmp lE),#[x],ats⟩,ty,pos,af,none⟩).run c.P W= .ok (.round l fn tmps assign body) W:=by
  rw [← iP];simp [execOp,resolve,Deferred.ofValue,Act.eval,h1,invoke,Sem.run_bind,Sem.run_pure,Result.andThen]
 refine wpListIn_plain rfl fun K tH=>?_
 refine⟨fun _ _=>trivial,?_⟩
 rw [Oper.semAt_eq _ _ _ (fun _ h=>by cases h),KG,Oper.uponIn_round]
 refine⟨fun h=>by simp at h,?_⟩
 have LW:RoundIn c.F (9 - 1) c.P l fn tmps assign body W _:=jZ
 refine LW.mono fun e W' he=>?_
 rcases he with⟨cw,hs,w,eW,rfl,q4,aD,aZ,bc,bu⟩ | ⟨q,hs,w,eW,rfl,q4,aD,aZ,bc,bu⟩
 ·obtain rfl:=of_bool.1 bu
  refine tH _ _ (aJ cw hs eW _ _ ?_)
  exact(((pz.after q4 aD aZ bc).perm List.perm_append_comm).put (by simpa using aO) (of_bool.2 rfl))
 obtain rfl:=of_bool.1 bu
 refine tH _ _ (bT q hs eW _ _ ?_)
 exact(((pz.after q4 aD aZ bc).perm List.perm_append_comm).put (by simpa using aO) (of_bool.2 rfl))
def T1 {σ ε γ:Type}(c:dt)(fu:ε→Code)(l D:Nat)(rec:Loop)(Ls:σ→γ→List aN)(Lx:ε→γ→List aN)(R:σ ⊕ ε→Prop):Exit→Act→World→Prop:=fun x a W=>
 (∃ cw,R (.inl cw)∧x= .normal∧ ∃ g,bM c [] (⟨some l,.is (.loop rec)⟩::⟨some D,.dE⟩::Ls cw g) a W)∨
 ∃ q,R (.inr q)∧wI (fu q)=true∧x=Cy (fu q)∧ ∃ g,bM c [] (⟨some l,.is (.loop rec)⟩::⟨some D,.dE⟩::Lx q g) a W
theorem aa.aei {σ ε γ:Type}{fu:ε→Code}{l D:Nat}{rec:Loop}{Ls:σ→γ→List aN}{Lx:ε→γ→List aN}{R:σ ⊕ ε→Prop}{cw:σ}(jZ:R (.inl cw))(g:γ)(n:Nat)(ak:L.drop n=⟨some l,.is (.loop rec)⟩::⟨some D,.dE⟩::Ls cw g):
 aa c (T1 c fu l D rec Ls Lx R) .normal E L:=fun a W s=>.inl ⟨cw,jZ,rfl,g,by rw [← ak];exact(s.pg n).less (fun t τ h=>by simp [look] at h)⟩
theorem XW {gt p:Nat}{assign body:Code}{f:FuncId}{nr:List I}{cb:Type}[fl cb]{α σ ε γ ρ:Type}{τ:α→I}{run:∀ {σ ε:Type},(σ→aY cb)→ (α→σ→aA (σ ⊕ ε))→σ→aA (σ ⊕ ε)}
 {Ls:σ→γ→List aN} {Lx:ε→γ→List aN} {hq:σ→aY cb} {step:α→σ→aA (σ ⊕ ε)} {cF:σ} {g0:γ} {k:σ ⊕ ε→aA ρ} {oc:ρ→Prop} (kx:σ→γ→List aN) (fu:ε→Code)
 (aj:c.rd=none) (ew:bL c.P f) (bH:look E gt=some (.ln f nr)) (mw:B9 c.P f nr τ run) (aR:aA.bind (run hq step cF) k oc) (n1:∀ s g,Ls s g=kx s g++aT (hq s)) (ak:L=Ls cF g0) (hp:Nat.blt p c.n=true)
 (pV:∀ x s R,step x s R→ ∀ g (lr:World) (lC lu:List Nat) (l D:Nat) (rec:Loop),rec.state= .ready→
  ag ⟨c.P,c.n,lr,lC,lu,some l,[]⟩ (Exit.then (EB ⟨c.P,c.n,lr,lC,lu,some l,[]⟩ l body (T1 ⟨c.P,c.n,lr,lC,lu,some l,[]⟩ fu l D { rec with state:= .busy } Ls Lx R)) (fun _ _ _=>False)) assign ((p,τ x)::E) (⟨some l,.is (.loop rec)⟩::⟨some D,.dE⟩::Ls s g))
 (ph:∀ cw,k (.inl cw) oc→ ∀ g D,aa { c with ds:=D::c.ds } Q .normal E (⟨some D,.dE⟩::Ls cw g))
 (w2:∀ q,k (.inr q) oc→ ∀ g D,ag { c with ds:=D::c.ds } Q (fu q) E (⟨some D,.dE⟩::Lx q g)):
 ag c Q (.rangeFunc (.tmp gt) #[p] assign body) E L:=fun a W st=>by
 subst ak
 refine wpIn_rangeFunc fun fn aga=>?_
 show ∃ l mark afa d acQ Ak args afb,(Instr.enterLoop fn a.tmps #[p] assign body c.rd).run c.P W=_∧_
 rw [aj]
 obtain⟨rec,k3⟩:∃ rec:Loop,rec= { state:= .ready,pending:=none,fn,tmps:=a.tmps,params:= #[p],assign,body,defers:=W.heap.size } :=⟨_,rfl⟩
 obtain⟨v,Eb,iH,xC,agb⟩:=st.env gt _ bH
 obtain⟨hU,Ec⟩:∃ hU,(W.alloc (.deferred (some []))).alloc (.loop rec)=hU:=⟨_,rfl⟩
 have s1:=(st.alloc (o:= .deferred (some [])) (cp:= .dE) rfl).alloc (o:= .loop rec) (cp:= .is (.loop rec)) rfl
 rw [Ec,World.size_alloc] at s1
 obtain⟨D,lD⟩:∃ D,D=W.heap.size:=⟨_,rfl⟩
 obtain⟨l,al⟩:∃ l,l=W.heap.size+1:=⟨_,rfl⟩
 have Ed:=run_enterLoop_outer (P:=c.P) (w:=W) fn a.tmps #[p] assign body
 rw [← k3,Ec,← al,← lD] at Ed
 rw [← al,← lD] at s1
 obtain⟨l0,q5⟩:∃ l0:σ→γ→List aN,l0=fun s g=>⟨some l,.is (.loop rec)⟩::⟨some D,.dE⟩::Ls s g:=⟨_,rfl⟩
 obtain⟨ny,Ee⟩:∃ ny:ε→γ→List aN,ny=fun q g=>⟨some l,.is (.loop { rec with state:= .done,pending:=some (fu q) })⟩::⟨some D,.dE⟩::Lx q g:=⟨_,rfl⟩
 have s2:bM c E (l0 cF g0) a hU:=by rw [q5];exact s1
 have LZ:hc (aS (l0 cF g0)++c.b8) hU nr iH:=by
  have h1:(I.ln f nr).holds (aS (l0 cF g0)++c.b8) hU v:=by
   obtain⟨vE,h1,ad⟩:=s2.env gt _ bH;rw [Eb] at h1;cases h1;exact ad
  obtain⟨L0,aw,aX⟩:=h1;rw [xC] at aw;have:L0=iH:=by injection aw with _ _ aw;injection aw with aw;exact aw.symm
  rw [← this];exact aX
 have Ef:bM c E ((l0 cF g0)++[]) a hU:=by rw [List.append_nil];exact s2
 have C0:=Ef.G2
 simp only [aS,List.nil_append] at C0
 have Lc:G3 c.P (.func (.yield l) #[] #[]) τ l0 ny step (fun c8 W'=>Ext (aS (l0 cF g0)++c.b8) hU c8 W'):=by
  refine⟨l,rfl,fun x s HW hs g A oZ v2 gR hle a6=>?_⟩;have DE:=hle;rw [q5] at DE;obtain⟨o,dy,e8⟩:=DE.ok ⟨some l,.is (.loop rec)⟩ (by simp);have qM:o= .loop rec:=e8;subst qM;have a7:=run_yield (P:=c.P) (args:= #[v2]) dy (by rw [k3];rfl);refine⟨_,_,_,_,a7,roundIn_of_wpIn trivial ?_⟩;have aw:rec.assign=assign:=by rw [k3]
  have aX:rec.body=body:=by rw [k3]
  have dc:rec.params= #[p]:=by rw [k3]
  have gA:rec.tmps=a.tmps:=by rw [k3]
  rw [aw,aX,dc,gA];refine FL (n:=9) rfl ?_;have KH:((#[p]:Array Tmp).zip #[v2]).foldl (fun tmps (t,a)=>tmps.setIfInBounds t a) a.tmps=a.tmps.setIfInBounds p v2:=by simp
  rw [KH];subst q5 Ee;refine wpIn_mono ((pV x s HW hs g oZ (aS (⟨some l,.is (.loop rec)⟩::⟨some D,.dE⟩::Ls s g)) A l D rec (by rw [k3])) { tmps:=a.tmps.setIfInBounds p v2,defers:= [] } oZ ?_) ?_
  ·have jC:p<c.n:=by simpa using hp
   exact
   {defers:=rfl
    size:=by simp [s2.size]
    env:=fun t nu ft=>by
     simp only [look] at ft;by_cases e:Nat.beq p t=true
     ·rw [e] at ft;simp only [cond_true,Option.some.injEq] at ft;subst ft;have:=eH.1 e;subst this;exact⟨v2,by simp [s2.size,jC],a6⟩
     simp only [Bool.not_eq_true] at e;rw [e] at ft;simp only [cond_false] at ft;obtain⟨u,h1,ad⟩:=s2.env t nu ft;have da:p≠t:=fun h=>by rw [eH.2 h] at e;cases e
     exact⟨u,by rw [Array.getElem?_setIfInBounds_ne da];exact h1,nu.mono gR ad⟩
    dR:= .refl _ _
    own:=hle.ok
    nodup:=hle.nodup
    lt:=hle.lt
    gw:=fun k hk _=>hk
    fb:=hle.fb }
  intro e a3 ahj hq;cases e with
  | normal=>
    obtain⟨MX,L1,hb⟩:=hq
    refine⟨MX,L1,FL (n:=9) rfl (wpIn_mono hb ?_)⟩
    intro e a5 EC Hv
    have fin:∀ (jump:Option Code) {Lr:List aN},bM ⟨c.P,c.n,oZ,aS (⟨some l,.is (.loop rec)⟩::⟨some D,.dE⟩::Ls s g),A,some l,[]⟩ [] (⟨some l,.is (.loop { rec with state:= .busy })⟩::⟨some D,.dE⟩::Lr) a5 EC→
     ∃ pE,(Instr.endRound l jump).run c.P EC= .ok (.bool jump.isNone) pE∧bM ⟨c.P,c.n,oZ,aS (⟨some l,.is (.loop rec)⟩::⟨some D,.dE⟩::Ls s g),A,some l,[]⟩ [] (⟨some l,.is (.loop { rec with state:=if jump.isNone then .ready else .done,pending:=jump })⟩::⟨some D,.dE⟩::Lr) a5 pE:=fun jump Lr iG=>by
     obtain⟨o,h1,ad⟩:=iG.own ⟨some l,.is (.loop { rec with state:= .busy })⟩ (by simp)
     have lz:o= .loop { rec with state:= .busy } :=ad
     subst lz
     exact⟨_,run_endRound jump h1,iG.qL (i:=0) rfl rfl⟩
    rcases Hv with⟨cw,eS,rfl,eW,iG⟩ | ⟨q,eS,aF,rfl,eW,iG⟩
    ·obtain⟨pE,bu,jw⟩:=fin none iG
     refine⟨_,pE,bu,.inl ⟨cw,eS,?_⟩⟩
     have Eg:({ rec with state:=if (none:Option Code).isNone then .ready else .done,pending:=none } :Loop)=rec:=by rw [k3];rfl
     rw [Eg] at jw
     exact jw.ends (ρ:=fun _:γ=>I.of true) (Lo:=fun g=>⟨some l,.is (.loop rec)⟩::⟨some D,.dE⟩::Ls cw g) eW (List.Sublist.refl _) (of_bool.2 rfl)
    obtain⟨pE,bu,jw⟩:=fin (some (fu q)) iG
    have key:kG (aS (⟨some l,.is (.loop rec)⟩::⟨some D,.dE⟩::Ls s g)) A oZ (fun _:γ=>I.of false) (fun g=>⟨some l,.is (.loop { rec with state:= .done,pending:=some (fu q) })⟩::⟨some D,.dE⟩::Lx q g) (.returned (.bool false)) pE:=
     jw.ends (ρ:=fun _:γ=>I.of false) (Lo:=fun g=>⟨some l,.is (.loop { rec with state:= .done,pending:=some (fu q) })⟩::⟨some D,.dE⟩::Lx q g) eW (List.Sublist.refl _) (of_bool.2 rfl)
    exact NO aF bu (.inr ⟨q,eS,key⟩)
  | exit id=>exact hq.elim
  | goto t=>exact hq.elim
  | ret=>exact hq.elim
  | panic MN=>exact hq.elim
  | outgrown=>exact hq.elim
 have w3:=mw.go l0 ny hq (fun s g=>⟨some l,.is (.loop rec)⟩::⟨some D,.dE⟩::kx s g) (fun s g=>by rw [q5];simp only [n1,List.cons_append]) step cF g0 (fun r=>k r oc) aR c.b8 hU (.func (.yield l) #[] #[]) iH C0 LZ Lc
 have mT:a.eval (.tmp gt)= .func (.func f) #[] iH.toArray:=by simp [Act.eval,Eb,xC]
 refine⟨l,[GU D],hU,{ target:= .fn (.func f) iH.toArray,args:= #[.func (.yield l) #[] #[]] },hU,f,#[.func (.yield l) #[] #[]]++iH.toArray,hU,Ed,?_,fun _ _=>trivial,?_,fun h=>by simp at h,?_⟩
 ·simp only [resolve,mT]
  simp [go_sem]
 ·simp [invoke,go_sem,ew.run]
 refine CallsIn.Jt ?_
 have KI:(#[.func (.yield l) #[] #[]]++iH.toArray:Array Value)=(.func (.yield l) #[] #[]::iH).toArray:=by simp
 rw [KI]
 refine w3.mono fun e MY ⟨ahk,⟨⟨r,T2⟩,eW⟩,he,bb,aD,aZ,bc,bu⟩=>?_
 subst he
 have pF:=Ef.after bb aD (by simpa [aS] using aZ) (by simpa [aS] using bc)
 rw [List.append_nil] at pF
 cases r with
 | inl cw=>
   simp only [Lr] at pF
   subst q5
   obtain⟨o,dy,e8⟩:=pF.own ⟨some l,.is (.loop rec)⟩ (by simp)
   have qM:o= .loop rec:=e8
   subst qM
   have ns:=run_endLoop (P:=c.P) dy (by rw [k3];simp)
   have jC:rec.pending=none:=by rw [k3]
   rw [jC] at ns
   refine⟨none,_,ns,?_⟩
   have tN:=(pF.qL (i:=0) (cp':= .is (.loop { rec with state:= .exhausted })) (o':= .loop { rec with state:= .exhausted }) rfl rfl).pg 1
   rw [jC] at tN
   exact ph cw T2 eW D _ _ (tN.mark D)
 | inr q=>
   simp only [Lr] at pF
   subst Ee
   obtain⟨o,dy,e8⟩:=pF.own ⟨some l,.is (.loop { rec with state:= .done,pending:=some (fu q) })⟩ (by simp)
   have qM:o= .loop { rec with state:= .done,pending:=some (fu q) } :=e8
   subst qM
   have ns:=run_endLoop (P:=c.P) dy (by simp)
   refine⟨some (fu q),_,ns,?_⟩
   have tN:=(pF.qL (i:=0) (cp':= .is (.loop { rec with state:= .exhausted,pending:=some (fu q) })) (o':= .loop { rec with state:= .exhausted,pending:=some (fu q) }) rfl rfl).pg 1
   exact w2 q T2 eW D _ _ (tN.mark D)
end
end Gv
