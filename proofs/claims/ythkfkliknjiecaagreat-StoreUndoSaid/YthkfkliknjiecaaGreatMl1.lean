/-
  The library of the decompiler, as far as it is needed here. Conditions: none.
-/
import Derived.Lib.AppendZerosOnto
import Derived.Lib.Overlaps
import Derived.MapKept
import Derived.Test.YthkfkliknjiecaaGreatMl0
set_option linter.unusedVariables false
set_option linter.unusedSimpArgs false
namespace Gv
open Go
def ld:Value:= .slice none 0 0
def blank:List (Nat×Value)→List Value→List Value
 | [],cs=>cs
 | o::r,cs=>blank r (cs.set o.1 ld)
theorem B6:∀ {os:List (Nat×Value)} {cs:List Value},(blank os cs).length=cs.length
 | [],_=>rfl
 | o::r,cs=>by rw [blank,B6,List.length_set]
theorem r2:∀ {os:List (Nat×Value)} {cs:List Value} (i:Nat),(blank os cs)[i]? =if os.any (fun h=>Nat.beq h.1 i)=true then cs[i]?.map (fun _=>ld) else cs[i]?
 | [],_,i=>by simp [blank]
 | o::r,cs,i=>by
   rw [blank,r2 i,List.any_cons];by_cases h:o.1=i
   ·subst h;simp only [Nat.beq_refl,Bool.true_or,if_true,List.getElem?_set];by_cases an:o.1<cs.length
    ·simp [an]
    simp [an]
   have hb:Nat.beq o.1 i=false:=by
    cases hb:Nat.beq o.1 i
    ·rfl
    exact absurd (eQ.1 hb) h
   rw [hb,Bool.false_or,List.getElem?_set_ne h]
def vd (os:List (Nat×Value))(off n:Nat):Bool:=os.all fun h=>Nat.blt h.1 off||Nat.ble (off+n) h.1
theorem OZ {os:List (Nat×Value)}{off n i:Nat}(h:vd os off n=true)(aa:off≤i)(ae:i<off+n):os.any (fun h=>Nat.beq h.1 i)=false:=by
 rw [List.any_eq_false];intro x ar hb;have aG:=List.all_eq_true.1 h x ar;have a0:=eQ.1 hb;simp only [Bool.or_eq_true,Nat.blt_eq,Nat.ble_eq] at aG;omega
theorem Yw {os:List (Nat×Value)}{off n:Nat}{cs:List Value}(h:vd os off n=true):((blank os cs).drop off).take n=(cs.drop off).take n:=by
 apply List.ext_getElem?;intro i;simp only [List.getElem?_take,List.getElem?_drop];split
 ·rw [r2,OZ h (by omega) (by omega)];rfl
 rfl
theorem wW {cs ds:List Value}{off:Nat}(h:off+ds.length≤cs.length)(i:Nat):(gR cs off ds)[i]? =if i<off then cs[i]? else if i<off+ds.length then ds[i - off]? else cs[i]? :=by
 have aa:(cs.take off).length=off:=by rw [List.length_take];omega
 unfold gR;rw [List.append_assoc];by_cases au:i<off
 ·rw [if_pos au,List.getElem?_append_left (by omega),List.getElem?_take,if_pos au]
 rw [if_neg au,List.getElem?_append_right (by omega),aa];by_cases ae:i<off+ds.length
 ·rw [if_pos ae,List.getElem?_append_left (by omega)]
 rw [if_neg ae,List.getElem?_append_right (by omega),List.getElem?_drop];congr 1;omega
theorem W4 {os:List (Nat×Value)}{off:Nat}{cs ds:List Value}(h:vd os off ds.length=true)(hs:off+ds.length≤cs.length):blank os (gR cs off ds)=gR (blank os cs) off ds:=by
 apply List.ext_getElem?;intro i;rw [r2,wW hs,wW (by rw [B6];exact hs),r2];by_cases aa:i<off
 ·simp only [if_pos aa]
 simp only [if_neg aa];by_cases ae:i<off+ds.length
 ·simp only [if_pos ae,OZ h (Nat.not_lt.1 aa) ae];rfl
 simp only [if_neg ae]
def uZ (os:List (Nat×Value))(o:Nat)(u:Value):List (Nat×Value):=
 bif os.any (fun h=>Nat.beq h.1 o) then os.map (fun h=>bif Nat.beq h.1 o then(o,u) else h) else(o,u)::os
theorem Xq {os:List (Nat×Value)}{o:Nat}{u:Value}{h:Nat×Value}(hm:h∈uZ os o u):h=(o,u)∨ (h∈os∧h.1≠o):=by
 unfold uZ at hm;cases hb:os.any (fun h=>Nat.beq h.1 o)
 ·rw [hb] at hm;simp only [cond_false] at hm;rcases List.mem_cons.1 hm with hm | hm
  ·exact .inl hm
  refine .inr ⟨hm,fun e=>?_⟩;have:=List.any_eq_false.1 hb h hm;exact this (eQ.2 e)
 rw [hb] at hm;simp only [cond_true] at hm;obtain⟨x,ar,he⟩:=List.mem_map.1 hm;cases aa:Nat.beq x.1 o
 ·rw [aa] at he;simp only [cond_false] at he;subst he;exact .inr ⟨ar,fun e=>by rw [eQ.2 e] at aa;cases aa⟩
 rw [aa] at he;exact .inl he.symm
theorem Xr {os:List (Nat×Value)}{o i:Nat}{u:Value} :(uZ os o u).any (fun h=>Nat.beq h.1 i)=(Nat.beq o i||os.any (fun h=>Nat.beq h.1 i)):=by
 unfold uZ;cases hb:os.any (fun h=>Nat.beq h.1 o)
 ·simp only [cond_false,List.any_cons]
 simp only [cond_true,List.any_map];rw [Bool.eq_iff_iff,Bool.or_eq_true,List.any_eq_true,List.any_eq_true];constructor
 ·rintro ⟨x,ar,he⟩;simp only [Function.comp] at he;cases aa:Nat.beq x.1 o
  ·rw [aa] at he;exact .inr ⟨x,ar,he⟩
  rw [aa] at he;exact .inl he
 rintro (h | ⟨x,ar,he⟩)
 ·obtain⟨x,ar,aa⟩:=List.any_eq_true.1 hb;exact⟨x,ar,by simp only [Function.comp,aa,cond_true];exact h⟩
 refine⟨x,ar,?_⟩;simp only [Function.comp];cases aa:Nat.beq x.1 o
 ·exact he
 have aq:=eQ.1 aa;have aX:=eQ.1 he;simp only [cond_true];exact eQ.2 (by omega)
def sb (os:List (Nat×Value))(o:Nat):List (Nat×Value):=os.filter (fun h=> !Nat.beq h.1 o)
theorem Xs {os:List (Nat×Value)}{o i:Nat} :(sb os o).any (fun h=>Nat.beq h.1 i)=(!(Nat.beq o i)&&os.any (fun h=>Nat.beq h.1 i)):=by
 rw [Bool.eq_iff_iff];simp only [List.any_eq_true,Bool.and_eq_true,Bool.not_eq_true',sb,List.mem_filter];constructor
 ·rintro ⟨x,⟨aa,ae⟩,aG⟩;refine⟨?_,x,aa,aG⟩;cases hb:Nat.beq o i
  ·rfl
  have:=eQ.1 hb;have a0:=eQ.1 aG;rw [a0,← this,Nat.beq_refl] at ae;cases ae
 rintro ⟨bO,x,aa,aG⟩;refine⟨x,⟨aa,?_⟩,aG⟩;cases hb:Nat.beq x.1 o
 ·rfl
 have:=eQ.1 hb;have a0:=eQ.1 aG;rw [← this,a0,Nat.beq_refl] at bO;cases bO
def mm {α:Type}[ak α](A:List Nat)(W:World)(cs:List Value)(x:α)(os:List (Nat×Value)):Prop:=ak.rep A W (blank os cs) x∧ ∀ h∈os,cs[h.1]? =some h.2∧h.2.oneCell'=true
theorem mm.len {α:Type}[ak α]{A W}{cs:List Value}{x:α}{os:List (Nat×Value)}(h:mm A W cs x os):cs.length=ak.size α:=by rw [← B6 (os:=os)];exact ak.len h.1
theorem mm.mono {α:Type}[ak α]{A W dy W'}{cs:List Value}{x:α}{os:List (Nat×Value)}(e:Ext A W dy W')(h:mm A W cs x os):mm dy W' cs x os:=⟨ak.mono e h.1,h.2⟩
theorem mm.one {α:Type}[ak α]{A W}{cs:List Value}{x:α}{os:List (Nat×Value)}(h:mm A W cs x os):∀ u∈cs,u.oneCell'=true:=by
 intro u hu;obtain⟨i,au⟩:=List.mem_iff_getElem?.1 hu;by_cases hb:os.any (fun h=>Nat.beq h.1 i)=true
 ·obtain⟨o,bg,he⟩:=List.any_eq_true.1 hb;have he:=eQ.1 he;obtain⟨aa,ae⟩:=h.2 o bg;rw [he,au] at aa;cases aa;exact ae
 have aa:=r2 (os:=os) (cs:=cs) i;rw [if_neg hb,au] at aa;exact ak.one h.1 u (List.mem_of_getElem? aa)
def eg.cm {α:Type}[ak α](x:α)(os:List (Nat×Value)):eg where
 holds A W o:= ∃ cs T,o= .cells cs T (0,0)∧mm A W cs.toList x os
 nL:=False
 mono e h:=let⟨cs,T,bg,aO⟩:=h; ⟨cs,T,bg,aO.mono e⟩
def I.Mz {α:Type}[ak α](x:α)(os:List (Nat×Value)):I where
 holds A W v:=shaped (ak.agg α) v∧mm A W v.cells.toList x os
 mono e h:=⟨h.1,h.2.mono e⟩
structure hc where
 v:Value
instance:ak hc where
 size:=1
 agg:=false
 rep _ _ cs x:=cs= [x.v]∧x.v.oneCell'=true
 len h:=by rw [h.1];rfl
 one h:=by rw [h.1];intro u hu;rw [List.mem_singleton.1 hu];exact h.2
 flat _:=rfl
 mono _ h:=h
theorem SC {A W v}{u:Value} :(I.of (⟨u⟩:hc)).holds A W v↔v=u∧u.oneCell'=true:=by
 constructor
 ·rintro ⟨aa,ae,aG⟩;have aa:v.oneCell'=true:=aa;exact⟨pw aa ae,aG⟩
 rintro ⟨rfl,h⟩;exact⟨h,by show v.cells.toList= [v]∧_;rw [px h];exact⟨rfl,h⟩⟩
theorem bF.ex {P:Program}{t:TypeId}{γ:Type}[ak γ](h:bF P t (List γ)):bF P t hc:=⟨h.size,h.TW⟩
theorem iK {key:Option Nat}{n cap:Nat} :(aV key n cap).oneCell'=true:=by cases key <;> rfl
theorem aaf {A W}{γ:Type}[ak γ]:ak.rep A W [ld] ([]:List γ):=⟨ld,rfl,.inl ⟨rfl,rfl⟩⟩
theorem PG {α γ:Type}[ak α][ak γ]{A W}{cs ds:List Value}{x:α}{v:γ}{os:List (Nat×Value)}(l:aL α γ)(h:mm A W cs x os)(hd:ak.rep A W ds v)(bb:vd os l.off (ak.size γ)=true):mm A W (gR cs l.off ds) (l.set x v) os:=by
 have aa:=h.len;have fc:=l.gZ;have an:=ak.len hd;refine⟨?_,fun o hm=>?_⟩
 ·have bn:=l.mf h.1 hd;rw [W4 (by rw [an];exact bb) (by rw [an];omega)];simpa [gR,an] using bn
 refine⟨?_,(h.2 o hm).2⟩;rw [wW (by rw [an];omega)];have dn:=List.all_eq_true.1 bb o hm;simp only [Bool.or_eq_true,Nat.blt_eq,Nat.ble_eq] at dn;rw [an];by_cases fh:o.1<l.off
 ·rw [if_pos fh];exact(h.2 o hm).1
 rw [if_neg fh,if_neg (by omega)];exact(h.2 o hm).1
theorem Pk {α γ:Type}[ak α][ak γ]{A W}{cs:List Value}{x:α}{u:Value}{os:List (Nat×Value)}(l:aL α (List γ))(h:mm A W cs x os)(hu:u.oneCell'=true):mm A W (gR cs l.off [u]) (l.set x []) (uZ os l.off u):=by
 have aa:=h.len;have fc:l.off+1≤ak.size α:=l.gZ;refine⟨?_,fun o hm=>?_⟩
 ·have bn:ak.rep A W ((blank os cs).take l.off++[ld]++(blank os cs).drop (l.off+1)) (l.set x []):=l.mf h.1 (aaf (γ:=γ));have e:blank (uZ os l.off u) (gR cs l.off [u])=gR (blank os cs) l.off [ld]:=by
   apply List.ext_getElem?;intro i;rw [r2,wW (by simp;omega),wW (by rw [B6];simp;omega),r2];rw [Xr];by_cases au:l.off=i
   ·subst au;simp
   have hb:Nat.beq l.off i=false:=by
    cases hb:Nat.beq l.off i
    ·rfl
    exact absurd (eQ.1 hb) au
   rw [hb];simp only [Bool.false_or,List.length_singleton];by_cases ae:i<l.off
   ·simp only [if_pos ae]
   have gh: ¬ i<l.off+1:=by omega
   simp only [if_neg ae,if_neg gh]
  rw [e];simpa [gR] using bn
 rw [wW (by simp;omega)];rcases Xq hm with rfl | ⟨aG,db⟩
 ·exact⟨by simp,hu⟩
  
 simp only [List.length_singleton]
 refine⟨?_,(h.2 o aG).2⟩
 by_cases fh:o.1<l.off
 ·rw [if_pos fh];exact(h.2 o aG).1
 rw [if_neg fh,if_neg (by omega)];exact(h.2 o aG).1
theorem Pl {α γ:Type}[ak α][ak γ]{A W}{cs:List Value}{x:α}{u:Value}{xs:List γ}{os:List (Nat×Value)}(l:aL α (List γ))(h:mm A W cs x os)(hm:(l.off,u)∈os)(hs:pj A W u xs):mm A W cs (l.set x xs) (sb os l.off):=by
 have aa:=h.len;have fc:l.off+1≤ak.size α:=l.gZ;have agf:=(h.2 _ hm).1;refine⟨?_,fun o bg=>h.2 o (List.mem_filter.1 bg).1⟩;have bn:ak.rep A W ((blank os cs).take l.off++[u]++(blank os cs).drop (l.off+1)) (l.set x xs):=l.mf h.1 (ds:= [u]) (g:=xs) ⟨u,rfl,hs⟩;have e:blank (sb os l.off) cs=gR (blank os cs) l.off [u]:=by
  apply List.ext_getElem?;intro i;rw [r2,wW (by rw [B6];simp;omega),r2,Xs];by_cases au:l.off=i
  ·subst au;simp [agf]
  have hb:Nat.beq l.off i=false:=by
   cases hb:Nat.beq l.off i
   ·rfl
   exact absurd (eQ.1 hb) au
  rw [hb];simp only [Bool.not_false,Bool.true_and,List.length_singleton];by_cases ae:i<l.off
  ·simp only [if_pos ae]
  have gh: ¬ i<l.off+1:=by omega
  simp only [if_neg ae,if_neg gh]
 rw [e];simpa [gR] using bn
section
variable {c:dB} {E:List (Nat×I)} {L:List aQ} {ops:Array Oper} {Q:Exit→Act→World→Prop}
variable {d:Option Tmp} {ty:TypeId} {pos:String} {af:Array Edge} {g:Option (Nat×Bool)} {x y:Operand} {t t2:TypeId}
theorem bL.CO {a:Act}{W:World}(s:bL c E L a W){i:Nat}{key:Option Nat}{cp cp':eg}(al:L[i]? =some ⟨key,cp⟩)(h:∀ o,cp.holds (aU L++c.b7) W o→cp'.holds (aU L++c.b7) W o)(aR:cp.nL→cp'.nL):bL c E (L.set i ⟨key,cp'⟩) a W:=by
 have h2:aU (L.set i ⟨key,cp'⟩)=aU L:=zK (e:=⟨key,cp⟩) (cp:=cp') al;exact
 {defers:=s.defers
  size:=s.size
  env:=fun t τ an=>by rw [h2];exact s.env t τ an
  ej:=s.ej
  own:=fun e he=>by
   rw [h2];obtain⟨j,aH⟩:=List.mem_iff_getElem?.1 he;rw [List.getElem?_set] at aH;split at aH
   ·split at aH
    ·simp only [Option.some.injEq] at aH;subst aH;have bg:=s.own _ (List.mem_of_getElem? al);cases key with
     | none=>exact aR bg
     | some p=>obtain⟨o,aa,ae⟩:=bg;exact⟨o,aa,h _ ae⟩
    cases aH
   exact s.own e (List.mem_of_getElem? aH)
  nodup:=by rw [h2];exact s.nodup
  lt:=by rw [h2];exact s.lt
  gN:=by rw [h2];exact s.gN
  fb:=by rw [h2];exact s.fb }
theorem ah.qm {l:List Oper}{p:Nat}{β:Type}[ak β]{b:β}(i:Nat)(al:L[i]? =some ⟨some p,.cm b []⟩)(k:ah c ops Q l E (L.set i ⟨some p,.var b⟩)):ah c ops Q l E L:=fun a W s=>
 k a W (s.CO al (fun o ⟨cs,T,aa,ae⟩=>⟨cs,T,aa,ae.1⟩) id)
theorem ad.qm {z:Exit}{p:Nat}{β:Type}[ak β]{b:β}(i:Nat)(al:L[i]? =some ⟨some p,.cm b []⟩)(k:ad c Q z E (L.set i ⟨some p,.var b⟩)):ad c Q z E L:=fun a W s=>
 k a W (s.CO al (fun o ⟨cs,T,aa,ae⟩=>⟨cs,T,aa,ae.1⟩) id)
def KJ:Option Value→Bool
 | some (.slice none 0 0)=>true
 | _=>false
theorem O0 {v:Option Value}(h:KJ v=true):v=some ld:=by
 unfold KJ at h;split at h
 ·rfl
 cases h
def j3 (P:Program)(t:TypeId)(hs:List Nat):Prop:=((P.info? t).bind (·.zero)).any (fun v=>hs.all fun o=>KJ v.cells.toList[o]?)=true
theorem Jt:∀ {os:List (Nat×Value)} {cs:List Value},(∀ h∈os,cs[h.1]? =some ld)→blank os cs=cs
 | [],_,_=>rfl
 | o::r,cs,h=>by
   have aa:=h o (by simp);have e:cs.set o.1 ld=cs:=by
    apply List.ext_getElem?;intro i;rw [List.getElem?_set];split
    ·rename_i he;subst he;have:=(List.getElem?_eq_some_iff.1 aa).1;rw [if_pos this,aa]
    rfl
   rw [blank,e];exact Jt fun x ar=>h x (by simp [ar])
theorem ah.pz {rest:List Oper}{a9:Nat}{α:Type}[ak α]{z:α}(hs:List Nat)(uA:j3 c.P t hs)(hz:cS c.P t z)(aR:Nat.blt a9 c.n=true)
 (k:∀ p,ah c ops Q rest ((a9,.eq (.pointer (some ⟨p,0,none⟩)))::E) (⟨some p,.cm z (hs.map fun o=>(o,ld))⟩::L)):ah c ops Q (⟨some a9,.alloc t,ty,pos,af,none⟩::rest) E L:=fun a W s=>by
 obtain⟨i,eP,aa,ae,aG⟩:=hz.zero
 have cA:∀ o∈hs,eP.cells.toList[o]? =some ld:=fun o bg=>by
  unfold j3 at uA;rw [aa] at uA;simp only [Option.bind_some,ae,Option.any_some] at uA;exact O0 (List.all_eq_true.1 uA o bg)
 have T2:∀ h∈hs.map (fun o=>(o,ld)),eP.cells.toList[h.1]? =some h.2:=fun h hm=>by
  obtain⟨o,bg,rfl⟩:=List.mem_map.1 hm;exact cA o bg
 refine ik rfl (R:=fun v W'=>v= .pointer (some ⟨W.heap.size,0,none⟩)∧W'=W.alloc (.cells eP.cells t)) (.lv ?_ ⟨rfl,rfl⟩) fun v W' ⟨a6,hw⟩=>?_
 ·simp [execOp,Instr.alloc,zeroValue,typeInfo,aa,ae,newVar,newRow]
 subst a6
 subst hw
 refine k _ _ _ ((s.alloc (cp:= .cm z (hs.map fun o=>(o,ld))) ⟨eP.cells,t,rfl,?_,fun h hm=>⟨T2 h hm,by obtain⟨o,_,rfl⟩:=List.mem_map.1 hm;rfl⟩⟩).put (by simpa using aR) rfl)
 rw [Jt fun h hm=>by rw [T2 h hm];obtain⟨o,_,rfl⟩:=List.mem_map.1 hm;rfl]
 exact(aG _ _).2
theorem ah.adZ {rest:List Oper}{a9:Nat}{α:Type}[ak α]{z:α}{os:List (Nat×Value)}(ar:ba c E L x (.Mz z os))(aR:Nat.blt a9 c.n=true)
 (k:∀ p,ah c ops Q rest ((a9,.eq (.pointer (some ⟨p,0,none⟩)))::E) (⟨some p,.cm z os⟩::L)):ah c ops Q (⟨some a9,.box t x,ty,pos,af,none⟩::rest) E L:=fun a W s=>by
 refine ik rfl (R:=fun v W'=>v= .pointer (some ⟨W.heap.size,0,none⟩)∧W'=W.alloc (.cells (a.eval x).cells t)) (.lv ?_ ⟨rfl,rfl⟩) fun v W' ⟨a6,hw⟩=>?_
 ·simp [execOp,Instr.box,newVar,newRow]
 subst a6
 subst hw
 obtain⟨aa,ae⟩:=ar a W s
 exact k _ _ _ ((s.alloc (cp:= .cm z os) ⟨_,t,rfl,ae⟩).put (by simpa using aR) rfl)
theorem Gz {t:TypeId}{i p o:Nat}{β γ:Type}[ak β][ak γ]{b:β}{os:List (Nat×Value)}(l:aL β γ){r:γ}(eN:bF c.P t γ)(ar:ba c E L x (.eq (.pointer (some ⟨p,o,none⟩))))
 (al:L[i]? =some ⟨some p,.cm b os⟩) (bg:o=l.off) (aO:l.get b=r) (bb:vd os l.off (ak.size γ)=true):b9 c E L ⟨d,.load t x,ty,pos,af,g⟩ (.of r):= .pure fun a W s=>by
 subst bg
 subst aO
 obtain⟨k3,fe,cs,T,rfl,gO⟩:=s.own _ (List.mem_of_getElem? al)
 have aa:cs.toList.length=ak.size β:=gO.len
 have a7:=l.jh gO.1
 rw [Yw bb] at a7
 obtain⟨v,ae,aG⟩:=wK (A:=aU L++c.b7) eN fe (by have:=l.gZ;simp at aa;omega) a7
 refine⟨v,?_,aG⟩
 have a0:a.eval x=_:=ar a W s
 simp [execOp,Instr.loadAt,Instr.sureAddr,a0,ae]
theorem aag {cs:List Value}{o:Nat}{u:Value}(h:cs[o]? =some u):(cs.drop o).take 1= [u]:=by
 apply List.ext_getElem?;intro i;rw [List.getElem?_take,List.getElem?_drop];cases i with
 | zero=>simpa using h
 | succ i=>simp
theorem hW {t:TypeId}{i p o q:Nat}{β γ:Type}[ak β][ak γ]{b:β}{os:List (Nat×Value)}{u:Value}(eN:bF c.P t (List γ))(ar:ba c E L x (.eq (.pointer (some ⟨p,o,none⟩))))
 (al:L[i]? =some ⟨some p,.cm b os⟩) (hq:os[q]? =some (o,u)):b9 c E L ⟨d,.load t x,ty,pos,af,g⟩ (.eq u):= .pure fun a W s=>by
 obtain⟨k3,fe,cs,T,rfl,gO,cA⟩:=s.own _ (List.mem_of_getElem? al)
 obtain⟨a7,hu⟩:=cA _ (List.mem_of_getElem? hq)
 have cf:o<cs.size:=by have:=(List.getElem?_eq_some_iff.1 a7).1;simpa using this
 obtain⟨v,ae,aG⟩:=wK (α:=hc) (x:=⟨u⟩) (A:=aU L++c.b7) eN.ex fe (show o+1≤cs.size by omega) ⟨aag a7,hu⟩
 refine⟨v,?_,(SC.1 aG).1⟩
 have a0:a.eval x=_:=ar a W s
 simp [execOp,Instr.loadAt,Instr.sureAddr,a0,ae]
theorem ah.u7 {t:TypeId}{rest:List Oper}{i p o:Nat}{β γ:Type}[ak β][ak γ]{b b':β}{v:γ}{os:List (Nat×Value)}(l:aL β γ)(eN:bF c.P t γ)(ar:ba c E L x (.eq (.pointer (some ⟨p,o,none⟩))))
 (a5:ba c E L y (.of v)) (al:L[i]? =some ⟨some p,.cm b os⟩) (bg:o=l.off) (hb:l.set b v=b') (bb:vd os l.off (ak.size γ)=true)
 (k:ah c ops Q rest E (L.set i ⟨some p,.cm b' os⟩)):ah c ops Q (⟨none,.store t x y,ty,pos,af,none⟩::rest) E L:=fun a W s=>by
 subst bg
 subst hb
 obtain⟨k3,fe,cs,T,rfl,gO⟩:=s.own _ (List.mem_of_getElem? al)
 have aa:cs.toList.length=ak.size β:=gO.len
 have fc:=l.gZ
 have a6:=a5 a W s
 have ae:=BV (A:=aU L++c.b7) eN fe (off:=l.off) (by simp at aa;omega) a6
 have a0:a.eval x=_:=ar a W s
 refine ik rfl (R:=fun v W'=>W'=W.setRow p (gR cs.toList l.off (a.eval y).cells.toList).toArray) (.zB ?_ rfl) fun v W' hw=>?_
 ·simp [execOp,Instr.storeAt,Instr.sureAddr,a0,ae]
 subst hw
 exact k _ _ (s.store al fe ⟨_,T,rfl,by rw [List.toList_toArray];exact PG l gO a6.2 bb⟩)
theorem ah.ju {t:TypeId}{rest:List Oper}{i p o:Nat}{β γ:Type}[ak β][ak γ]{b b':β}{u:Value}{os os':List (Nat×Value)}(l:aL β (List γ))(eN:bF c.P t (List γ))(ar:ba c E L x (.eq (.pointer (some ⟨p,o,none⟩))))
 (a5:ba c E L y (.eq u)) (hu:u.oneCell'=true) (al:L[i]? =some ⟨some p,.cm b os⟩) (bg:o=l.off) (hb:l.set b []=b') (pT:uZ os o u=os')
 (k:ah c ops Q rest E (L.set i ⟨some p,.cm b' os'⟩)):ah c ops Q (⟨none,.store t x y,ty,pos,af,none⟩::rest) E L:=fun a W s=>by
 subst bg
 subst hb
 subst pT
 obtain⟨k3,fe,cs,T,rfl,gO⟩:=s.own _ (List.mem_of_getElem? al)
 have aa:cs.toList.length=ak.size β:=gO.len
 have fc:l.off+1≤ak.size β:=l.gZ
 have T3:a.eval y=u:=a5 a W s
 have a6:(I.of (⟨u⟩:hc)).holds (aU L++c.b7) W (a.eval y):=SC.2 ⟨T3,hu⟩
 have ae:=BV (A:=aU L++c.b7) eN.ex fe (off:=l.off) (show l.off+1≤cs.size by simp at aa;omega) a6
 have a0:a.eval x=_:=ar a W s
 have mx:(a.eval y).cells.toList= [u]:=by rw [T3,px hu]
 rw [mx] at ae
 refine ik rfl (R:=fun v W'=>W'=W.setRow p (gR cs.toList l.off [u]).toArray) (.zB ?_ rfl) fun v W' hw=>?_
 ·simp [execOp,Instr.storeAt,Instr.sureAddr,a0,ae]
 subst hw
 exact k _ _ (s.store al fe ⟨_,T,rfl,by rw [List.toList_toArray];exact Pk l gO hu⟩)
theorem Wp {P:Program}{W:World}{b off:Nat}{cur:Array Value}{T t:TypeId}{α:Type}[ak α]{v:Value}(ty:bF P t α)
 (hb:W.heap[b]? =some (.cells cur T (0,0))) (hs:off+ak.size α≤cur.size) (an:v.cells.toList.length=ak.size α) (aa:∀ u∈v.cells.toList,u.oneCell'=true):
 (storeVar t ⟨b,off,none⟩ v).run P W= .ok () (W.setRow b (gR cur.toList off v.cells.toList).toArray):=by
 have ae:=run_storeCells_at P b off T v.cells.toList 0 cur W hb (by rw [an];omega) aa
 have eL:v.cells.size=ak.size α:=by simpa using an
 simp only [Nat.add_zero] at ae
 simp only [storeVar,Sem.run_bind,ty.sizeOf,Result.andThen_ok,eL]
 simp only [ne_eq,not_true_eq_false,↓reduceIte,Sem.run_pure,Sem.run_bind,Result.andThen_ok]
 simpa [gR] using ae
theorem ah.tm {t:TypeId}{rest:List Oper}{i p:Nat}{β:Type}[ak β]{b b':β}{os os':List (Nat×Value)}(eN:bF c.P t β)(ar:ba c E L x (.eq (.pointer (some ⟨p,0,none⟩))))
 (a5:ba c E L y (.Mz b' os')) (al:L[i]? =some ⟨some p,.cm b os⟩)
 (k:ah c ops Q rest E (L.set i ⟨some p,.cm b' os'⟩)):ah c ops Q (⟨none,.store t x y,ty,pos,af,none⟩::rest) E L:=fun a W s=>by
 obtain⟨k3,fe,cs,T,rfl,gO⟩:=s.own _ (List.mem_of_getElem? al)
 have aa:cs.toList.length=ak.size β:=gO.len
 obtain⟨ao,a3⟩:=a5 a W s
 have an:=a3.len
 have ae:=Wp eN fe (off:=0) (by simp at aa;omega) an a3.one
 have a0:a.eval x=_:=ar a W s
 have e:gR cs.toList 0 (a.eval y).cells.toList=(a.eval y).cells.toList:=by
  unfold gR;rw [List.take_zero,List.nil_append,Nat.zero_add,an,← aa,List.drop_length,List.append_nil]
 rw [e] at ae
 refine ik rfl (R:=fun v W'=>W'=W.setRow p (a.eval y).cells.toList.toArray) (.zB ?_ rfl) fun v W' hw=>?_
 ·simp [execOp,Instr.storeAt,Instr.sureAddr,a0,ae]
 subst hw
 exact k _ _ (s.store al fe ⟨_,T,rfl,by rw [List.toList_toArray];exact a3⟩)
theorem cT {p:Addr}(ar:ba c E L x (.eq (.pointer (some p)))):b9 c E L ⟨d,.nilCheck x,ty,pos,af,g⟩ (.eq (.pointer (some p))):= .pure fun a W s=>by
 have a0:a.eval x=_:=ar a W s;exact⟨_,by simp [execOp,a0],rfl⟩
theorem CF {γ:Type}[ak γ]{r:γ}(ar:ba c E L x (.ptr r)):b9 c E L ⟨d,.nilCheck x,ty,pos,af,g⟩ (.ptr r):= .pure fun a W s=>by
 have hp:=ar a W s;obtain⟨b,off,cur,T,hL,a0,a7⟩:=hp;exact⟨_,by simp [execOp,a0],b,off,cur,T,hL,rfl,a7⟩
theorem bL.lT {a:Act}{W:World}(s:bL c E L a W){i j p cap T:Nat}{key:Option Nat}{β γ:Type}[ak β][ak γ]{b b':β}{xs:List γ}{os os':List (Nat×Value)}(l:aL β (List γ))(gd:i≠j)(al:L[i]? =some ⟨some p,.cm b os⟩)(qP:L[j]? =some ⟨key,.row T xs cap⟩)
 (q:Nat) (hq:os[q]? =some (l.off,aV key xs.length cap)) (hb:l.set b xs=b') (pT:sb os l.off=os'):bL c E ((L.set j ⟨none,.dead⟩).set i ⟨some p,.cm b' os'⟩) a W:=by
 subst hb
 subst pT
 have aw:=s.kill j
 have au:(L.set j ⟨none,.dead⟩)[i]? =some ⟨some p,.cm b os⟩:=by rw [List.getElem?_set_ne (fun e=>gd e.symm)];exact al
 have lU:=y9 (L:=L) (i:=j) (cp:= .dead)
 have pQ:pj (aU (L.set j ⟨none,.dead⟩)++c.b7) W (aV key xs.length cap) xs:=by
  have bg:=s.own _ (List.mem_of_getElem? qP);cases key with
  | none=>exact .inl ⟨rfl,bg.1⟩
  | some p=>
    obtain⟨o,fe,cs,rfl,eL,aR,xS,aO⟩:=bg
    obtain⟨aG,a0⟩:=Ji eL aR aO
    refine .inr ⟨p,0,cap,cs,T,(0,0),rfl,s.Cp qP,fe,aR,by omega,aG,?_⟩
    exact a0.mono (.drop fun k hm=>by
     rcases List.mem_append.1 hm with hm | hm
     ·exact List.mem_append.2 (.inl (lU.subset hm))
     exact List.mem_append.2 (.inr hm))
 exact aw.CO au (fun o ⟨cs,T,aa,ae⟩=>⟨cs,T,aa,Pl l ae (List.mem_of_getElem? hq) pQ⟩) id
theorem ah.lT {EV:List Oper}{p cap T:Nat}{key:Option Nat}{β γ:Type}[ak β][ak γ]{b b':β}{xs:List γ}{os os':List (Nat×Value)}(l:aL β (List γ))(i j q:Nat)(gd:Nat.beq i j=false)(al:L[i]? =some ⟨some p,.cm b os⟩)(qP:L[j]? =some ⟨key,.row T xs cap⟩)
 (hq:os[q]? =some (l.off,aV key xs.length cap)) (hb:l.set b xs=b') (pT:sb os l.off=os') (k:ah c ops Q EV E ((L.set j ⟨none,.dead⟩).set i ⟨some p,.cm b' os'⟩)):ah c ops Q EV E L:=
 fun a W s=>k a W (s.lT l (fun e=>by rw [e,Nat.beq_refl] at gd;cases gd) al qP q hq hb pT)
theorem bL.Hc {a:Act}{W:World}(s:bL c E L a W){i j p cap T g5:Nat}{key:Option Nat}{β γ:Type}[ak β][ak γ]{b b':β}{xs:List γ}{os os':List (Nat×Value)}(l:aL β (List γ))(gd:i≠j)(al:L[i]? =some ⟨some p,.cm b os⟩)(qP:L[j]? =some ⟨key,.row T xs cap⟩)
 (q:Nat) (hq:os[q]? =some (l.off,aV key xs.length cap)) (hb:l.set b xs=b') (pT:sb os l.off=os') (pQ:look E g5=some (.eq (aV key xs.length cap))):bL c ((g5,.of xs)::E) ((L.set j ⟨none,.dead⟩).set i ⟨some p,.cm b' os'⟩) a W:=by
 have aa:=s.freeze pQ qP
 subst hb
 subst pT
 have au:(L.set j ⟨none,.dead⟩)[i]? =some ⟨some p,.cm b os⟩:=by rw [List.getElem?_set_ne (fun e=>gd e.symm)];exact al
 obtain⟨v,ae,aG⟩:=aa.env g5 (.of xs) (by simp [look,Nat.beq_refl])
 obtain⟨wi,a0,a7⟩:=s.env g5 _ pQ
 rw [ae] at a0
 cases a0
 have a7:v=_:=a7
 subst a7
 exact aa.CO au (fun o ⟨cs,T,ao,a3⟩=>⟨cs,T,ao,Pl l a3 (List.mem_of_getElem? hq) (oc.1 aG)⟩) id
theorem ad.Hc {z:Exit}{p cap T:Nat}{key:Option Nat}{β γ:Type}[ak β][ak γ]{b b':β}{xs:List γ}{os os':List (Nat×Value)}(l:aL β (List γ))(i j q g5:Nat)(gd:Nat.beq i j=false)(al:L[i]? =some ⟨some p,.cm b os⟩)(qP:L[j]? =some ⟨key,.row T xs cap⟩)
 (hq:os[q]? =some (l.off,aV key xs.length cap)) (hb:l.set b xs=b') (pT:sb os l.off=os') (pQ:look E g5=some (.eq (aV key xs.length cap))) (k:ad c Q z ((g5,.of xs)::E) ((L.set j ⟨none,.dead⟩).set i ⟨some p,.cm b' os'⟩)):ad c Q z E L:=
 fun a W s=>k a W (s.Hc l (fun e=>by rw [e,Nat.beq_refl] at gd;cases gd) al qP q hq hb pT pQ)
inductive ve (c:dB)(E:List (Nat×I))(L:List aQ)(place:Nat→Option (Nat×Nat)){β:Type}[ak β]:β→List (Nat×Value)→List (Nat×Operand)→β→List (Nat×Value)→Prop
 | nil {b os} :ve c E L place b os [] b os
 | cons {b dT b':β} {os os':List (Nat×Value)} {γ:Type} [ak γ] {v:γ} {i:Nat} {x:Operand} {r:List (Nat×Operand)} (l:aL β γ):place i=some (l.off,ak.size γ)→ba c E L x (.of v)→l.set b v=dT→vd os l.off (ak.size γ)=true→ve c E L place dT os r b' os'→ve c E L place b os ((i,x)::r) b' os'
 | hole {b dT b':β} {os MA os':List (Nat×Value)} {γ:Type} [ak γ] {u:Value} {i:Nat} {x:Operand} {r:List (Nat×Operand)} (l:aL β (List γ)):place i=some (l.off,1)→ba c E L x (.eq u)→u.oneCell'=true→l.set b []=dT→uZ os l.off u=MA→ve c E L place dT MA r b' os'→ve c E L place b os ((i,x)::r) b' os'
theorem ve.run {place:Nat→Option (Nat×Nat)}{β:Type}[ak β]{b b':β}{os os':List (Nat×Value)}{bw:List (Nat×Operand)}(h:ve c E L place b os bw b' os'):∀ a W,bL c E L a W→ ∀ cs:Array Value,mm (aU L++c.b7) W cs.toList b os→
 ∃ eA,Instr.fill place cs (bw.map fun(i,x)=>(i,a.eval x))=some eA∧mm (aU L++c.b7) W eA.toList b' os':=by
 induction h with
 | nil=>intro a W s cs aO;exact⟨cs,rfl,aO⟩
 | @cons b dT b' os os' γ _ v i x r l aa ae aG a0 _ b6=>
   intro a W s cs aO
   subst aG
   have a6:=ae a W s
   have eL:(a.eval x).cells.size=ak.size γ:=by have:=ak.len a6.2;simpa using this
   have an:cs.toList.length=ak.size β:=aO.len
   have fc:=l.gZ
   rw [List.map_cons,Gm aa eL (by simp at an;omega)]
   refine b6 a W s _ ?_
   have:=PG l aO a6.2 a0
   simpa [gR,ak.len a6.2] using this
 | @hole b dT b' os MA os' γ _ u i x r l aa ae aG a0 a7 _ b6=>
   intro a W s cs aO
   subst a0
   subst a7
   have a6:a.eval x=u:=ae a W s
   have aj:(a.eval x).cells.toList= [u]:=by rw [a6,px aG]
   have eL:(a.eval x).cells.size=1:=by have:=congrArg List.length aj;simpa using this
   have an:cs.toList.length=ak.size β:=aO.len
   have fc:l.off+1≤ak.size β:=l.gZ
   rw [List.map_cons,Gm aa eL (by simp at an;omega)]
   refine b6 a W s _ ?_
   have:=Pk l aO aG
   simpa [gR,aj] using this
theorem r3 {β:Type}[ak β]{z b:β}{bw:List (Nat×Operand)}{pl:Array (Nat×Nat)}{os:List (Nat×Value)}(lE:List Nat)(uA:j3 c.P t lE)(bb:ak.agg β=true)(ER:ie c.P t pl)(hz:cS c.P t z)
 (a2:ve c E L (pl[·]?) z (lE.map fun o=>(o,ld)) bw b os):b9 c E L ⟨d,.build t bw.toArray,ty,pos,af,g⟩ (.Mz b os):= .pure fun a W s=>by
 obtain⟨fs,hu,hs,rfl⟩:=ER.at_
 obtain⟨i,eP,aa,ae,aG⟩:=hz.zero
 have cA:∀ o∈lE,eP.cells.toList[o]? =some ld:=fun o bg=>by
  unfold j3 at uA;rw [aa] at uA;simp only [Option.bind_some,ae,Option.any_some] at uA;exact O0 (List.all_eq_true.1 uA o bg)
 obtain⟨eA,a0,a7⟩:=a2.run a W s eP.cells ⟨by
  rw [Jt fun h hm=>by obtain⟨o,bg,rfl⟩:=List.mem_map.1 hm;exact cA o bg];exact(aG _ _).2,fun h hm=>by obtain⟨o,bg,rfl⟩:=List.mem_map.1 hm;exact⟨cA o bg,rfl⟩⟩
 refine⟨.agg eA,?_,by simp [shaped,bb],by simpa [Value.cells] using a7⟩
 have hm:(bw.toArray.map fun(x:Nat×Operand)=>(x.1,a.eval x.2)).toList=bw.map fun(i,x)=>(i,a.eval x):=by simp
 simp only [execOp,Instr.build,Sem.run_bind,zeroValue,typeInfo,run_program,Result.andThen_ok,aa,ae,Sem.run_pure,run_underlying hu,Ov fs hs]
 rw [hm,a0]
 rfl
def x2 {α:Type}[Inhabited α](bytes:Nat)(n:Int):Option (List α):=if 0≤n∧n≤140737488355328∧bytes * n≤140737488355328 then some (List.replicate n.toNat default) else none
theorem Zl {α:Type}[Inhabited α]{bytes:Nat}{n:Int}{r:List α}(h:x2 bytes n=some r):0≤n∧n≤140737488355328∧bytes * n≤140737488355328∧List.replicate n.toNat default=r:=by
 unfold x2 at h;split at h
 ·rename_i aj;exact⟨aj.1,aj.2.1,aj.2.2,dC h⟩
 cases h
theorem ah.TM {α:Type}[ak α][Inhabited α]{rest:List Oper}{a9 e bytes:Nat}{r:List α}{n:Int}(hu:c.P.underlying t=some (.slice e))(fi:bF c.P e α)(hz:cS c.P e (default:α))(hs:Nat.beq (ak.size α) 0=false)(hb:(c.P.info? e).map (·.bytes)=some bytes)
 (ar:ba c E L x (.of n)) (a5:ba c E L y (.of n)) (hm:x2 bytes n=some r) (k4:Nat.blt a9 c.n=true) (k:∀ p,ah c ops Q rest ((a9,.eq (aV p r.length r.length))::E) (⟨p,.row e r r.length⟩::L)):
 ah c ops Q (⟨some a9,.makeSlice t x y,ty,pos,af,none⟩::rest) E L:=fun a W s=>by
 obtain⟨bO,aR,aik,rfl⟩:=Zl hm
 obtain⟨m,rfl⟩:=Int.eq_ofNat_of_zero_le bO
 obtain⟨gS,eP,eY,dI,sI⟩:=hz.zero
 have oo:gS.size=ak.size α:=by
  obtain⟨i2,aa,ae⟩:=fi.info;rw [eY] at aa;cases aa;exact ae
 have x7:gS.bytes=bytes:=by rw [eY] at hb;simpa using hb
 have fI:ak.size α≠0:=fun h=>by rw [h] at hs;cases hs
 have ry:=Ci (sI (aU L++c.b7) W) m fI
 have aa:=of_int.1 (ar a W s)
 have ae:=of_int.1 (a5 a W s)
 have hw:IntKind.i64.wrap (m:Int)=m:=by have:bt (m:Int)=m:=ho (by omega) (by omega);exact this
 have hp:(2:Int) ^ 48=281474976710656:=by decide
 simp only [Int.toNat_natCast,List.length_replicate] at k
 generalize mb:(Array.range (m * ak.size α)).map (eP.cells[· % eP.cells.size]!)=D at ry
 refine ik rfl (R:=fun v W'=>v= .slice (some ⟨W.heap.size,0,none⟩) m m∧W'=W.alloc (.cells D e)) (.lv (v:= .slice (some ⟨W.heap.size,0,none⟩) m m) (W':=W.alloc (.cells D e)) ?_ ⟨rfl,rfl⟩) fun v W' ⟨aG,a0⟩=>?_
 ·have dq:((decide ((m:Int)<0)||decide ((gS.bytes:Int) * m>2 ^ 48))||decide ((m:Int)<0)||decide ((m:Int)>m))=false:=by
   rw [x7,hp];simp;omega
  have HY:((Array.range (m * gS.size)).map fun i=>(if m * gS.size=0 then(#[]:Array Value) else eP.cells)[i % (if m * gS.size=0 then(#[]:Array Value) else eP.cells).size]!)=D:=by
   rw [← mb,oo];by_cases ha:m * ak.size α=0
   ·rw [ha];simp
   simp only [if_neg ha]
  have bb:(asInt (.int .i64 (m:Int)):Sem Int).run c.P W= .ok (m:Int) W:=by simp [asInt,asIntOf]
  simp only [execOp,Instr.makeSlice,Sem.run_bind,run_underlying hu,Result.andThen_ok,aa,ae,bb,Sem.run_pure,typeInfo,run_program,eY,hw,dq,Bool.false_eq_true,if_false,run_askRoom,Go.sizeOf,Int.toNat_natCast]
  by_cases ha:m * gS.size=0
  ·simp only [ha,if_true,Sem.run_pure,Result.andThen_ok,Sem.run_bind,newRow] at HY ⊢
   rw [HY]
   simp
  simp only [ha,if_false,Sem.run_pure,Result.andThen_ok,Sem.run_bind,newRow,zeroValue,typeInfo,run_program,eY,dI] at HY ⊢
  rw [HY]
  simp
 subst aG a0
 have vy:m≤maxLen:=by
  have:maxLen=9223372036854775807:=rfl;omega
 have eL:D.size=m * ak.size α:=by have:=ry.1;simpa using this
 have cr:=s.alloc (o:= .cells D e) (cp:= .row e (List.replicate m (default:α)) m) ⟨D,rfl,eL,by simp,vy,by
  have bn:=ry.1;rw [List.length_replicate] at bn ⊢;rw [← bn,List.take_length];exact ry⟩
 exact k (some W.heap.size) _ _ (cr.put (τ:= .eq (aV (some W.heap.size) m m)) (by simpa using k4) rfl)
theorem ad.k8 {fn:Func}{δ:Type}{ρ:δ→I}{Lo:δ→List aQ}(a9:δ)(hs:(Lo a9).Sublist L)(aO:fn.results= #[])(rz:ρ a9= .dZ [])(h3:c.ds= []:=by rfl):ad c (bodyPost c.P fn (kQ c.X c.b7 c.jB ρ Lo)) .ret E L:=fun a W s=>
 ⟨s.w3 h3,.tuple #[],by simp [wV,aO],s.ends a9 hs (by rw [rz];exact⟨_,rfl,.nil⟩)⟩
end
abbrev Hid:=Nat→Option Nat
def dm (l:List (Option Nat)):Hid:=fun i=>(l[i]?).getD none
structure e6 where
 slot:Option Nat
 up:List Nat
 rd:List Nat
 wr:List Nat
 τ:(Nat→Hid)→I
 dS:(Nat→Hid)→Nat→aQ
def ib (up:List Nat)(i:Nat)(hd:Nat→Hid):Nat→Hid:=fun j=>bif Nat.beq j i||up.any (fun k=>Nat.beq k j) then hd j else fun _=>none
def nz (hd:Nat→Hid)(i:Nat)(x:Hid):Nat→Hid:=fun j=>bif Nat.beq j i then x else hd j
theorem Yx {up:List Nat}{i:Nat}{hd hd':Nat→Hid}(h:hd i=hd' i)(de:∀ k∈up,hd k=hd' k):ib up i hd=ib up i hd':=by
 funext j;unfold ib;cases aa:Nat.beq j i
 ·cases ae:up.any (fun k=>Nat.beq k j)
  ·rfl
  obtain⟨k,aw,he⟩:=List.any_eq_true.1 ae;have:=eQ.1 he;subst this;simp only [Bool.false_or,cond_true];exact de k aw
 have:=eQ.1 aa;subst this;simp only [Bool.true_or,cond_true];exact h
def oq:List aQ→ (Nat→aQ)→List Nat→List aQ
 | L,_,[]=>L
 | L,f,j::r=>oq (L.set j (f j)) f r
theorem OM:∀ {L:List aQ} {f:Nat→aQ} {fG:List Nat},(oq L f fG).length=L.length
 | _,_,[]=>rfl
 | L,f,j::r=>by rw [oq,OM,List.length_set]
theorem JP:∀ {L:List aQ} {f:Nat→aQ} {fG:List Nat} (i:Nat),(oq L f fG)[i]? =if fG.contains i=true then L[i]?.map (fun _=>f i) else L[i]?
 | _,_,[],i=>by simp [oq]
 | L,f,j::r,i=>by
   rw [oq,JP i];by_cases h:j=i
   ·subst h;simp only [List.contains_cons,BEq.rfl,Bool.true_or,if_true,List.getElem?_set];by_cases an:j<L.length
    ·simp [an]
    simp [an]
   have hb:(i==j)=false:=by simp;exact fun e=>h e.symm
   rw [List.contains_cons,hb,Bool.false_or,List.getElem?_set_ne h]
def jD (ls:Nat→Bool)(hd:Nat→Hid):Nat→List e6→List aQ→List aQ
 | _,[],L=>L
 | k,h::r,L=>jD ls hd (k+1) r (bif ls k then oq L (h.dS (ib h.up k hd)) h.wr else L)
def kz (ls:Nat→Bool)(hd:Nat→Hid)(E:List (Nat×I)):Nat→List e6→List (Nat×I)
 | _,[]=>E
 | k,h::r=>match ls k,h.slot with
   | true,some s=>(s,h.τ (ib h.up k hd))::kz ls hd E (k+1) r
   | _,_=>kz ls hd E (k+1) r
def mR (ls:Nat→Bool)(hd:Nat→Hid)(j:Nat):Nat→List e6→Option aQ→Option aQ
 | _,[],v=>v
 | k,h::r,v=>mR ls hd j (k+1) r (bif ls k&&h.wr.contains j then v.map (fun _=>h.dS (ib h.up k hd) j) else v)
theorem GU {ls:Nat→Bool}{hd:Nat→Hid}(j:Nat):∀ {k:Nat} {hs:List e6} {L:List aQ},(jD ls hd k hs L)[j]? =mR ls hd j k hs L[j]?
 | _,[],_=>rfl
 | k,h::r,L=>by
   rw [jD,mR,GU j];congr 1;cases ls k
   ·rfl
   simp only [cond_true,Bool.true_and];rw [JP];cases h.wr.contains j <;> rfl
theorem JB {ls:Nat→Bool}{hd:Nat→Hid}{j:Nat} :∀ {k:Nat} {hs:List e6} {v:Option aQ},(∀ m h,hs[m]? =some h→h.wr.contains j=true→ls (k+m)=false)→mR ls hd j k hs v=v
 | _,[],_,_=>rfl
 | k,h::r,v,aR=>by
   rw [mR,JB fun m x hm ar=>by have:=aR (m+1) x (by simpa using hm) ar;rw [← this];congr 1;omega];cases hw:h.wr.contains j
   ·simp
   have:=aR 0 h rfl hw;simp only [Nat.add_zero] at this;rw [this];rfl
theorem Jj {ls:Nat→Bool}{hd:Nat→Hid}{j:Nat} :∀ {k:Nat} {hs rs:List e6} {v:Option aQ},mR ls hd j k (hs++rs) v=mR ls hd j (k+hs.length) rs (mR ls hd j k hs v)
 | _,[],_,_=>rfl
 | k,h::r,rs,v=>by
   rw [List.cons_append,mR,Jj,mR,List.length_cons];congr 1;omega
theorem F6 {ls ls':Nat→Bool}{hd hd':Nat→Hid}{j:Nat} :∀ {k:Nat} {hs:List e6} {v:Option aQ},(∀ m h,hs[m]? =some h→h.wr.contains j=true→ls (k+m)=ls' (k+m)∧ (ls (k+m)=true→ib h.up (k+m) hd=ib h.up (k+m) hd'))→mR ls hd j k hs v=mR ls' hd' j k hs v
 | _,[],_,_=>rfl
 | k,h::r,v,aR=>by
   have b6:=F6 (ls:=ls) (ls':=ls') (hd:=hd) (hd':=hd') (j:=j) (k:=k+1) (hs:=r) (v:=bif ls k&&h.wr.contains j then v.map (fun _=>h.dS (ib h.up k hd) j) else v) fun m x hm ar=>by
    have:=aR (m+1) x (by simpa using hm) ar;rw [show k+1+m=k+(m+1) by omega];exact this
   rw [mR,mR,b6];congr 1;cases hw:h.wr.contains j
   ·simp
   have:=aR 0 h rfl hw;simp only [Nat.add_zero] at this;rw [← this.1];cases an:ls k
   ·rfl
   rw [this.2 an]
theorem JC {ls:Nat→Bool}{hd:Nat→Hid}{E:List (Nat×I)}{t:Nat} :∀ {k:Nat} {hs:List e6},(∀ (m:Nat) (h:e6),hs[m]? =some h→ls (k+m)=true→h.slot≠some t)→look (kz ls hd E k hs) t=look E t
 | _,[],_=>rfl
 | k,h::r,aR=>by
   have b6:=JC (ls:=ls) (hd:=hd) (E:=E) (t:=t) (k:=k+1) (hs:=r) fun m x hm an=>aR (m+1) x (by simpa using hm) (by rw [← an];congr 1;omega);unfold kz;split
   ·rename_i s aa ae;have db:Nat.beq s t=false:=by
     cases hb:Nat.beq s t
     ·rfl
     have:=eQ.1 hb;subst this;exact absurd ae (aR 0 h rfl aa)
    simp only [look,db,cond_false];exact b6
   exact b6
theorem JQ {ls:Nat→Bool}{hd:Nat→Hid}{E:List (Nat×I)}{s:Nat} :∀ {k:Nat} {hs:List e6} {j:Nat} {h:e6},hs[j]? =some h→ls (k+j)=true→h.slot=some s→ (∀ m x,hs[m]? =some x→x.slot=some s→m=j)→look (kz ls hd E k hs) s=some (h.τ (ib h.up (k+j) hd))
 | _,[],_,_,h,_,_,_=>by simp at h
 | k,x::r,0,h,aH,an,hs,_=>by
   simp only [List.getElem?_cons_zero,Option.some.injEq] at aH;subst aH;simp only [Nat.add_zero] at an;unfold kz;rw [an,hs];simp [look,Nat.beq_refl]
 | k,x::r,j+1,h,aH,an,hs,hu=>by
   have b6:=JQ (ls:=ls) (hd:=hd) (E:=E) (s:=s) (k:=k+1) (hs:=r) (j:=j) (h:=h) (by simpa using aH) (by rw [← an];congr 1;omega) hs fun m y hm a5=>by
    have:=hu (m+1) y (by simpa using hm) a5;omega
   rw [show k+1+j=k+(j+1) by omega] at b6;unfold kz;split
   ·rename_i cr aa ae;have db:Nat.beq cr s=false:=by
     cases hb:Nat.beq cr s
     ·rfl
     have:=eQ.1 hb;subst this;have:=hu 0 x rfl ae;omega
    simp only [look,db,cond_false];exact b6
   exact b6
theorem PH {ls:Nat→Bool}{hd:Nat→Hid}{E:List (Nat×I)}{t:Nat}{τ:I} :∀ {k:Nat} {hs:List e6},look (kz ls hd E k hs) t=some τ→ (∃ (j:Nat) (h:e6),hs[j]? =some h∧ls (k+j)=true∧h.slot=some t∧τ=h.τ (ib h.up (k+j) hd))∨ (look E t=some τ∧ ∀ (m:Nat) (h:e6),hs[m]? =some h→ls (k+m)=true→h.slot≠some t)
 | _,[],h=>.inr ⟨h,fun m h hm=>by simp at hm⟩
 | k,x::r,h=>by
   unfold kz at h;have go:(ls k=true→x.slot≠some t)→look (kz ls hd E (k+1) r) t=some τ→ (∃ (j:Nat) (h:e6),(x::r)[j]? =some h∧ls (k+j)=true∧h.slot=some t∧τ=h.τ (ib h.up (k+j) hd))∨ (look E t=some τ∧ ∀ (m:Nat) (h:e6),(x::r)[m]? =some h→ls (k+m)=true→h.slot≠some t):=fun ar h=>by
    rcases PH h with⟨j,y,aa,ae,aG,a0⟩ | ⟨aa,ae⟩
    ·exact .inl ⟨j+1,y,by simpa using aa,by rw [← ae];congr 1;omega,aG,by rw [a0];congr 2;omega⟩
    refine .inr ⟨aa,fun m y hm an=>?_⟩;cases m with
    | zero=>simp only [List.getElem?_cons_zero,Option.some.injEq] at hm;subst hm;exact ar an
    | succ m=>exact ae m y (by simpa using hm) (by rw [← an];congr 1;omega)
   split at h
   ·rename_i s aa ae;simp only [look] at h;by_cases e:Nat.beq s t=true
    ·rw [e] at h;simp only [cond_true,Option.some.injEq] at h;have:=eQ.1 e;subst this;exact .inl ⟨0,x,rfl,aa,ae,h.symm⟩
    rw [Bool.not_eq_true] at e;rw [e] at h;exact go (fun _ fI=>by rw [ae] at fI;cases fI;rw [Nat.beq_refl] at e;cases e) h
   rename_i gf;exact go (fun an fI=>gf t an fI) h
def nZ (hd:Nat→Hid)(hs:List e6)(E:List (Nat×I)):List Nat→List (Nat×I)
 | []=>E
 | j::r=>match hs[j]? with
   | some h=>match h.slot with
     | some s=>(s,h.τ (ib h.up j hd))::nZ hd hs E r
     | none=>nZ hd hs E r
   | none=>nZ hd hs E r
theorem Qv {hd:Nat→Hid}{hs:List e6}{E:List (Nat×I)}{t:Nat}{τ:I} :∀ {ds:List Nat},look (nZ hd hs E ds) t=some τ→ (∃ j∈ds,∃ h:e6,hs[j]? =some h∧h.slot=some t∧τ=h.τ (ib h.up j hd))∨look E t=some τ
 | [],h=>.inr h
 | j::r,h=>by
   have go:look (nZ hd hs E r) t=some τ→ (∃ i∈j::r,∃ h:e6,hs[i]? =some h∧h.slot=some t∧τ=h.τ (ib h.up i hd))∨look E t=some τ:=fun h=>by
    rcases Qv h with⟨i,aa,ae⟩ | aa
    ·exact .inl ⟨i,by simp [aa],ae⟩
    exact .inr aa
   unfold nZ at h;split at h
   ·rename_i x ar;split at h
    ·rename_i s pQ;simp only [look] at h;by_cases e:Nat.beq s t=true
     ·rw [e] at h;simp only [cond_true,Option.some.injEq] at h;have:=eQ.1 e;subst this;exact .inl ⟨j,by simp,x,ar,pQ,h.symm⟩
     simp only [Bool.not_eq_true] at e;rw [e] at h;exact go h
    exact go h
   exact go h
def xB (E:List (Nat×I))(v:Value):List Nat→Prop
 | []=>True
 | s::r=>look E s=some (.eq v)∧xB E v r
theorem xB.get {E:List (Nat×I)}{v:Value} :∀ {hT:List Nat},xB E v hT→ ∀ s∈hT,look E s=some (.eq v)
 | _::_,h,s,hs=>by
   rcases List.mem_cons.1 hs with rfl | hs
   ·exact h.1
   exact xB.get h.2 s hs
def AE (τ:I)(E:List (Nat×I)):List Nat→List (Nat×I)
 | []=>E
 | s::r=>(s,τ)::AE τ E r
theorem PI {τ:I}{E:List (Nat×I)}{t:Nat}{σ:I} :∀ {hT:List Nat},look (AE τ E hT) t=some σ→ (t∈hT∧σ=τ)∨look E t=some σ
 | [],h=>.inr h
 | s::r,h=>by
   simp only [AE,look] at h;by_cases e:Nat.beq s t=true
   ·rw [e] at h;simp only [cond_true,Option.some.injEq] at h;have:=eQ.1 e;subst this;exact .inl ⟨by simp,h.symm⟩
   simp only [Bool.not_eq_true] at e;rw [e] at h;rcases PI h with⟨aa,ae⟩ | aa
   ·exact .inl ⟨by simp [aa],ae⟩
   exact .inr aa
def xN {w:Nat}(a b:BitVec w):BitVec w:=if a≤b then a else b
def tL:Option Nat→I→List (Nat×I)→List (Nat×I)
 | some s,τ,E=>(s,τ)::E
 | none,_,E=>E
section
variable {c:dB} {E:List (Nat×I)} {L:List aQ} {ops:Array Oper} {Q:Exit→Act→World→Prop}
theorem bL.oR {a:Act}{W:World}{α:Type}[ak α]{i cap T:Nat}{hT:List Nat}{key:Option Nat}{xs:List α}(h:bL c E L a W)(an:xB E (aV key xs.length cap) hT)(al:L[i]? =some ⟨key,.row T xs cap⟩):
 bL c (AE (.of xs) E hT) (L.set i ⟨none,.dead⟩) a W:=by
 have aw:=h.kill i
 refine { aw with env:=fun t τ fy=>?_ }
 rcases PI fy with⟨hm,rfl⟩ | aa
 ·obtain⟨v,aa,ae⟩:=h.env t _ (an.get t hm)
  refine⟨v,aa,oc.2 ?_⟩
  have l4:v=aV key xs.length cap:=ae
  subst l4
  have bg:=h.own _ (List.mem_of_getElem? al)
  cases key with
  | none=>exact .inl ⟨rfl,bg.1⟩
  | some p=>
    obtain⟨o,fe,cs,rfl,eL,aR,xS,aO⟩:=bg
    obtain⟨aG,a0⟩:=Ji eL aR aO
    refine .inr ⟨p,0,cap,cs,T,(0,0),rfl,h.Cp al,fe,aR,by omega,aG,?_⟩
    have lU:=y9 (L:=L) (i:=i) (cp:= .dead)
    exact a0.mono (.drop fun k hm=>by
     rcases List.mem_append.1 hm with hm | hm
     ·exact List.mem_append.2 (.inl (lU.subset hm))
     exact List.mem_append.2 (.inr hm))
 exact aw.env t τ aa
theorem ah.oR {l:List Oper}{α:Type}[ak α]{key:Option Nat}{xs:List α}{cap T:Nat}(i:Nat)(hT:List Nat)(an:xB E (aV key xs.length cap) hT)(al:L[i]? =some ⟨key,.row T xs cap⟩)
 (k:ah c ops Q l (AE (.of xs) E hT) (L.set i ⟨none,.dead⟩)):ah c ops Q l E L:=fun a W st=>k a W (st.oR an al)
theorem ad.oR {x:Exit}{α:Type}[ak α]{key:Option Nat}{xs:List α}{cap T:Nat}(i:Nat)(hT:List Nat)(an:xB E (aV key xs.length cap) hT)(al:L[i]? =some ⟨key,.row T xs cap⟩)
 (k:ad c Q x (AE (.of xs) E hT) (L.set i ⟨none,.dead⟩)):ad c Q x E L:=fun a W st=>k a W (st.oR an al)
def b5 (c:dB)(ops:Array Oper)(Q:Exit→Act→World→Prop)(hs:List e6)(E:List (Nat×I))(L:List aQ)(i:Nat)(o:Oper)(h:e6):Prop:=
 ∀ (hd:Nat→Hid) (E':List (Nat×I)) (L':List aQ),(∀ t τ,look (nZ hd hs E h.up) t=some τ→look E' t=some τ)→
   (∀ j e,(jD (fun _=>true) hd 0 (hs.take i) L)[j]? =some e→h.rd.contains j=true→L'[j]? =some e)→
   ah c ops (sS (fun a W=> ∃ x,bL c (tL h.slot (h.τ (ib h.up i (nz hd i x))) E') (oq L' (h.dS (ib h.up i (nz hd i x))) h.wr) a W) Q) [o] E' L'
def CP (c:dB)(ops:Array Oper)(Q:Exit→Act→World→Prop)(hs:List e6)(E:List (Nat×I))(L:List aQ):Nat→List Oper→List e6→Prop
 | _,[],[]=>True
 | i,o::os,h::r=>b5 c ops Q hs E L i o h∧CP c ops Q hs E L (i+1) os r
 | _,_,_=>False
theorem O1 {ls ls':Nat→Bool}{hd:Nat→Hid} :∀ {k:Nat} {hs:List e6},(∀ m,m<hs.length→ls (k+m)=ls' (k+m))→kz ls hd E k hs=kz ls' hd E k hs
 | _,[],_=>rfl
 | k,h::r,aR=>by
   have b6:=O1 (ls:=ls) (ls':=ls') (hd:=hd) (k:=k+1) (hs:=r) fun m hm=>by
    have:=aR (m+1) (by simp;omega);rw [show k+1+m=k+(m+1) by omega];exact this
   have bO:=aR 0 (by simp);simp only [Nat.add_zero] at bO;unfold kz;rw [bO,b6]
theorem PJ {ls ls':Nat→Bool}{hd:Nat→Hid} :∀ {k:Nat} {hs:List e6} {L:List aQ},(∀ m,m<hs.length→ls (k+m)=ls' (k+m))→jD ls hd k hs L=jD ls' hd k hs L
 | _,[],_,_=>rfl
 | k,h::r,L,aR=>by
   have bO:=aR 0 (by simp);simp only [Nat.add_zero] at bO;rw [jD,jD,bO];exact PJ fun m hm=>by
    have:=aR (m+1) (by simp;omega);rw [show k+1+m=k+(m+1) by omega];exact this
def n0 (hs:List e6):List (Option Nat×List Nat×List Nat×List Nat):=hs.map fun h=>(h.slot,h.up,h.rd,h.wr)
theorem Kf {hs:List e6}{i:Nat}{h:e6}(au:hs[i]? =some h):(n0 hs)[i]? =some (h.slot,h.up,h.rd,h.wr):=by simp [n0,au]
def KK (c:dB)(ops:Array Oper)(Q:Exit→Act→World→Prop)(hs:List e6)(E:List (Nat×I))(L:List aQ)(np:Nat)(i:Nat)(o:Oper)(h:e6):Prop:=
 ∀ (hd:Nat→Hid) (E':List (Nat×I)) (L':List aQ),(∀ t τ,look (nZ hd hs E h.up) t=some τ→look E' t=some τ)→
   (∀ j e,(jD (fun _=>true) hd 0 (hs.take i) L)[j]? =some e→h.rd.contains j=true→L'[j]? =some e)→L'.drop np=L.drop np→
   ah c ops (sS (fun a W=> ∃ x,bL c (tL h.slot (h.τ (ib h.up i (nz hd i x))) E') (oq L' (h.dS (ib h.up i (nz hd i x))) h.wr) a W) Q) [o] E' L'
def sc (c:dB)(ops:Array Oper)(Q:Exit→Act→World→Prop)(hs:List e6)(E:List (Nat×I))(L:List aQ)(np:Nat):Nat→List Oper→List e6→Prop
 | _,[],[]=>True
 | i,o::os,h::r=>KK c ops Q hs E L np i o h∧sc c ops Q hs E L np (i+1) os r
 | _,_,_=>False
theorem sc.get {hs:List e6}{np:Nat} :∀ {k:Nat} {os:List Oper} {rs:List e6},sc c ops Q hs E L np k os rs→ ∀ i h o,rs[i]? =some h→os[i]? =some o→KK c ops Q hs E L np (k+i) o h
 | k,[],[],_,i,h,o,au,_=>by simp at au
 | k,aiJ::os,bO::r,cA,i,h,o,au,bg=>by
   cases i with
   | zero=>
     simp only [List.getElem?_cons_zero,Option.some.injEq] at au bg
     subst au;subst bg;exact cA.1
   | succ i=>
     have:=sc.get cA.2 i h o (by simpa using au) (by simpa using bg)
     rw [show k+1+i=k+(i+1) by omega] at this
     exact this
 | k,[],_::_,cA,_,_,_,_,_=>cA.elim
 | k,_::_,[],cA,_,_,_,_,_=>cA.elim
theorem CP.T4 {hs:List e6}{np:Nat} :∀ {k:Nat} {os:List Oper} {rs:List e6},CP c ops Q hs E L k os rs→sc c ops Q hs E L np k os rs
 | _,[],[],_=>trivial
 | _,_::_,_::_,h=>⟨fun hd E' L' aa ae _=>h.1 hd E' L' aa ae,CP.T4 h.2⟩
 | _,[],_::_,h=>h.elim
 | _,_::_,[],h=>h.elim
theorem Pm {n:Nat} :∀ {L:List aQ} {f:Nat→aQ} {fG:List Nat},(∀ j∈fG,j<n∨L.length≤j)→ (oq L f fG).drop n=L.drop n
 | _,_,[],_=>rfl
 | L,f,j::r,h=>by
   rw [oq,Pm (fun k aw=>by rw [List.length_set];exact h k (by simp [aw]))];rcases h j (by simp) with aa | aa
   ·rw [List.drop_set_of_lt aa]
   rw [List.set_eq_of_length_le aa]
theorem Kg {ls:Nat→Bool}{hd:Nat→Hid}{n:Nat} :∀ {k:Nat} {hs:List e6} {L:List aQ},(∀ h∈hs,∀ j∈h.wr,j<n∨L.length≤j)→ (jD ls hd k hs L).drop n=L.drop n
 | _,[],_,_=>rfl
 | k,h::r,L,hw=>by
   rw [jD];cases an:ls k
   ·exact Kg fun x ar=>hw x (by simp [ar])
   simp only [cond_true];rw [Kg (fun x ar j aH=>by rw [OM];exact hw x (by simp [ar]) j aH),Pm (hw h (by simp))]
theorem SD {hs:List e6}{ds:List (Option Nat×List Nat×List Nat×List Nat)}{np:Nat}(h3:n0 hs=ds)(h:(ds.all fun d=>d.2.2.2.all fun j=>Nat.blt j np)=true):∀ h∈hs,∀ j∈h.wr,j<np∨L.length≤j:=fun x ar j aH=>by
 subst h3;have aa:=List.all_eq_true.1 h (x.slot,x.up,x.rd,x.wr) (List.mem_map.2 ⟨x,ar,rfl⟩);have ae:=List.all_eq_true.1 aa j aH;exact .inl (Nat.blt_eq.mp ae)
theorem ad.fin {slot:Option Nat}{up wr:List Nat}{i:Nat}{hd:Nat→Hid}{τ:(Nat→Hid)→I}{dS:(Nat→Hid)→Nat→aQ}{E' wb:List (Nat×I)}{L' L2:List aQ}(x:Hid)(aA:wb=tL slot (τ (ib up i (nz hd i x))) E')(al:L2=oq L' (dS (ib up i (nz hd i x))) wr):
 ad c (sS (fun a W=> ∃ x,bL c (tL slot (τ (ib up i (nz hd i x))) E') (oq L' (dS (ib up i (nz hd i x))) wr) a W) Q) .normal wb L2:=fun a W s=>by
 subst aA al
 exact⟨x,s⟩
theorem ad.place {z:Exit}{e:aQ}(j:Nat)(aH:L[j]? =some ⟨none,.dead⟩)(k:ad c Q z E (L.set j e)):ad c Q z E (e::L):=fun a W s=>by
 refine k a W (s.sub (fun x ar=>?_) ?_)
 ·rcases List.mem_or_eq_of_mem_set ar with h | h
  ·exact List.mem_cons.2 (.inr h)
  exact List.mem_cons.2 (.inl h)
 have aa:=uT aH;have ae:(L.set j e).Perm (e::L.eraseIdx j):=by
  have aG:(L.set j e)[j]? =some e:=by rw [List.getElem?_set_self (List.getElem?_eq_some_iff.1 aH).1]
  have a0:=uT aG;rwa [List.eraseIdx_set_eq] at a0
 have a7:=w9 (aa.cons e);have bn:aU (e::⟨none,.dead⟩::L.eraseIdx j)=aU (e::L.eraseIdx j):=by cases aw:e.key <;> simp [aU,aw]
 rw [bn] at a7;exact(w9 ae).nodup_iff.2 (a7.nodup_iff.1 s.nodup)
theorem ad.back {z:Exit}{e jC:aQ}(j:Nat)(aH:L[j]? =some jC)(k:ad c Q z E (L.set j e)):ad c Q z E (e::L.eraseIdx j):=fun a W s=>by
 have aG:(L.set j e)[j]? =some e:=by rw [List.getElem?_set_self (List.getElem?_eq_some_iff.1 aH).1]
 have a0:=uT aG;rw [List.eraseIdx_set_eq] at a0;exact k a W (s.perm a0.symm)
theorem ag.ra {z:Code}(n:Nat)(k:ag c Q z E (L++List.replicate n ⟨none,.dead⟩)):ag c Q z E L:=fun a W s=>by
 refine k a W ?_;have aw:aU (L++List.replicate n ⟨none,.dead⟩)=aU L:=by
  rw [ft];have:∀ n,aU (List.replicate n (⟨none,.dead⟩:aQ))= []:=fun n=>by
   induction n with
   | zero=>rfl
   | succ n b6=>rw [List.replicate_succ];simp [aU,b6]
  rw [this,List.append_nil]
 exact
 {defers:=s.defers
  size:=s.size
  env:=fun t τ an=>by rw [aw];exact s.env t τ an
  ej:=s.ej
  own:=fun e he=>by
   rw [aw];rcases List.mem_append.1 he with he | he
   ·exact s.own e he
   rw [(List.mem_replicate.1 he).2];trivial
  nodup:=by rw [aw];exact s.nodup
  lt:=by rw [aw];exact s.lt
  gN:=by rw [aw];exact s.gN
  fb:=by rw [aw];exact s.fb }
theorem ag.Dg {z:Code}(n m:Nat)(k:ag c Q z E (L.take m++(List.replicate n ⟨none,.dead⟩++L.drop m))):ag c Q z E L:=by
 refine ag.ra n fun a W s=>k a W (s.perm ?_);have e:L=L.take m++L.drop m:=(List.take_append_drop m L).symm;conv=>lhs;rw [e]
 rw [List.append_assoc];exact List.perm_append_comm.append_left _
theorem ad.da {z:Exit}{L2:List aQ}(h:L=L2)(k:ad c Q z E L2):ad c Q z E L:=by subst h;exact k
theorem ad.ji {z:Exit}{key:Option Nat}{n m cap:Nat}(g5:Nat)(an:look E g5=some (.eq (aV key n cap)))(aR:n=m)(k:ad c Q z ((g5,.eq (aV key m cap))::E) L):ad c Q z E L:=fun a W s=>by
 subst aR;refine k a W (s.less fun t τ h=>?_);simp only [look] at h;by_cases e:Nat.beq g5 t=true
 ·rw [e] at h;simp only [cond_true] at h;have:=eQ.1 e;subst this;exact⟨τ,by rw [an,h],fun _ _ _ h=>h⟩
 simp only [Bool.not_eq_true] at e;rw [e] at h;exact⟨τ,h,fun _ _ _ h=>h⟩
variable {hs:List e6} {i d:Nat} {up rd:List Nat} {dS:(Nat→Hid)→Nat→aQ} {o:Oper}
theorem jj {τ:I}(bD:o.guard=none)(hd:o.dst=some d)(aR:Nat.blt d c.n=true)
 (h:∀ (hd:Nat→Hid) (E':List (Nat×I)) (L':List aQ),(∀ t τ,look (nZ hd hs E up) t=some τ→look E' t=some τ)→ (∀ j e,(jD (fun _=>true) hd 0 (hs.take i) L)[j]? =some e→rd.contains j=true→L'[j]? =some e)→b9 c E' L' o τ):
 b5 c ops Q hs E L i o ⟨some d,up,rd,[],fun _=>τ,dS⟩:=fun agh E' L' aA al=>
 ah.v (h agh E' L' aA al) bD hd aR (ah.nil (ad.fin (fun _=>none) rfl rfl))
variable {ty t:TypeId} {pos:String} {af:Array Edge}
theorem ah.S8 {α:Type}[ak α]{rest:List Oper}{a9 e n:Nat}{z:α}{r0 r:List α}{bw:List (Nat×Operand)}(hu:c.P.underlying t=some (.slice e))(fi:bF c.P e α)(hz:cS c.P e z)(hs:Nat.beq (ak.size α) 0=false)(aR:Nat.ble (n * ak.size α) 16777216=true)
 (a2:oV c E L (List.replicate n z) bw r0) (aO:r0=r) (k4:Nat.blt a9 c.n=true) (k:∀ p,ah c ops Q rest ((a9,.eq (aV p r.length n))::E) (⟨p,.row e r n⟩::L)):
 ah c ops Q (⟨some a9,.buildSlice t n bw.toArray,ty,pos,af,none⟩::rest) E L:=by subst aO;exact ah.q7 hu fi hz hs aR a2 k4 k
variable {g:Option (Nat×Bool)} {x y:Operand}
theorem Y7 {a b:BitVec 64}{a9:Option Tmp}{ats:Array TypeId}(ar:ba c E L x (.of a))(a5:ba c E L y (.of b)):b9 c E L ⟨a9,.call ⟨.builtin .min,#[x,y],ats⟩,ty,pos,af,g⟩ (.of (xN a b)):= .pure fun A W s=>
 ⟨.int .u64 (xN a b).toNat,by
   simp [execOp,resolve,invoke,builtin,Builtin.min_,Builtin.min2,gX.1 (ar A W s),gX.1 (a5 A W s)];unfold xN;split <;> split <;> first | rfl | (rename_i aa ae;simp only [BitVec.le_def] at *;omega),gX.2 rfl⟩
end
section
variable {c:dB} {E:List (Nat×I)} {L:List aQ} {ops:Array Oper} {Q:Exit→Act→World→Prop}
variable {d:Option Tmp} {ty:TypeId} {pos:String} {af:Array Edge} {g:Option (Nat×Bool)} {x y:Operand} {t t2:TypeId}
def Src (c:dB)(E:List (Nat×I))(L:List aQ)(y:Operand)(N:Nat){α:Type}[ak α](vs:List α):Prop:=
 ∀ a W,bL c E L a W→ (Builtin.lenOf (a.eval y)).run c.P W= .ok N W∧ ∃ cells:List Value,(Builtin.firstCells (ak.size α) vs.length (a.eval y)).run c.P W= .ok cells.toArray W∧hr (aU L++c.b7) W cells vs∧ ∀ v∈cells,v.oneCell'=true
theorem ah.Hf {rest:List Oper}{i e p off a9 dLen dCap N T:Nat}{cp cp':eg}{α:Type}[ak α]{vs:List α}(hu:c.P.underlying t=some (.slice e))(fi:bF c.P e α)
 (ar:ba c E L x (.eq (.slice (some ⟨p,off,none⟩) dLen dCap))) (a5:Src c E L y N vs) (LV:Nat.min N dLen=vs.length) (al:L[i]? =some ⟨some p,cp⟩) (aR:Nat.blt a9 c.n=true)
 (Ay:∀ A W o cells,cp.holds A W o→hr A W cells vs→ ∃ cs,o= .cells cs T (0,0)∧off+cells.length≤cs.size∧cp'.holds A W (.cells (cs.toList.take off++cells++cs.toList.drop (off+cells.length)).toArray T (0,0)))
 (k:ah c ops Q rest ((a9,.of (vs.length:Int))::E) (L.set i ⟨some p,cp'⟩)):
 ah c ops Q (⟨some a9,.call ⟨.builtin .copy,#[x,y],#[t,t2]⟩,ty,pos,af,none⟩::rest) E L:=fun a W s=>by
 have k4:a9<c.n:=by simpa using aR
 have aa:a.eval x=_:=ar a W s
 obtain⟨an,cells,aj,aO,AA⟩:=a5 a W s
 obtain⟨o,bg,cA⟩:=s.own _ (List.mem_of_getElem? al)
 obtain⟨cs,rfl,Hz,qu⟩:=Ay _ _ _ _ cA aO
 obtain⟨gS,eY,eL⟩:=fi.info
 have eu:=run_storeCells_at (P:=c.P) p off T cells 0 cs W bg (by omega) AA
 simp only [Nat.add_zero] at eu
 have ja:(execOp a.eval ⟨some a9,.call ⟨.builtin .copy,#[x,y],#[t,t2]⟩,ty,pos,af,none⟩).run c.P W= .ok (.value (goInt vs.length)) (W.setRow p (cs.toList.take off++cells++cs.toList.drop (off+cells.length)).toArray):=by
  simp [execOp,resolve,invoke,builtin,Builtin.copy_,aa,run_underlying hu,an,LV,Go.sizeOf,typeInfo,eY,eL,aj,eu]
 refine ik rfl (R:=fun v h4=>v=goInt vs.length∧h4=W.setRow p (cs.toList.take off++cells++cs.toList.drop (off+cells.length)).toArray) (.lv ja ⟨rfl,rfl⟩) fun v h4 ⟨a6,hw⟩=>?_
 subst a6
 subst hw
 exact k _ _ ((s.store al bg qu).put k4 (of_int.2 rfl))
theorem GB {i T cap lo N k:Nat}{key:Option Nat}{α:Type}[ak α]{xs:List α}(a5:ba c E L y (.eq (iO key lo N cap (ak.size α))))(al:L[i]? =some ⟨key,.row T xs cap⟩)(aw:0<k)(g1:lo+k≤xs.length):
 Src c E L y N ((xs.drop lo).take k):=fun a W s=>by
 obtain⟨p,cs,rfl,fe,ao,a3,bx,c0⟩:=s.rowAt al (by omega)
 have aa:a.eval y=_:=a5 a W s
 have mx:cap≠lo:=by omega
 have a6:a.eval y= .slice (some ⟨p,lo * ak.size α,none⟩) N (cap - lo):=by rw [aa];simp [iO,mx]
 have hlen:((xs.drop lo).take k).length=k:=by rw [List.length_take,List.length_drop];omega
 have ru:cs.toList.length=cap * ak.size α:=by simpa using ao
 have afo:(lo+k) * ak.size α≤xs.length * ak.size α:=Nat.mul_le_mul_right _ g1
 have Hy:xs.length * ak.size α≤cap * ak.size α:=Nat.mul_le_mul_right _ a3
 rw [Nat.add_mul] at afo
 have Ty:((cs.toList.drop (lo * ak.size α)).take (k * ak.size α)).length=k * ak.size α:=by rw [List.length_take,List.length_drop];omega
 have gO:hr (aU L++c.b7) W ((cs.toList.drop (lo * ak.size α)).take (k * ak.size α)) ((xs.drop lo).take k):=by
  refine⟨by rw [Ty,hlen],fun j aH=>?_⟩;rw [hlen] at aH;have a7:=c0.2 (lo+j) (by omega);have fc:=zM (s:=ak.size α) aH;have ahY:=zM (s:=ak.size α) (show lo+j<xs.length by omega);rw [List.drop_take,List.take_take,Nat.min_eq_left (by omega)] at a7;rw [List.drop_take,List.take_take,Nat.min_eq_left (by omega),List.drop_drop,← Nat.add_mul];simpa using a7
 have gh:=run_loadCells_list (P:=c.P) W ⟨p,lo * ak.size α,none⟩ ((cs.toList.drop (lo * ak.size α)).take (k * ak.size α)) fun j v a6=>by
  rw [ka,cell_of_row W p _ cs T (0,0) fe];rw [List.getElem?_take] at a6;split at a6
  ·rw [List.getElem?_drop] at a6;simpa using a6
  cases a6
 rw [Ty] at gh
 refine⟨by rw [a6];rfl,(cs.toList.drop (lo * ak.size α)).take (k * ak.size α),?_,gO,gO.one⟩
 rw [a6]
 simp only [Builtin.firstCells]
 rw [hlen]
 exact gh
theorem Ka {p lo n cap size:Nat}(h:cap≠lo):iO (some p) lo n cap size=Value.slice (some ⟨p,lo * size,none⟩) n (cap - lo):=by simp [iO,h]
theorem Qn {i T cap:Nat}{key:Option Nat}{α:Type}[ak α]{xs:List α}(a5:ba c E L y (.eq (aV key xs.length cap)))(al:L[i]? =some ⟨key,.row T xs cap⟩)(ar:0<xs.length):Src c E L y xs.length xs:=by
 have:=GB (lo:=0) (k:=xs.length) (N:=xs.length) (by rw [Cg];exact a5) al ar (by omega);simpa using this
theorem GQ {key:Option Nat}{n cap size:Nat}(h:ba c E L x (.eq (iO key 0 n cap size))):ba c E L x (.eq (aV key n cap)):=by rw [← Cg (size:=size)];exact h
theorem KD {p lo n cap size:Nat}(aj:cap≠lo)(h:ba c E L x (.eq (iO (some p) lo n cap size))):ba c E L x (.eq (.slice (some ⟨p,lo * size,none⟩) n (cap - lo))):=by rw [← Ka aj];exact h
def eg.D3 {α:Type}[ak α](T:TypeId)(xs:List α)(i m cap:Nat):eg where
 holds A W o:= ∃ cs,o= .cells cs T (0,0)∧cs.size=cap * ak.size α∧xs.length+m≤cap∧cap≤maxLen∧hr A W (cs.toList.take (i * ak.size α)) (xs.take i)∧
  hr A W ((cs.toList.drop ((i+m) * ak.size α)).take ((xs.length - i) * ak.size α)) (xs.drop i)
 nL:=False
 mono e h:=let⟨cs,aa,ae,aG,a0,a7,bn⟩:=h; ⟨cs,aa,ae,aG,a0,a7.mono e,bn.mono e⟩
theorem Z2 {α:Type}[ak α]{T i m cap:Nat}{xs:List α}(au:i≤xs.length)(hm:xs.length+m≤cap){A W o cells}(h:(eg.row T xs cap).holds A W o)(aj:hr A W cells (xs.drop i)):
 ∃ cs,o= .cells cs T (0,0)∧ (i+m) * ak.size α+cells.length≤cs.size∧ (eg.D3 T xs i m cap).holds A W (.cells (cs.toList.take ((i+m) * ak.size α)++cells++cs.toList.drop ((i+m) * ak.size α+cells.length)).toArray T (0,0)):=by
 obtain⟨cs,rfl,ao,a3,bx,c0⟩:=h
 have ru:cs.toList.length=cap * ak.size α:=by simpa using ao
 have mx:cells.length=(xs.length - i) * ak.size α:=by rw [aj.1,List.length_drop]
 have aq:(i+m) * ak.size α+(xs.length - i) * ak.size α=(xs.length+m) * ak.size α:=by rw [← Nat.add_mul];congr 1;omega
 have aX:(xs.length+m) * ak.size α≤cap * ak.size α:=Nat.mul_le_mul_right _ hm
 have dd:i * ak.size α≤ (i+m) * ak.size α:=Nat.mul_le_mul_right _ (by omega)
 have g2:i * ak.size α≤xs.length * ak.size α:=Nat.mul_le_mul_right _ au
 have jA:(cs.toList.take ((i+m) * ak.size α)).length=(i+m) * ak.size α:=by rw [List.length_take];omega
 refine⟨cs,rfl,by omega,_,rfl,?_,hm,bx,?_,?_⟩
 ·simp only [List.size_toArray,List.length_append,List.length_take,List.length_drop];omega
 ·rw [List.toList_toArray,List.append_assoc,List.take_append_of_le_length (by rw [jA];omega),List.take_take,Nat.min_eq_left dd]
  have:=JH au (⟨cs,rfl,ao,a3,bx,c0⟩:(eg.row T xs cap).holds A W (.cells cs T (0,0)))
  obtain⟨agi,aa,_,_,_,a7⟩:=this
  cases aa
  rwa [List.length_take,Nat.min_eq_left au] at a7
 rw [List.toList_toArray,List.append_assoc,List.drop_left' jA,← mx,List.take_left]
 exact aj
theorem Zb {α:Type}[ak α]{T i cap:Nat}{xs vs:List α}(au:i≤xs.length){A W o cells}(h:(eg.D3 T xs i vs.length cap).holds A W o)(aj:hr A W cells vs):
 ∃ cs,o= .cells cs T (0,0)∧i * ak.size α+cells.length≤cs.size∧ (eg.row T (xs.take i++vs++xs.drop i) cap).holds A W (.cells (cs.toList.take (i * ak.size α)++cells++cs.toList.drop (i * ak.size α+cells.length)).toArray T (0,0)):=by
 obtain⟨cs,rfl,ao,a3,bx,c0,hx⟩:=h
 have ru:cs.toList.length=cap * ak.size α:=by simpa using ao
 have mx:cells.length=vs.length * ak.size α:=aj.1
 have jC:i * ak.size α+vs.length * ak.size α=(i+vs.length) * ak.size α:=by rw [← Nat.add_mul]
 have aq:(i+vs.length) * ak.size α+(xs.length - i) * ak.size α=(xs.length+vs.length) * ak.size α:=by rw [← Nat.add_mul];congr 1;omega
 have aX:(xs.length+vs.length) * ak.size α≤cap * ak.size α:=Nat.mul_le_mul_right _ a3
 have hlen:(xs.take i++vs++xs.drop i).length=xs.length+vs.length:=by simp;omega
 refine⟨cs,rfl,by omega,_,rfl,?_,by rw [hlen];exact a3,bx,?_⟩
 ·simp only [List.size_toArray,List.length_append,List.length_take,List.length_drop];omega
 rw [List.toList_toArray,hlen]
 have kR:=uR (uR c0 aj) hx
 have jA:(cs.toList.take (i * ak.size α)++cells).length=(i+vs.length) * ak.size α:=by rw [List.length_append,List.length_take];omega
 have l9:(cs.toList.take (i * ak.size α)++cells++cs.toList.drop (i * ak.size α+cells.length)).take ((xs.length+vs.length) * ak.size α)=cs.toList.take (i * ak.size α)++cells++(cs.toList.drop ((i+vs.length) * ak.size α)).take ((xs.length - i) * ak.size α):=by
  rw [List.take_append,jA,List.take_of_length_le (by omega),mx,jC];congr 2;omega
 rw [l9]
 exact kR
theorem JL {α:Type}[ak α]{T lo cap:Nat}{xs vs:List α}(aw:lo+vs.length≤xs.length){A W o cells}(h:(eg.row T xs cap).holds A W o)(aj:hr A W cells vs):
 ∃ cs,o= .cells cs T (0,0)∧lo * ak.size α+cells.length≤cs.size∧ (eg.row T (xs.take lo++vs++xs.drop (lo+vs.length)) cap).holds A W (.cells (cs.toList.take (lo * ak.size α)++cells++cs.toList.drop (lo * ak.size α+cells.length)).toArray T (0,0)):=by
 obtain⟨cs,rfl,ao,a3,bx,c0⟩:=h
 have ru:cs.toList.length=cap * ak.size α:=by simpa using ao
 have mx:cells.length=vs.length * ak.size α:=aj.1
 have jC:lo * ak.size α+vs.length * ak.size α=(lo+vs.length) * ak.size α:=by rw [← Nat.add_mul]
 have aq:(lo+vs.length) * ak.size α≤xs.length * ak.size α:=Nat.mul_le_mul_right _ aw
 have aX:xs.length * ak.size α≤cap * ak.size α:=Nat.mul_le_mul_right _ a3
 have hlen:(xs.take lo++vs++xs.drop (lo+vs.length)).length=xs.length:=by simp;omega
 refine⟨cs,rfl,by omega,_,rfl,?_,by rw [hlen];exact a3,bx,?_⟩
 ·simp only [List.size_toArray,List.length_append,List.length_take,List.length_drop];omega
 rw [List.toList_toArray,hlen]
 have hx:=Pj (lo:=lo) c0 aj aw
 have e:(cs.toList.take (lo * ak.size α)++cells++cs.toList.drop (lo * ak.size α+cells.length)).take (xs.length * ak.size α)=(cs.toList.take (xs.length * ak.size α)).take (lo * ak.size α)++cells++(cs.toList.take (xs.length * ak.size α)).drop (lo * ak.size α+cells.length):=by
  have dd:(cs.toList.take (lo * ak.size α)++cells).length=lo * ak.size α+cells.length:=by rw [List.length_append,List.length_take];omega
  rw [List.take_append,dd,List.take_of_length_le (by omega),List.take_take,Nat.min_eq_left (by omega),List.drop_take]
 rw [e]
 exact hx
theorem aaU {p n cap e:Nat}(hu:c.P.underlying t=some (.slice e))(ar:ba c E L x (.eq (aV (some p) n cap))):b9 c E L ⟨d,.call ⟨.builtin .cap,#[x],#[t]⟩,ty,pos,af,g⟩ (.of (cap:Int)):= .pure fun a W s=>by
 have aa:a.eval x=_:=ar a W s;exact⟨.int .i64 cap,by simp [execOp,resolve,invoke,builtin,Builtin.cap_,aa,aV,run_underlying hu,goInt],of_int.2 rfl⟩
theorem s9 {p n cap:Nat}{α:Type}[ak α]{e:TypeId}{lo au:Option Operand}{m h:Nat}{ET EU:Int}(hu:c.P.underlying t=some (.slice e))(fi:bF c.P e α)(ar:ba c E L x (.eq (aV (some p) n cap)))
 (g1:wg c E L lo ET 0) (eX:wg c E L au EU n) (hm:ET=m) (aR:EU=h) (cA:m≤h∧h≤cap):
 b9 c E L ⟨d,.slice t x lo au none,ty,pos,af,g⟩ (.eq (iO (some p) m (h - m) cap (ak.size α))):= .pure fun a W s=>by
 subst hm;subst aR
 obtain⟨sC,l3⟩:=cA
 obtain⟨gS,eY,eL⟩:=fi.info
 have aa:a.eval x=_:=ar a W s
 refine⟨_,?_,rfl⟩
 simp only [iO]
 have al:∀ v,v=Value.int .i64 m→ (Instr.sliceBound v h .sliceB).run c.P W= .ok m W:=fun v a6=>qa sC a6
 have kD:∀ v,v=Value.int .i64 h→ (Instr.sliceBound v cap .sliceAcap).run c.P W= .ok h W:=fun v a6=>qa (by omega) a6
 generalize fc:(h:Int)=UE at eX
 generalize El:(m:Int)=UF at g1
 generalize Em:(n:Int)=UG at eX
 generalize TX:(0:Int)=UH at g1
 cases g1 with
 | none=>
   have ha:m=0:=by omega
   cases eX with
   | none=>
     have l3:h=n:=by omega
     subst l3
     subst ha
     simp [execOp,Instr.sliceAt,Instr.slice,Instr.sliceBounds,aa,aV,run_underlying hu,Go.sizeOf,typeInfo,eY,eL,ka]
   | some cA=>
     subst fc
     subst ha
     simp [execOp,Instr.sliceAt,Instr.slice,Instr.sliceBounds,aa,aV,run_underlying hu,Go.sizeOf,typeInfo,eY,eL,ka,kD _ (of_int.1 (cA a W s))]
 | some an=>
   subst El
   cases eX with
   | none=>
     have l3:h=n:=by omega
     subst l3
     simp [execOp,Instr.sliceAt,Instr.slice,Instr.sliceBounds,aa,aV,run_underlying hu,Go.sizeOf,typeInfo,eY,eL,ka,al _ (of_int.1 (an a W s))]
     split <;> rfl
   | some cA=>
     subst fc
     simp [execOp,Instr.sliceAt,Instr.slice,Instr.sliceBounds,aa,aV,run_underlying hu,Go.sizeOf,typeInfo,eY,eL,ka,al _ (of_int.1 (an a W s)),kD _ (of_int.1 (cA a W s))]
     split <;> rfl
theorem acI {f:FuncId}{fn:Func}{p q T U cap cap' i j e tR rO UL iU UM UN k3:Nat}{α:Type}[ak α]{xs vs:List α}(DS:Nat.beq (ak.size α) 0=false)
 (a2:c.P.funcs[f]? =some fn) (ac5:(fn.name== "runtime.NumGoroutine")=false) (hb:fn.body.isNone=true) (aR:Extern.findNext fn=none)
 (he:Extern.find fn=some (Extern.SlicesOverlaps.overlaps #[t,t] #[tR])) (hu:c.P.underlying t=some (.slice e)) (fi:bF c.P e α)
 (ar:ba c E L x (.eq (.slice (some ⟨q,UN,none⟩) rO UL))) (a5:ba c E L y (.eq (.slice (some ⟨p,k3,none⟩) iU UM)))
 (au:L[i]? =some ⟨some p,.row T xs cap⟩) (aH:L[j]? =some ⟨some q,.row U vs cap'⟩) (vP:p≠q) (vy:0<cap):
 b9 c E L ⟨d,.call ⟨.value (.func f),#[x,y],#[t,t]⟩,ty,pos,af,g⟩ (.of false):= .pure fun a W s=>by
 obtain⟨o,bg,cs,rfl,ao,a3,bx,c0⟩:=s.own _ (List.mem_of_getElem? au)
 obtain⟨o',rq,eA,rfl,aW,bI,cK,fF⟩:=s.own _ (List.mem_of_getElem? aH)
 obtain⟨gS,eY,eL⟩:=fi.info
 have aa:a.eval x=_:=ar a W s
 have ae:a.eval y=_:=a5 a W s
 have lE:ak.size α≠0:=fun h=>by rw [h] at DS;cases DS
 have db:cs.size≠0:=by rw [ao];exact Nat.mul_ne_zero (by omega) lE
 have agj:=Lib.run_overlaps_apart (P:=c.P) W t tR e hu (ak.size α) (fun w=>by simp [Go.sizeOf,typeInfo,eY,eL]) ⟨q,UN,none⟩ ⟨p,k3,none⟩ rO UL iU UM (fun h=>vP h.symm) U T eA.size cs.size
  (by simp [World.shape?,rq]) (by simp [World.shape?,bg]) db (by simp [World.frozen?,rq]) (by simp [World.frozen?,rq])
 refine⟨.bool false,?_,by exact of_bool.2 rfl⟩
 have bO:a.eval (.func f)= .func (.func f) #[] #[]:=rfl
 simp [execOp,resolve,Deferred.ofValue,bO,invoke,run_callFunc_extern a2 ac5 hb aR he,aa,ae,agj]
theorem ah.aeC {α:Type}[ak α]{rest:List Oper}{a9 i e bytes cap m k p T:Nat}{Is:IntKind}{xs:List α}{z:α}(hu:c.P.underlying t=some (.slice e))(kh:c.P.underlying t2=some (.int Is))(fi:bF c.P e α)(hz:cS c.P e z)(DS:Nat.beq (ak.size α) 0=false)
 (x7:(c.P.info? e).map (·.bytes)=some bytes) (ar:ba c E L x (.eq (iO (some p) 0 m cap (ak.size α)))) (a5:ba c E L y (.of (k:Int))) (al:L[i]? =some ⟨some p,.row T xs cap⟩) (hm:m≤xs.length) (aw:0<k) (bD:cap<m+k)
 (nt:(m+k) * bytes≤140737488355328) (nu:m+k≤maxLen) (aR:Nat.blt a9 c.n=true)
 (n5:∀ q cap',ah c ops Q rest ((a9,.eq (aV (some q) (m+k) cap'))::E) (⟨some q,.row e (xs.take m++List.replicate k z) cap'⟩::L)):
 ah c ops Q (⟨some a9,.call ⟨.builtin .append,#[x,y],#[t,t2]⟩,ty,pos,af,none⟩::rest) E L:=fun a W s=>by
 obtain⟨gS,eP,eY,dI,sI⟩:=hz.zero
 have oo:gS.size=ak.size α:=by
  obtain⟨i2,aa,ae⟩:=fi.info;rw [eY] at aa;cases aa;exact ae
 have KI:gS.bytes=bytes:=by simpa [eY] using x7
 subst KI
 have x8:eP.cells.size=ak.size α:=by have:=ak.len (sI [] W).2;simpa using this
 have lE:ak.size α≠0:=fun h=>by rw [h] at DS;cases DS
 have k4:a9<c.n:=by simpa using aR
 have aa:a.eval x= .slice (some ⟨p,0,none⟩) m cap:=by
  have:=ar a W s;rw [Cg] at this;exact this
 obtain⟨o,bg,cs,rfl,ao,a3,bx,c0⟩:=s.own _ (List.mem_of_getElem? al)
 have rp:maxLen=9223372036854775807:=rfl
 have ae:a.eval y= .int .i64 k:=of_int.1 (a5 a W s)
 have afp:=JH hm (⟨cs,rfl,ao,a3,bx,c0⟩:(eg.row T xs cap).holds (aU L++c.b7) W (.cells cs T (0,0)))
 obtain⟨agi,aq,_,_,_,MB⟩:=afp
 cases aq
 have LY:(xs.take m).length=m:=by rw [List.length_take];omega
 rw [LY] at MB
 have tz:∀ (j:Nat) u,(cs.toList.take (m * ak.size α))[j]? =some u→W.drew.cell? ((⟨p,0,none⟩:Addr).add j)=some u:=by
  intro j u ny;rw [List.getElem?_take] at ny;split at ny
  ·rw [ka,Nat.zero_add,cell_of_row W.drew p j cs T (0,0) bg];simpa using ny
  cases ny
 have hold:=run_loadCells_list (P:=c.P) W.drew ⟨p,0,none⟩ _ tz
 rw [MB.1,LY] at hold
 have aO:=Lib.run_append_grow_zeros (P:=c.P) W t t2 ty e gS eP .i64 Is hu kh eY dI (some ⟨p,0,none⟩) m cap _ (by simp only [Builtin.firstCells];rw [oo];exact hold) k aw (by omega) bD (by omega)
  (by have:k * gS.bytes≤ (m+k) * gS.bytes:=Nat.mul_le_mul_right _ (by omega)
      omega) (growslice_fits bD nt)
 have rv:=grownCap_ge W (m+k) cap e
 have hle:=grownCap_le_maxLen W (m+k) cap e nu
 have HX:=sI (aU L++c.b7) W
 have ry:=Ci HX k lE
 have My:Builtin.zeroCells eP.cells k=(Array.range (k * ak.size α)).map (eP.cells[· % eP.cells.size]!):=by rw [Builtin.zeroCells,x8]
 rw [← My] at ry
 have Ah:=(uR MB ry).mono (Ext.ej (Fr.drew W))
 have hlen:(xs.take m++List.replicate k z).length=m+k:=by rw [List.length_append,LY,List.length_replicate]
 have eu:=(s.world (Fr.drew W)).alloc (o:= .cells ((cs.toList.take (m * ak.size α)).toArray++Builtin.zeroCells eP.cells k++Builtin.zeroCells eP.cells (grownCap W (m+k) cap e - (m+k))) e)
  (cp:= .row e (xs.take m++List.replicate k z) (grownCap W (m+k) cap e))
  (Ke (T:=e) Ah (ds:=(Builtin.zeroCells eP.cells (grownCap W (m+k) cap e - (m+k))).toList) (by rw [Array.length_toList,size_zeroCells,x8,hlen]) (by rw [hlen];exact rv) hle (by simp))
 refine ik rfl (R:=fun v h4=>v=aV (some W.heap.size) (m+k) (grownCap W (m+k) cap e)∧h4=W.drew.alloc (.cells ((cs.toList.take (m * ak.size α)).toArray++Builtin.zeroCells eP.cells k++Builtin.zeroCells eP.cells (grownCap W (m+k) cap e - (m+k))) e)) (.lv ?_ ⟨rfl,rfl⟩) fun v h4 ⟨a6,hw⟩=>?_
 ·simp only [execOp,resolve,invoke,builtin,Sem.run_bind,Sem.run_pure,Result.andThen_ok]
  have aq:(#[x,y]:Array Operand).map a.eval= #[a.eval x,a.eval y]:=by simp
  rw [aq,aa,ae,aO]
  rfl
 subst a6
 subst hw
 exact n5 _ _ _ _ (eu.put k4 rfl)
def I.wa (τ:I):I where
 holds A W v:= ∃ b cur T hL u,v= .pointer (some ⟨b,0,none⟩)∧b ∉ A∧W.heap[b]? =some (.cells cur T hL)∧cur[0]? =some u∧u.oneCell'=true∧τ.holds A W u
 mono e h:=by
  obtain⟨b,cur,T,hL,u,rfl,hb,cA,hs,aa,aO⟩:=h;have cf:b<_:=(Array.getElem?_eq_some_iff.1 cA).1;exact⟨b,cur,T,hL,u,rfl,fun hm=>hb (e.new b hm cf),by rw [e.block b cf hb];exact cA,hs,aa,τ.mono e aO⟩
theorem ah.ad2 {rest:List Oper}{a9:Nat}{τ:I}(ar:ba c E L x τ)(aa:∀ A W v,τ.holds A W v→v.oneCell'=true)(aR:Nat.blt a9 c.n=true)
 (k:ah c ops Q rest ((a9,.wa τ)::E) L):ah c ops Q (⟨some a9,.box t x,ty,pos,af,none⟩::rest) E L:=fun a W s=>by
 have a6:=ar a W s
 have bg:=aa _ _ _ a6
 refine ik rfl (R:=fun v W'=>v= .pointer (some ⟨W.heap.size,0,none⟩)∧W'=W.alloc (.cells (a.eval x).cells t)) (.lv ?_ ⟨rfl,rfl⟩) fun v W' ⟨n1,hw⟩=>?_
 ·simp [execOp,Instr.box,newVar,newRow]
 subst n1
 subst hw
 have s1:=((s.alloc (o:= .cells (a.eval x).cells t) (cp:= .dead) trivial).kill 0).pD 1
 refine k _ _ (bL.put s1 (by simpa using aR) ?_)
 refine⟨W.heap.size,(a.eval x).cells,t,(0,0),a.eval x,rfl,fun hm=>?_,KF W _,by rw [px bg];rfl,bg,τ.mono (A:=aU L++c.b7) (W:=W) ⟨by simp,fun k aw _=>CM W _ k aw,fun k h _=>h⟩ a6⟩
 rcases List.mem_append.1 hm with hm | hm
 ·exact Nat.lt_irrefl _ (s.lt _ hm)
 exact Nat.lt_irrefl _ (s.fb _ hm).1
theorem Qm {τ:I}{D:TypeDesc}(hu:c.P.underlying t=some D)(hd:(match (motive:=TypeDesc→Bool) D with | .struct _ | .array _ _=>true | _=>false)=false)(ar:ba c E L x (.wa τ)):b9 c E L ⟨d,.load t x,ty,pos,af,g⟩ τ:= .pure fun a W s=>by
 obtain⟨b,cur,T,hL,u,aa,hb,cA,hs,ae,aO⟩:=ar a W s;have agk:(isAgg t).run c.P W= .ok false W:=by
  unfold Go.isAgg;rw [Sem.run_bind,run_underlying hu W];simp only [Result.andThen_ok];cases D <;> simp_all
 have tz:W.cell? ⟨b,0,none⟩=some u:=by rw [cell_of_row W b 0 cur T hL cA];exact hs
 refine⟨u,?_,aO⟩;simp [execOp,Instr.loadAt,Instr.sureAddr,aa,loadVar,Sem.run_bind,agk,tz]
theorem ag.some {code:Code}{i T cap:Nat}{key:Option Nat}{α:Type}[ak α]{xs:List α}(al:L[i]? =Option.some ⟨key,.row T xs cap⟩)(ar:0<xs.length)(k:∀ p,key=Option.some p→xs.length≤cap→cap≤maxLen→ag c Q code E L):ag c Q code E L:=fun a W s=>by
 obtain⟨p,cs,rfl,fe,ao,a3,bx,c0⟩:=s.rowAt al ar;exact k p rfl a3 bx a W s
theorem ag.apart {code:Code}{p q:Nat}{cp cp':eg}{L':List aQ}(al:L=⟨Option.some p,cp⟩::⟨Option.some q,cp'⟩::L')(k:p≠q→ag c Q code E L):ag c Q code E L:=fun a W s=>by
 refine k (fun e=>?_) a W s;have:=s.nodup;rw [al,e] at this;simp [aU] at this
theorem Kh {s:Nat}{τ:I} :look ((s,τ)::E) s=some τ:=by
 show(bif Nat.beq s s then some τ else look E s)=some τ;rw [Nat.beq_refl];rfl
theorem Qw {s u:Nat}{τ:I}(h:Nat.beq s u=false):look ((s,τ)::E) u=look E u:=by
 show(bif Nat.beq s u then some τ else look E u)=look E u;rw [h];rfl
def I.both (τ σ:I):I where
 holds A W v:=τ.holds A W v∧σ.holds A W v
 mono e h:=⟨τ.mono e h.1,σ.mono e h.2⟩
theorem ah.aa7 {rest:List Oper}{s yv i j p o T cap:Nat}{key:Option Nat}{β α:Type}[ak β][ak α]{b b':β}{xs:List α}(l:aL β (List α))(eN:bF c.P t (List α))
 (ar:look E yv=some (.eq (.pointer (some ⟨p,o,none⟩)))) (hs:Nat.beq s yv=false) (a5:look E s=some (.eq (aV key xs.length cap)))
 (au:L[i]? =some ⟨some p,.var b⟩) (aH:L[j]? =some ⟨key,.row T xs cap⟩) (gd:Nat.beq j i=false) (bg:o=l.off) (hb:l.set b xs=b')
 (k:ah c ops Q rest E ((L.set j ⟨none,.dead⟩).set i ⟨some p,.var b'⟩)):ah c ops Q (⟨none,.store t (.tmp yv) (.tmp s),ty,pos,af,none⟩::rest) E L:=fun a W st=>by
 have aA:∀ t τ,look ((s,I.both (.eq (aV key xs.length cap)) (.of xs))::E) t=some τ→ (s=t∧τ=I.both (.eq (aV key xs.length cap)) (.of xs))∨look E t=some τ:=fun t τ h=>by
  simp only [look] at h;by_cases e:Nat.beq s t=true
  ·rw [e] at h;simp only [cond_true,Option.some.injEq] at h;exact .inl ⟨eQ.1 e,h.symm⟩
  simp only [Bool.not_eq_true] at e;rw [e] at h;exact .inr h
 have aw:=st.kill j
 have a2:=st.freeze a5 aH
 have afq:∀ t τ,look ((s,I.both (.eq (aV key xs.length cap)) (.of xs))::E) t=some τ→ ∃ v,a.tmps[t]? =some v∧τ.holds (aU (L.set j ⟨none,.dead⟩)++c.b7) W v:=fun t τ h=>by
  rcases aA t τ h with⟨rfl,rfl⟩ | h
  ·obtain⟨v,aa,ae⟩:=a2.env s (.of xs) Kh;obtain⟨wi,aG,a0⟩:=aw.env s _ a5;rw [aa] at aG;simp only [Option.some.injEq] at aG;subst aG;exact⟨v,aa,a0,ae⟩
  exact aw.env t τ h
 have ac6:bL c ((s,I.both (.eq (aV key xs.length cap)) (.of xs))::E) (L.set j ⟨none,.dead⟩) a W:= { aw with env:=afq }
 have db:j≠i:=fun e=>by rw [eQ.2 e] at gd;cases gd
 refine(ah.store (c:=c) (E:=(s,I.both (.eq (aV key xs.length cap)) (.of xs))::E) (L:=L.set j ⟨none,.dead⟩) (i:=i) (p:=p) (b:=b) (b':=b') (v:=xs) l eN
  (ab ((Qw hs).trans ar)) (fun a W h=>?_) (by rw [List.getElem?_set_ne db];exact au) bg hb (fun a W h=>k a W (h.less fun t τ bM=>?_))) a W ac6
 ·obtain⟨v,aa,ae⟩:=h.env s _ Kh
  have e:a.eval (.tmp s)=v:=by simp [Act.eval,aa]
  rw [e];exact ae.2
 by_cases e:Nat.beq s t=true
 ·have:=eQ.1 e
  subst this
  rw [a5] at bM
  simp only [Option.some.injEq] at bM
  subst bM
  exact⟨_,Kh,fun A W v h=>h.1⟩
 simp only [Bool.not_eq_true] at e
 exact⟨τ,(Qw e).trans bM,fun _ _ _ h=>h⟩
theorem ah.Z1 {rest:List Oper}{s yv i j p o T cap:Nat}{key:Option Nat}{β α:Type}[ak β][ak α]{b b':β}{xs:List α}(l:aL β (List α))(eN:bF c.P t (List α))
 (ar:look E yv=some (.eq (.pointer (some ⟨p,o,none⟩)))) (hs:Nat.beq s yv=false) (a5:look E s=some (.eq (aV key xs.length cap)))
 (au:L[i]? =some ⟨some p,.var b⟩) (aH:L[j]? =some ⟨key,.row T xs cap⟩) (gd:Nat.beq j i=false) (bg:o=l.off) (hb:l.set b xs=b')
 (k:ah c ops Q rest E ((L.set i ⟨some p,.var b'⟩).set j ⟨none,.dead⟩)):ah c ops Q (⟨none,.store t (.tmp yv) (.tmp s),ty,pos,af,none⟩::rest) E L:=
 ah.aa7 l eN ar hs a5 au aH gd bg hb (by rw [List.set_comm _ _ (fun e=>by rw [eQ.2 e] at gd;cases gd)];exact k)
theorem PK {α γ:Type}[ak α][ak γ]{A W}{cs:List Value}{x:α}{os:List (Nat×Value)}{u:Value}(l:aL α (List γ))(h:mm A W cs x os)(hq:(l.off,u)∈os):mm A W cs (l.set x []) os:=by
 refine⟨?_,h.2⟩;have aa:=l.mf (ds:= [ld]) (g:=([]:List γ)) h.1 (show ak.rep A W [ld] ([]:List γ) from by
  have:=(oc (A:=A) (W:=W) (v:=ld) (xs:=([]:List γ))).2 (.inl ⟨rfl,rfl⟩);exact this.2)
 have hb:(blank os cs)[l.off]? =some ld:=by
  rw [r2,if_pos (List.any_eq_true.2 ⟨_,hq,by simp⟩),(h.2 _ hq).1];rfl
 have cf:l.off<(blank os cs).length:=(List.getElem?_eq_some_iff.1 hb).1;have he:(blank os cs).take l.off++[ld]++(blank os cs).drop (l.off+ak.size (List γ))=blank os cs:=by
  show(blank os cs).take l.off++[ld]++(blank os cs).drop (l.off+1)=blank os cs;have ae:(blank os cs)[l.off]=ld:=(List.getElem?_eq_some_iff.1 hb).2;rw [← ae,List.append_assoc,List.singleton_append,List.getElem_cons_drop,List.take_append_drop]
 rwa [he] at aa
theorem ah.Me {EV:List Oper}{p:Nat}{β γ:Type}[ak β][ak γ]{b b':β}{os:List (Nat×Value)}{u:Value}(l:aL β (List γ))(i q:Nat)(al:L[i]? =some ⟨some p,.cm b os⟩)(hq:os[q]? =some (l.off,u))(hb:l.set b []=b')
 (k:ah c ops Q EV E (L.set i ⟨some p,.cm b' os⟩)):ah c ops Q EV E L:=fun a W s=>
 k a W (s.again al (fun A W o ⟨cs,T,aa,ae⟩=>⟨cs,T,aa,hb ▸ PK l ae (List.mem_of_getElem? hq)⟩) id)
theorem ad.Me {z:Exit}{p:Nat}{β γ:Type}[ak β][ak γ]{b b':β}{os:List (Nat×Value)}{u:Value}(l:aL β (List γ))(i q:Nat)(al:L[i]? =some ⟨some p,.cm b os⟩)(hq:os[q]? =some (l.off,u))(hb:l.set b []=b')
 (k:ad c Q z E (L.set i ⟨some p,.cm b' os⟩)):ad c Q z E L:=fun a W s=>
 k a W (s.again al (fun A W o ⟨cs,T,aa,ae⟩=>⟨cs,T,aa,hb ▸ PK l ae (List.mem_of_getElem? hq)⟩) id)
end
def DL {α:Type}(bytes:Nat)(xs:List α)(i:Int)(vs:List α):Option (List α):=
 if 0≤i∧i≤xs.length∧0<vs.length∧ (xs.length+vs.length) * bytes≤140737488355328∧xs.length+vs.length≤maxLen then some (xs.take i.toNat++vs++xs.drop i.toNat) else none
theorem Ye {α:Type}{bytes:Nat}{xs vs r:List α}{i:Int}(h:DL bytes xs i vs=some r):
 ∃ k:Nat,i=k∧k≤xs.length∧0<vs.length∧ (xs.length+vs.length) * bytes≤140737488355328∧xs.length+vs.length≤maxLen∧r=xs.take k++vs++xs.drop k:=by
 unfold DL at h
 split at h
 ·rename_i aj
  obtain⟨aa,ae,aG,a0,a7⟩:=aj
  exact⟨i.toNat,by omega,by omega,aG,a0,a7,(by simp only [Option.some.injEq] at h;exact h.symm)⟩
 cases h
section
variable {c:dB} {E:List (Nat×I)} {L:List aQ} {ops:Array Oper} {Q:Exit→Act→World→Prop} {rest:List Oper} {o:Oper} {a9:Nat}
variable {ty:TypeId} {pos:String} {af:Array Edge} {x y:Operand} {t t2:TypeId}
theorem aC {id:Nat}{l:List Oper}{y:Code}(h:ah c l.toArray (Exit.then (c.wp y Q) Q) l E L):ag c Q (.seq (.region id l.toArray false) y) E L:= .seq (.cd h)
theorem aI {y:Code}(h:ag c Q y E L):ah c ops (Exit.then (c.wp y Q) Q) [] E L:= .nil (.next h)
theorem bz {y z:Code}(h:ag c (Exit.then (c.wp z Q) Q) y E L):ah c ops (Exit.then (c.wp (Code.seq y z) Q) Q) [] E L:= .nil (.next (.seq h))
theorem bT {id:Nat}{l:List Oper}{z:Code}(h:ah c l.toArray (Exit.then (c.wp z Q) Q) l E L):ah c ops (Exit.then (c.wp (Code.seq (.region id l.toArray false) z) Q) Q) [] E L:= .nil (.next (.seq (.cd h)))
theorem cC {y:Code}(h:ag c Q y E L):ag c (Exit.then (c.wp y Q) Q) .skip E L:= .skip (.next h)
theorem ay {α β:Type}{m:Option α}{f:α→Option β}{r:β}{P:Prop}(h:m.bind f=some r)(k:∀ y,m=some y→f y=some r→P):P:=(bind_some h).elim fun y h=>k y h.1 h.2
theorem b3 {R:Type}{b:Bool}{A B:Option R}{r:R}{y z:Code}(h:cond b A B=some r)(bM:A=some r→ag c Q y E L)(a2:B=some r→ag c Q z E L)
 (an:ba c E L x (.of b):=by first | exact ab rfl | exact gI _):ag c Q (.cond x y z) E L:=
 .cond an (fun hb=>bM (gV hb h)) (fun hb=>a2 (gW hb h))
theorem bf {τ:I}(h:b9 c E L o τ)(k:ah c ops Q rest ((a9,τ)::E) L)(bD:o.guard=none:=by rfl)(hd:o.dst=some a9:=by rfl)(aR:Nat.blt a9 c.n=true:=by rfl):ah c ops Q (o::rest) E L:= .v h bD hd aR k
theorem aD {τ:I}(k:ah c ops Q rest ((a9,τ)::E) L)(ar:ba c E L x τ:=by first | exact ab rfl | exact bN _ | exact gI _ | exact eo _)(aR:Nat.blt a9 c.n=true:=by rfl):
 ah c ops Q (⟨some a9,.move x,ty,pos,af,none⟩::rest) E L:= .v (cy ar) rfl rfl aR k
theorem aJ {τ:I}(k:ah c ops Q rest ((a9,τ)::E) L)(ar:ba c E L x τ:=by first | exact ab rfl | exact bN _ | exact gI _ | exact eo _)(aR:Nat.blt a9 c.n=true:=by rfl):
 ah c ops Q (⟨some a9,.assign x,ty,pos,af,none⟩::rest) E L:= .v (ey ar) rfl rfl aR k
theorem aP {σ τ:I}(h:ba c E L x σ→b9 c E L o τ)(k:ah c ops Q rest ((a9,τ)::E) L)(ar:ba c E L x σ:=by first | exact ab rfl | exact bN _ | exact gI _ | exact eo _)
 (bD:o.guard=none:=by rfl) (hd:o.dst=some a9:=by rfl) (aR:Nat.blt a9 c.n=true:=by rfl):ah c ops Q (o::rest) E L:= .v (h ar) bD hd aR k
theorem bc {σ rC τ:I}(h:ba c E L x σ→ba c E L y rC→b9 c E L o τ)(k:ah c ops Q rest ((a9,τ)::E) L)(ar:ba c E L x σ:=by first | exact ab rfl | exact bN _ | exact gI _ | exact eo _)
 (a5:ba c E L y rC:=by first | exact ab rfl | exact bN _ | exact gI _ | exact eo _)
 (bD:o.guard=none:=by rfl) (hd:o.dst=some a9:=by rfl) (aR:Nat.blt a9 c.n=true:=by rfl):ah c ops Q (o::rest) E L:= .v (h ar a5) bD hd aR k
theorem dU {α:Type}[ak α]{a b:α}(e:some a=some b)(h:b9 c E L o (.of a))(k:ah c ops Q rest ((a9,.of b)::E) L)(bD:o.guard=none:=by rfl)(hd:o.dst=some a9:=by rfl)(aR:Nat.blt a9 c.n=true:=by rfl):
 ah c ops Q (o::rest) E L:= .v (h.as (dC e)) bD hd aR k
theorem fv {i:Nat}{τs:List I}{τ:I}(k:ah c ops Q rest ((a9,τ)::E) L)(ar:ba c E L x (.dZ τs):=by exact ab rfl)(au:τs[i]? =some τ:=by rfl)(aR:Nat.blt a9 c.n=true:=by rfl):
 ah c ops Q (⟨some a9,.extract x i,ty,pos,af,none⟩::rest) E L:= .v (kN ar au) rfl rfl aR k
theorem bQ {p o:Nat}{β γ:Type}[ak β][ak γ]{b:β}(j:Nat)(l:aL β γ)(eN:bF c.P t γ)(k:ah c ops Q rest ((a9,.of (l.get b))::E) L)(ar:ba c E L x (.eq (.pointer (some ⟨p,o,none⟩))):=by exact ab rfl)
 (al:L[j]? =some ⟨some p,.var b⟩:=by rfl) (bg:o=l.off:=by rfl) (aR:Nat.blt a9 c.n=true:=by rfl):ah c ops Q (⟨some a9,.load t x,ty,pos,af,none⟩::rest) E L:= .v (dJ l eN ar al bg rfl) rfl rfl aR k
theorem cv {p:Nat}{β:Type}[ak β]{b:β}(j:Nat)(eN:bF c.P t β)(k:ah c ops Q rest ((a9,.of b)::E) L)(ar:ba c E L x (.eq (.pointer (some ⟨p,0,none⟩))):=by exact ab rfl)
 (al:L[j]? =some ⟨some p,.var b⟩:=by rfl) (aR:Nat.blt a9 c.n=true:=by rfl):ah c ops Q (⟨some a9,.load t x,ty,pos,af,none⟩::rest) E L:= .v (dJ (aL.id β) eN ar al rfl rfl) rfl rfl aR k
theorem TL {p o:Nat}{β γ:Type}[ak β][ak γ]{b:β}{os:List (Nat×Value)}(j:Nat)(l:aL β γ)(eN:bF c.P t γ)(k:ah c ops Q rest ((a9,.of (l.get b))::E) L)(ar:ba c E L x (.eq (.pointer (some ⟨p,o,none⟩))):=by exact ab rfl)
 (al:L[j]? =some ⟨some p,.cm b os⟩:=by rfl) (bg:o=l.off:=by rfl) (bb:vd os l.off (ak.size γ)=true:=by rfl) (aR:Nat.blt a9 c.n=true:=by rfl):ah c ops Q (⟨some a9,.load t x,ty,pos,af,none⟩::rest) E L:= .v (Gz l eN ar al bg rfl bb) rfl rfl aR k
theorem Ar {s f o:Nat}{β γ:Type}[ak β][ak γ]{b:β}(l:aL β γ)(fd:cw c.P s f o)(k:ah c ops Q rest ((a9,.ptr (l.get b))::E) L)(ar:ba c E L x (.ptr b):=by exact ab rfl)(bg:l.off=o:=by rfl)(aR:Nat.blt a9 c.n=true:=by rfl):
 ah c ops Q (⟨some a9,.fieldAddr s x f,ty,pos,af,none⟩::rest) E L:= .v (vm l fd ar bg rfl) rfl rfl aR k
theorem gu {α:Type}[ak α][Inhabited α]{xs:List α}{e:TypeId}{i:Int}{j:Nat}(aw:idx xs.length i=some j)(hu:c.P.underlying t=some (.slice e))(fi:bF c.P e α)(k:ah c ops Q rest ((a9,.ptr (aF xs j))::E) L)
 (ar:ba c E L x (.of xs):=by exact ab rfl) (a5:ba c E L y (.of i):=by first | exact ab rfl | exact bN _) (aR:Nat.blt a9 c.n=true:=by rfl):
 ah c ops Q (⟨some a9,.indexAddr t x y,ty,pos,af,none⟩::rest) E L:= .v (o1 hu fi ar a5 (cL aw)) rfl rfl aR k
theorem vN {b e:Bool}{p:Prop}(k:ah c ops Q rest ((a9,.of (b||e))::E) L)(ar:ba c E L x (.of b):=by exact ab rfl)(a5:ba c E L y (.cond p (.of e)):=by exact ab rfl)(hp:b=false→p:=by exact fun h=>h)(aR:Nat.blt a9 c.n=true:=by rfl):
 ah c ops Q (⟨some a9,.pick x (.const (.bool true)) y,ty,pos,af,none⟩::rest) E L:= .v (tG ar a5 hp) rfl rfl aR k
theorem iQ {b e:Bool}{p:Prop}(k:ah c ops Q rest ((a9,.of (b&&e))::E) L)(ar:ba c E L x (.of b):=by exact ab rfl)(a5:ba c E L y (.cond p (.of e)):=by exact ab rfl)(hp:b=true→p:=by exact fun h=>h)(aR:Nat.blt a9 c.n=true:=by rfl):
 ah c ops Q (⟨some a9,.pick x y (.const (.bool false)),ty,pos,af,none⟩::rest) E L:= .v (nh ar a5 hp) rfl rfl aR k
theorem ev {τ:I}{j g:Nat}{b want:Bool}(h:b=want→b9 c E L o τ)(k:ah c ops Q rest ((a9,.cond (b=want) τ)::E) L)(bD:o.guard=some (j,want):=by rfl)(aH:(ops[j]?).bind (·.dst)=some g:=by rfl)(an:look E g=some (.of b):=by rfl)
 (hd:o.dst=some a9:=by rfl) (aR:Nat.blt a9 c.n=true:=by rfl):ah c ops Q (o::rest) E L:= .g h bD aH an hd aR k
theorem dc {σ τ:I}{j g:Nat}{b want:Bool}(h:ba c E L x σ→b9 c E L o τ)(k:ah c ops Q rest ((a9,.cond (b=want) τ)::E) L)
 (ar:b=want→ba c E L x σ:=by first | exact fun hb=>bR rfl hb | exact fun _=>ab rfl | exact fun _=>bN _ | exact fun _=>gI _)
 (bD:o.guard=some (j,want):=by rfl) (aH:(ops[j]?).bind (·.dst)=some g:=by rfl) (an:look E g=some (.of b):=by rfl)
 (hd:o.dst=some a9:=by rfl) (aR:Nat.blt a9 c.n=true:=by rfl):ah c ops Q (o::rest) E L:= .g (fun hb=>h (ar hb)) bD aH an hd aR k
theorem jb {σ rC τ:I}{j g:Nat}{b want:Bool}(h:ba c E L x σ→ba c E L y rC→b9 c E L o τ)(k:ah c ops Q rest ((a9,.cond (b=want) τ)::E) L)
 (ar:b=want→ba c E L x σ:=by first | exact fun hb=>bR rfl hb | exact fun _=>ab rfl | exact fun _=>bN _ | exact fun _=>gI _)
 (a5:b=want→ba c E L y rC:=by first | exact fun hb=>bR rfl hb | exact fun _=>ab rfl | exact fun _=>bN _ | exact fun _=>gI _)
 (bD:o.guard=some (j,want):=by rfl) (aH:(ops[j]?).bind (·.dst)=some g:=by rfl) (an:look E g=some (.of b):=by rfl)
 (hd:o.dst=some a9:=by rfl) (aR:Nat.blt a9 c.n=true:=by rfl):ah c ops Q (o::rest) E L:= .g (fun hb=>h (ar hb) (a5 hb)) bD aH an hd aR k
theorem cI {α:Type}[ak α]{z:α}(hz:cS c.P t z)(k:∀ p,ah c ops Q rest ((a9,.eq (.pointer (some ⟨p,0,none⟩)))::E) (⟨some p,.var z⟩::L))(aR:Nat.blt a9 c.n=true:=by rfl):
 ah c ops Q (⟨some a9,.alloc t,ty,pos,af,none⟩::rest) E L:= .alloc hz aR k
theorem b1 {α:Type}[ak α]{z:α}(k:∀ p,ah c ops Q rest ((a9,.eq (.pointer (some ⟨p,0,none⟩)))::E) (⟨some p,.var z⟩::L))(ar:ba c E L x (.of z):=by first | exact ab rfl | exact bN _ | exact gI _)(aR:Nat.blt a9 c.n=true:=by rfl):
 ah c ops Q (⟨some a9,.box t x,ty,pos,af,none⟩::rest) E L:= .box ar aR k
theorem qx {p o:Nat}{β γ:Type}[ak β][ak γ]{b:β}{v:γ}(i:Nat)(l:aL β γ)(eN:bF c.P t γ)(k:ah c ops Q rest E (L.set i ⟨some p,.var (l.set b v)⟩))(ar:ba c E L x (.eq (.pointer (some ⟨p,o,none⟩))):=by exact ab rfl)
 (a5:ba c E L y (.of v):=by first | exact ab rfl | exact bN _ | exact gI _ | exact look_nil | exact eo _) (al:L[i]? =some ⟨some p,.var b⟩:=by rfl) (bg:o=l.off:=by rfl):
 ah c ops Q (⟨none,.store t x y,ty,pos,af,none⟩::rest) E L:= .store l eN ar a5 al bg rfl k
theorem cc {p:Nat}{β:Type}[ak β]{b v:β}(i:Nat)(eN:bF c.P t β)(k:ah c ops Q rest E (L.set i ⟨some p,.var v⟩))(ar:ba c E L x (.eq (.pointer (some ⟨p,0,none⟩))):=by exact ab rfl)
 (a5:ba c E L y (.of v):=by first | exact ab rfl | exact bN _ | exact gI _ | exact look_nil | exact eo _) (al:L[i]? =some ⟨some p,.var b⟩:=by rfl):
 ah c ops Q (⟨none,.store t x y,ty,pos,af,none⟩::rest) E L:= .store (aL.id β) eN ar a5 al rfl rfl k
theorem Ap {p o:Nat}{β γ:Type}[ak β][ak γ]{b b':β}{v:γ}(i:Nat)(l:aL β γ)(eN:bF c.P t γ)(k:ah c ops Q rest E (L.set i ⟨some p,.var b'⟩))(ar:ba c E L x (.eq (.pointer (some ⟨p,o,none⟩))):=by exact ab rfl)
 (a5:ba c E L y (.of v):=by first | exact ab rfl | exact bN _ | exact gI _ | exact look_nil | exact eo _) (al:L[i]? =some ⟨some p,.var b⟩:=by rfl) (bg:o=l.off:=by rfl) (hb:some (l.set b v)=some b'):
 ah c ops Q (⟨none,.store t x y,ty,pos,af,none⟩::rest) E L:= .store l eN ar a5 al bg (dC hb) k
theorem eW {f:FuncId}{xs:List Operand}{ats:Array TypeId}{τs:List I}{ρ:I}(e5:bA c.P f)(h:bK c.P f τs ρ)(k:ah c ops Q rest ((a9,ρ)::E) L)
 (ar:iM c E L xs τs:=by repeat (first | exact trivial | refine⟨ab rfl,?_⟩ | refine⟨bN _,?_⟩ | refine⟨gI _,?_⟩ | refine⟨look_nil,?_⟩ | refine⟨eo _,?_⟩)) (aR:Nat.blt a9 c.n=true:=by rfl):
 ah c ops Q (⟨some a9,.call ⟨.value (.func f),xs.toArray,ats⟩,ty,pos,af,none⟩::rest) E L:= .v (iZ e5 h ar) rfl rfl aR k
theorem fw {f:FuncId}{xs:List Operand}{ats:Array TypeId}{τs:List I}{δ:Type}{ρ:δ→I}{Lo:δ→List aQ}(n:Nat)(e5:bA c.P f)(h:bC c.P f τs (L.take n) ρ Lo)
 (k:∀ q,ah c ops Q rest ((a9,ρ q)::E) (Lo q++L.drop n)) (ar:iM c E L xs τs:=by repeat (first | exact trivial | refine⟨ab rfl,?_⟩ | refine⟨bN _,?_⟩ | refine⟨gI _,?_⟩ | refine⟨look_nil,?_⟩ | refine⟨s8,?_⟩ | refine⟨eo _,?_⟩)) (aR:Nat.blt a9 c.n=true:=by rfl):
 ah c ops Q (⟨some a9,.call ⟨.value (.func f),xs.toArray,ats⟩,ty,pos,af,none⟩::rest) E L:=by
 have e:=List.take_append_drop n L
 have:=ah.kO (ty:=ty) (pos:=pos) (af:=af) (ats:=ats) (xs:=xs) (Lin:=L.take n) (Lr:=L.drop n) (E:=E) (Q:=Q) (ops:=ops) e5 h (by rw [e];exact ar) aR k
 rwa [e] at this
theorem lC {α:Type}[ak α]{e bytes cap:Nat}{key:Option Nat}{xs ys r:List α}{z:α}(j:Nat)(hu:c.P.underlying t=some (.slice e))(fi:bF c.P e α)(hz:cS c.P e z)(h:g9 bytes xs ys=some r)
 (k:∀ rh cap',ah c ops Q rest ((a9,.eq (aV rh r.length cap'))::E) (L.set j ⟨rh,.row e r cap'⟩)) (x7:(c.P.info? e).map (·.bytes)=some bytes:=by kernel_rfl)
 (hs:ba c E L x (.eq (aV key xs.length cap)):=by first | exact ab rfl | exact s8) (al:L[j]? =some ⟨key,.row e xs cap⟩:=by rfl) (a5:ba c E L y (.of ys):=by exact ab rfl) (aR:Nat.blt a9 c.n=true:=by rfl):
 ah c ops Q (⟨some a9,.call ⟨.builtin .append,#[x,y],#[t,t]⟩,ty,pos,af,none⟩::rest) E L:= .app hu fi hz x7 hs al a5 h aR k
theorem kf {place:Nat→Option (Nat×Nat)}{β:Type}[ak β]{b b':β}{γ:Type}[ak γ]{v:γ}{i:Nat}{r:List (Nat×Operand)}(l:aL β γ)(k:sr c E L place (l.set b v) r b')
 (hp:place i=some (l.off,ak.size γ):=by rfl) (ar:ba c E L x (.of v):=by first | exact ab rfl | exact bN _ | exact gI _ | exact look_nil | exact eo _):sr c E L place b ((i,x)::r) b':= .cons l hp ar rfl k
theorem hI {β:Type}[ak β]{z b:β}{bw:List (Nat×Operand)}{pl:Array (Nat×Nat)}(ER:ie c.P t pl)(hz:cS c.P t z)(wj:β)(a2:sr c E L (pl[·]?) z bw b)(k:ah c ops Q rest ((a9,.of wj)::E) L)(bb:ak.agg β=true:=by rfl)(hb:b=wj:=by rfl)(aR:Nat.blt a9 c.n=true:=by rfl):
 ah c ops Q (⟨some a9,.build t bw.toArray,ty,pos,af,none⟩::rest) E L:= .v ((dj bb ER hz a2).as hb) rfl rfl aR k
theorem hK {α:Type}[ak α]{e n:Nat}{z:α}{bw:List (Nat×Operand)}(r:List α)(hu:c.P.underlying t=some (.slice e))(fi:bF c.P e α)(hz:cS c.P e z)(k:ah c ops Q rest ((a9,.of r)::E) L)
 (a2:oV c E L (List.replicate n z) bw r:=by repeat (first | exact oV.nil | refine oV.cons (by simp) (ab rfl) ?_ | refine oV.cons (by simp) (bN _) ?_ | refine oV.cons (by simp) (gI _) ?_ | refine oV.cons (by simp) (eo _) ?_))
 (hs:Nat.beq (ak.size α) 0=false:=by rfl) (uh:Nat.ble (n * ak.size α) 16777216=true:=by rfl) (aR:Nat.blt a9 c.n=true:=by rfl):
 ah c ops Q (⟨some a9,.buildSlice t n bw.toArray,ty,pos,af,none⟩::rest) E L:= .v (jw hu fi hz hs uh a2) rfl rfl aR k
inductive nD (E:List (Nat×I)):List Nat→List (Nat×I)→Prop
 | nil:nD E [] []
 | cons {t:Nat} {ig:List Nat} {τ:I} {wb:List (Nat×I)} :look E t=some τ→nD E ig wb→nD E (t::ig) ((t,τ)::wb)
theorem nD.le:∀ {ig:List Nat} {kn:List (Nat×I)},nD E ig kn→g4 E kn
 | _,_,.nil=>.nil
 | _,_,.cons h k=>.same h k.le
theorem ht {code:Code}{kn:List (Nat×I)}(ig:List Nat)(k:ag c Q code kn L)(aA:nD E ig kn:=by repeat (first | exact nD.nil | (apply nD.cons;rfl))):ag c Q code E L:= .le aA.le k
theorem ia {z:Exit}{kn:List (Nat×I)}(ig:List Nat)(k:ad c Q z kn L)(aA:nD E ig kn:=by repeat (first | exact nD.nil | (apply nD.cons;rfl))):ad c Q z E L:= .le aA.le k
theorem dh {z:Exit}{E':List (Nat×I)}{L':List aQ}(n:Nat)(k:ad c Q z E' L')(al:L.drop n=L':=by rfl)(h:g4 E E':=by repeat (first | exact g4.nil | refine g4.same rfl ?_)):ad c Q z E L:= .meet n al h k
theorem fE {σ ε γ δ:Type}{E':σ→γ→List (Nat×I)}{L':σ→γ→List aQ}{xs:ε→Exit}{hc:ε→δ→List (Nat×I)}{Lx:ε→δ→List aQ}{s:σ}(g:γ)(n:Nat)(al:L.drop n=L' s g:=by rfl)
 (h:g4 E (E' s g):=by repeat (first | exact g4.nil | refine g4.same rfl ?_)):ad c (AB c E' L' xs hc Lx (.inl s)) .normal E L:= .aa5 g n al h
theorem dM {σ ε γ δ:Type}{E':σ→γ→List (Nat×I)}{L':σ→γ→List aQ}{xs:ε→Exit}{hc:ε→δ→List (Nat×I)}{Lx:ε→δ→List aQ}{e:ε}{z:Exit}(g:δ)(n:Nat)(ar:z=xs e:=by rfl)(aR:z≠ .normal:=by simp)(al:L.drop n=Lx e g:=by rfl)
 (h:g4 E (hc e g):=by repeat (first | exact g4.nil | refine g4.same rfl ?_)):ad c (AB c E' L' xs hc Lx (.inr e)) z E L:= .aa6 g n ar aR al h
theorem hP {t:Nat}{p:Nat}{α:Type}[ak α]{v:α}(i:Nat)(eN:bF c.P ty α)(h:look E t=some (.eq (.pointer (some ⟨p,0,none⟩))):=by rfl)(al:L[i]? =some ⟨some p,.var v⟩:=by rfl):uy c E L (.cell t ty) (.of v):=afh eN h al
theorem cJ {fn:Func}{t:Nat}{τ:I}(aO:fn.results= #[.tmp t]:=by rfl)(h:look E t=some τ:=by rfl)(h3:c.ds= []:=by rfl):ad c (bodyPost c.P fn (Ag c τ)) .ret E L:= .jx aO (vz h) h3
theorem TJ {fn:Func}{t u:Nat}{τ nw:I}(aO:fn.results= #[.tmp t,.tmp u]:=by rfl)(h:look E t=some τ:=by rfl)(ae:look E u=some nw:=by rfl)(h3:c.ds= []:=by rfl):ad c (bodyPost c.P fn (Ag c (.dZ [τ,nw]))) .ret E L:= .Ds aO (vz h) (vz ae) h3
theorem lW {fn:Func}{t:Nat}{τ:I}{δ:Type}{ρ:δ→I}{Lo:δ→List aQ}(a9:δ)(hs:(Lo a9).Sublist L:=by repeat (first | exact List.nil_sublist _ | refine List.Sublist.cons_cons _ ?_))(aO:fn.results= #[.tmp t]:=by rfl)(h:look E t=some τ:=by rfl)(rz:ρ a9=τ:=by rfl)(h3:c.ds= []:=by rfl):
 ad c (bodyPost c.P fn (kQ c.X c.b7 c.jB ρ Lo)) .ret E L:= .e3 a9 hs aO rz (c3 h) h3
theorem HM {fn:Func}{t u:Nat}{τ nw:I}{δ:Type}{ρ:δ→I}{Lo:δ→List aQ}(a9:δ)(hs:(Lo a9).Sublist L:=by repeat (first | exact List.nil_sublist _ | refine List.Sublist.cons_cons _ ?_))(aO:fn.results= #[.tmp t,.tmp u]:=by rfl)
 (h:look E t=some τ:=by rfl) (ae:look E u=some nw:=by rfl) (rz:ρ a9= .dZ [τ,nw]:=by rfl) (h3:c.ds= []:=by rfl):ad c (bodyPost c.P fn (kQ c.X c.b7 c.jB ρ Lo)) .ret E L:= .h9 a9 hs aO rz (c3 h) (c3 ae) h3
def qv:List aQ→List (Nat×aQ)→List aQ
 | L,[]=>L
 | L,(i,e)::r=>qv (L.set i e) r
inductive rP:List aQ→List aQ→Prop
 | nil:rP [] []
 | cons {e:aQ} {r s:List aQ} :rP r s→rP (e::r) (e::s)
theorem rP.eq:∀ {l m:List aQ},rP l m→l=m
 | _,_,.nil=>rfl
 | _,_,.cons h=>by rw [h.eq]
theorem gk {σ ε γ δ:Type}{body:Code}{N:Nat}{b:σ→Option (σ ⊕ ε)}{cE:σ}{e:ε}{kn:List (Nat×I)}{hU:List aQ}(an:et N b cE=some e)(ig:List Nat)(u:σ→γ→List (Nat×I))(ul:σ→γ→List (Nat×aQ))(xs:ε→Exit)
 (NC:ε→δ→List (Nat×I)) (MC:ε→δ→List (Nat×aQ)) (g0:γ)
 (xA:∀ s r,b s=some r→ ∀ g,ag c (AB c (fun s g=>u s g++kn) (fun s g=>qv hU (ul s g)) xs (fun e d=>NC e d++kn) (fun e d=>qv hU (MC e d)) r) body (u s g++kn) (qv hU (ul s g)))
 (q2:∀ g,ad c Q (xs e) (NC e g++kn) (qv hU (MC e g)))
 (x6:rP L hU:=by repeat (first | exact rP.nil | apply rP.cons))
 (agl:nD E ig kn:=by repeat (first | exact nD.nil | (apply nD.cons;rfl))) (aA:g4 E (u cE g0++kn):=by repeat (first | exact g4.nil | refine g4.same rfl ?_)) (al:hU=qv hU (ul cE g0):=by rfl):ag c Q (.loop body) E L:=
 ag.xv an (fun s g=>u s g++kn) (fun s g=>qv hU (ul s g)) xs (fun e d=>NC e d++kn) (fun e d=>qv hU (MC e d)) g0 (x6.eq.trans al) aA xA q2
theorem jK {γ:Type}{b:Bool}{y z:Code}{kn:List (Nat×I)}{hU:List aQ}(ig:List Nat)(u:γ→List (Nat×I))(ul:γ→List (Nat×aQ))(wh:∀ g,ad c Q .normal (u g++kn) (qv hU (ul g)))
 (bM:(∀ g,ad c Q .normal (u g++kn) (qv hU (ul g)))→b=true→ag c Q y E hU) (a2:(∀ g,ad c Q .normal (u g++kn) (qv hU (ul g)))→b=false→ag c Q z E hU)
 (x6:rP L hU:=by repeat (first | exact rP.nil | apply rP.cons))
 (agl:nD E ig kn:=by repeat (first | exact nD.nil | (apply nD.cons;rfl))) (an:ba c E hU x (.of b):=by first | exact ab rfl | exact gI _):ag c Q (.cond x y z) E L:=by
 cases x6.eq
 exact ag.cu (fun g=>u g++kn) (fun g=>qv L (ul g)) an wh bM a2
section
variable {all:List fB} {w:Nat→Bool}
theorem dK {τ:I}{hyp:List aQ→Prop}(h:∀ L',hyp L'→b9 c E L' o τ)(bD:o.guard=none:=by rfl):∀ L',hyp L'→ix c ops E L' o τ:=fun L' al=>.v (h L' al) bD
theorem cX {τ:I}{hyp:List aQ→Prop}(ar:∀ L',ba c E L' x τ:=by first | exact fun _=>ab rfl | exact fun _=>bN _ | exact fun _=>gI _ | exact fun _=>eo _):∀ L',hyp L'→ix c ops E L' ⟨some a9,.move x,ty,pos,af,none⟩ τ:=fun L' _=>.v (cy (ar L')) rfl
theorem yo {τ:I}{hyp:List aQ→Prop}(ar:∀ L',ba c E L' x τ:=by first | exact fun _=>ab rfl | exact fun _=>bN _ | exact fun _=>gI _ | exact fun _=>eo _):∀ L',hyp L'→ix c ops E L' ⟨some a9,.assign x,ty,pos,af,none⟩ τ:=fun L' _=>.v (ey (ar L')) rfl
theorem H1 {σ τ:I}{hyp:List aQ→Prop}(h:∀ {L'},ba c E L' x σ→b9 c E L' o τ)(bD:o.guard=none:=by rfl)(ar:∀ L',ba c E L' x σ:=by first | exact fun _=>ab rfl | exact fun _=>bN _ | exact fun _=>gI _ | exact fun _=>eo _):
 ∀ L',hyp L'→ix c ops E L' o τ:=fun L' _=>.v (h (ar L')) bD
theorem iS {σ rC τ:I}{hyp:List aQ→Prop}(h:∀ {L'},ba c E L' x σ→ba c E L' y rC→b9 c E L' o τ)(bD:o.guard=none:=by rfl)(ar:∀ L',ba c E L' x σ:=by first | exact fun _=>ab rfl | exact fun _=>bN _ | exact fun _=>gI _ | exact fun _=>eo _)
 (a5:∀ L',ba c E L' y rC:=by first | exact fun _=>ab rfl | exact fun _=>bN _ | exact fun _=>gI _ | exact fun _=>eo _):∀ L',hyp L'→ix c ops E L' o τ:=fun L' _=>.v (h (ar L') (a5 L')) bD
theorem dx {p o:Nat}{β γ:Type}[ak β][ak γ]{b:β}(i:Nat)(l:aL β γ)(eN:bF c.P t γ)(ar:∀ L',ba c E L' x (.eq (.pointer (some ⟨p,o,none⟩))):=by exact fun _=>ab rfl)(al:L[i]? =some ⟨some p,.var b⟩:=by rfl)(bg:o=l.off:=by rfl)
 (hu:qo w i 0 all=true:=by first | rfl | kernel_rfl):∀ L':List aQ,(∀ (j:Nat) (e:aQ),L[j]? =some e→qo w j 0 all=true→L'[j]? =some e)→ix c ops E L' ⟨some a9,.load t x,ty,pos,af,none⟩ (.of (l.get b)):=
 fun L' sG=>.v (dJ l eN (ar L') (sG _ _ al hu) bg rfl) rfl
theorem fq {p:Nat}{β:Type}[ak β]{b:β}(i:Nat)(eN:bF c.P t β)(ar:∀ L',ba c E L' x (.eq (.pointer (some ⟨p,0,none⟩))):=by exact fun _=>ab rfl)(al:L[i]? =some ⟨some p,.var b⟩:=by rfl)
 (hu:qo w i 0 all=true:=by first | rfl | kernel_rfl):∀ L':List aQ,(∀ (j:Nat) (e:aQ),L[j]? =some e→qo w j 0 all=true→L'[j]? =some e)→ix c ops E L' ⟨some a9,.load t x,ty,pos,af,none⟩ (.of b):=
 fun L' sG=>.v (dJ (aL.id β) eN (ar L') (sG _ _ al hu) rfl rfl) rfl
theorem e4 {f:FuncId}{xs:List Operand}{ats:Array TypeId}{τs:List I}{ρ:I}{hyp:List aQ→Prop}(e5:bA c.P f)(h:bK c.P f τs ρ)
 (ar:∀ L',iM c E L' xs τs:=by intro L';repeat (first | exact trivial | refine⟨ab rfl,?_⟩ | refine⟨bN _,?_⟩ | refine⟨gI _,?_⟩ | refine⟨look_nil,?_⟩ | refine⟨eo _,?_⟩)):
 ∀ L',hyp L'→ix c ops E L' ⟨some a9,.call ⟨.value (.func f),xs.toArray,ats⟩,ty,pos,af,none⟩ ρ:=fun L' _=>.v (iZ e5 h (ar L')) rfl
theorem mS {α:Type}[ak α][Inhabited α]{xs:List α}{e:TypeId}{i:Int}{j:Nat}{hyp:List aQ→Prop}(aw:idx xs.length i=some j)(hu:c.P.underlying t=some (.slice e))(fi:bF c.P e α)
 (ar:∀ L',ba c E L' x (.of xs):=by exact fun _=>ab rfl) (a5:∀ L',ba c E L' y (.of i):=by first | exact fun _=>ab rfl | exact fun _=>bN _):
 ∀ L',hyp L'→ix c ops E L' ⟨some a9,.indexAddr t x y,ty,pos,af,none⟩ (.ptr (aF xs j)):=fun L' _=>.v (o1 hu fi (ar L') (a5 L') (cL aw)) rfl
theorem tT {s f o:Nat}{β γ:Type}[ak β][ak γ]{b:β}{hyp:List aQ→Prop}(l:aL β γ)(fd:cw c.P s f o)(ar:∀ L',ba c E L' x (.ptr b):=by exact fun _=>ab rfl)(bg:l.off=o:=by rfl):
 ∀ L',hyp L'→ix c ops E L' ⟨some a9,.fieldAddr s x f,ty,pos,af,none⟩ (.ptr (l.get b)):=fun L' _=>.v (vm l fd (ar L') bg rfl) rfl
theorem sN {α:Type}[ak α]{a b:α}{hyp:List aQ→Prop}(e:some a=some b)(h:∀ L',hyp L'→b9 c E L' o (.of a))(bD:o.guard=none:=by rfl):∀ L',hyp L'→ix c ops E L' o (.of b):=fun L' al=>.v ((h L' al).as (dC e)) bD
theorem Aq {i:Nat}{τs:List I}{τ:I}{hyp:List aQ→Prop}(ar:∀ L',ba c E L' x (.dZ τs):=by exact fun _=>ab rfl)(au:τs[i]? =some τ:=by rfl):∀ L',hyp L'→ix c ops E L' ⟨some a9,.extract x i,ty,pos,af,none⟩ τ:=fun L' _=>.v (kN (ar L') au) rfl
theorem dX {τ:I}{j g:Nat}{b want:Bool}{hyp:List aQ→Prop}(h:∀ L',hyp L'→b=want→b9 c E L' o τ)(bD:o.guard=some (j,want):=by rfl)(aH:(ops[j]?).bind (·.dst)=some g:=by rfl)(an:look E g=some (.of b):=by rfl):
 ∀ L',hyp L'→ix c ops E L' o (.cond (b=want) τ):=fun L' al=>.g (h L' al) bD aH an
end
def aY (s:Nat)(up rd:List Nat)(τ:I):e6:=⟨some s,up,rd,[],fun _=>τ,fun _ _=>⟨none,.dead⟩⟩
section
variable {hs:List e6} {i:Nat} {up rd:List Nat}
theorem dH {τ:I}(ar:∀ (hd:Nat→Hid) (E':List (Nat×I)) (L':List aQ),(∀ t τ,look (nZ hd hs E up) t=some τ→look E' t=some τ)→ba c E' L' x τ:=by first | exact fun _ _ _ aA=>ab (aA _ _ rfl) | exact fun _ _ _ _=>bN _ | exact fun _ _ _ _=>gI _ | exact fun _ _ _ _=>eo _)
 (aR:Nat.blt a9 c.n=true:=by rfl):b5 c ops Q hs E L i ⟨some a9,.move x,ty,pos,af,none⟩ (aY a9 up rd τ):=jj rfl rfl aR fun hd E' L' aA _=>cy (ar hd E' L' aA)
theorem dQ {σ τ:I}(h:∀ {E' L'},ba c E' L' x σ→b9 c E' L' o τ)(bD:o.guard=none:=by rfl)(hd:o.dst=some a9:=by rfl)
 (ar:∀ (hd:Nat→Hid) (E':List (Nat×I)) (L':List aQ),(∀ t τ,look (nZ hd hs E up) t=some τ→look E' t=some τ)→ba c E' L' x σ:=by first | exact fun _ _ _ aA=>ab (aA _ _ rfl) | exact fun _ _ _ _=>bN _ | exact fun _ _ _ _=>gI _ | exact fun _ _ _ _=>eo _)
 (aR:Nat.blt a9 c.n=true:=by rfl):b5 c ops Q hs E L i o (aY a9 up rd τ):=jj bD hd aR fun hd E' L' aA _=>h (ar hd E' L' aA)
theorem sP {σ rC τ:I}(h:∀ {E' L'},ba c E' L' x σ→ba c E' L' y rC→b9 c E' L' o τ)(bD:o.guard=none:=by rfl)(hd:o.dst=some a9:=by rfl)
 (ar:∀ (hd:Nat→Hid) (E':List (Nat×I)) (L':List aQ),(∀ t τ,look (nZ hd hs E up) t=some τ→look E' t=some τ)→ba c E' L' x σ:=by first | exact fun _ _ _ aA=>ab (aA _ _ rfl) | exact fun _ _ _ _=>bN _ | exact fun _ _ _ _=>gI _ | exact fun _ _ _ _=>eo _)
 (a5:∀ (hd:Nat→Hid) (E':List (Nat×I)) (L':List aQ),(∀ t τ,look (nZ hd hs E up) t=some τ→look E' t=some τ)→ba c E' L' y rC:=by first | exact fun _ _ _ aA=>ab (aA _ _ rfl) | exact fun _ _ _ _=>bN _ | exact fun _ _ _ _=>gI _ | exact fun _ _ _ _=>eo _)
 (aR:Nat.blt a9 c.n=true:=by rfl):b5 c ops Q hs E L i o (aY a9 up rd τ):=jj bD hd aR fun hd E' L' aA _=>h (ar hd E' L' aA) (a5 hd E' L' aA)
theorem jW {p o:Nat}{β γ:Type}[ak β][ak γ]{b:β}(k:Nat)(l:aL β γ)(eN:bF c.P t γ)
 (ar:∀ (hd:Nat→Hid) (E':List (Nat×I)) (L':List aQ),(∀ t τ,look (nZ hd hs E up) t=some τ→look E' t=some τ)→ba c E' L' x (.eq (.pointer (some ⟨p,o,none⟩))):=by exact fun _ _ _ aA=>ab (aA _ _ rfl))
 (al:∀ hd:Nat→Hid,(jD (fun _=>true) hd 0 (hs.take i) L)[k]? =some ⟨some p,.var b⟩:=by exact fun _=>rfl) (aO:rd.contains k=true:=by rfl) (bg:o=l.off:=by rfl)
 (aR:Nat.blt a9 c.n=true:=by rfl):b5 c ops Q hs E L i ⟨some a9,.load t x,ty,pos,af,none⟩ (aY a9 up rd (.of (l.get b))):=jj rfl rfl aR fun hd E' L' aA sG=>dJ l eN (ar hd E' L' aA) (sG _ _ (al hd) aO) bg rfl
theorem kg {p:Nat}{β:Type}[ak β]{b:β}(k:Nat)(eN:bF c.P t β)
 (ar:∀ (hd:Nat→Hid) (E':List (Nat×I)) (L':List aQ),(∀ t τ,look (nZ hd hs E up) t=some τ→look E' t=some τ)→ba c E' L' x (.eq (.pointer (some ⟨p,0,none⟩))):=by exact fun _ _ _ aA=>ab (aA _ _ rfl))
 (al:∀ hd:Nat→Hid,(jD (fun _=>true) hd 0 (hs.take i) L)[k]? =some ⟨some p,.var b⟩:=by exact fun _=>rfl) (aO:rd.contains k=true:=by rfl)
 (aR:Nat.blt a9 c.n=true:=by rfl):b5 c ops Q hs E L i ⟨some a9,.load t x,ty,pos,af,none⟩ (aY a9 up rd (.of b)):=jj rfl rfl aR fun hd E' L' aA sG=>dJ (aL.id β) eN (ar hd E' L' aA) (sG _ _ (al hd) aO) rfl rfl
theorem b8 {τ:I}(h:∀ (hd:Nat→Hid) (E':List (Nat×I)) (L':List aQ),(∀ t τ,look (nZ hd hs E up) t=some τ→look E' t=some τ)→ (∀ j e,(jD (fun _=>true) hd 0 (hs.take i) L)[j]? =some e→rd.contains j=true→L'[j]? =some e)→b9 c E' L' o τ)
 (bD:o.guard=none:=by rfl) (hd:o.dst=some a9:=by rfl) (aR:Nat.blt a9 c.n=true:=by rfl):b5 c ops Q hs E L i o (aY a9 up rd τ):=jj bD hd aR h
end
end
theorem Gc {F:Fence}{n uB:Nat}{P:Program}{code:Code}{Q:Exit→Act→World→Prop}{a:Act}{W:World}(hd:F.depth=none)(h:code.wpIn F n P Q a W):code.wpIn F uB P Q a W:=
 fun b k cs Av hb _=>h b k cs Av hb (fun d hd'=>by rw [hd] at hd';cases hd')
def eg.is (o:Obj):eg where
 holds _ _ x:=x=o
 nL:=False
 mono _ h:=h
abbrev eg.dN:eg:= .is (.deferred (some []))
def I.lX (f:FuncId)(τs:List I):I where
 holds A W v:= ∃ iU:List Value,v= .func (.func f) #[] iU.toArray∧hk A W τs iU
 mono e h:=let⟨iU,aa,ae⟩:=h; ⟨iU,aa,ae.mono e⟩
theorem bL.ri {c E L a W}(h:bL c E L a W){i p:Nat}{cp cp':eg}(au:L[i]? =some ⟨some p,cp⟩){o':Obj}(aj:cp'.holds (aU L++c.b7) W o'):
 bL c E (L.set i ⟨some p,cp'⟩) a (W.putObj p o'):=by
 have h2:aU (L.set i ⟨some p,cp'⟩)=aU L:=zK (cp:=cp') au
 have hp:p∈aU L:=mi.2 ⟨_,List.mem_of_getElem? au,rfl⟩
 have hZ:Ext (aU L++c.b7) W (aU L++c.b7) (W.putObj p o'):=
  ⟨by simp,fun k _ bb=>World.putObj_heap_other (fun e=>bb (e ▸ List.mem_append.2 (.inl hp))),fun _ h _=>h⟩
 exact
 {defers:=h.defers
  size:=h.size
  env:=fun t τ an=>by rw [h2];exact let⟨v,aa,ae⟩:=h.env t τ an; ⟨v,aa,τ.mono hZ ae⟩
  ej:=⟨h.ej.os,h.ej.tape,h.ej.output,by simpa using h.ej.size,fun k aw ar=>by
   rw [World.putObj_heap_other (fun e:k=p=>ar (by subst e;exact h.gN _ hp aw))];exact h.ej.block k aw ar⟩
  own:=fun e he=>by
   rw [h2];obtain⟨j,aH⟩:=List.mem_iff_getElem?.1 he;rw [List.getElem?_set] at aH;split at aH
   ·rename_i gd;subst gd;split at aH
    ·simp only [Option.some.injEq] at aH;subst aH;exact⟨_,World.putObj_heap_same (h.lt p hp),cp'.mono hZ aj⟩
    cases aH
   rename_i gd;have aa:=h.own e (List.mem_of_getElem? aH);unfold aQ.ok at *;split at aa
   ·rename_i q hq;obtain⟨o',rq,cA⟩:=aa;have db:q≠p:=fun e'=>gd (KG h.nodup au aH rfl (e' ▸ hq));exact⟨o',by rw [World.putObj_heap_other db];exact rq,eg.mono _ hZ cA⟩
   exact aa
  nodup:=by rw [h2];exact h.nodup
  lt:=by rw [h2];simpa using h.lt
  gN:=by rw [h2];exact h.gN
  fb:=by rw [h2];simpa using h.fb }
theorem RH {c:dB}{E:List (Nat×I)}{L:List aQ}{d:Option Tmp}{ty:TypeId}{pos:String}{af:Array Edge}{g:Option (Nat×Bool)}{f:FuncId}{xs:List Operand}{τs:List I}(ar:iM c E L xs τs):
 b9 c E L ⟨d,.makeFunc (.func f) #[] xs.toArray,ty,pos,af,g⟩ (.lX f τs):= .pure fun a W s=>
 ⟨.func (.func f) #[] (xs.map a.eval).toArray,by simp [execOp,Instr.makeFunc],_,rfl,ar.holds a W s⟩
structure Aj (A:List Nat)(W:World)(L:List aQ):Prop where
 fb:∀ k∈A,k<W.heap.size∧k ∉ aU L
 nodup:(aU L).Nodup
 lt:∀ k∈aU L,k<W.heap.size
 ok:∀ e∈L,e.ok (aU L++A) W
def ya (P:Program)(u:Value){α σ ε γ:Type}(τ:α→I)(Ls:σ→γ→List aQ)(Lx:ε→γ→List aQ)(step:α→σ→Option (σ ⊕ ε))(R:List Nat→World→Prop):Prop:=
 ∃ l,u= .func (.yield l) #[] #[]∧ ∀ x s r,step x s=some r→ ∀ g A W v,R (aU (Ls s g)++A) W→Aj A W (Ls s g)→ (τ x).holds (aU (Ls s g)++A) W v→
   YieldAt Fence.wide 8 P l #[v] W (match r with
    | .inl cr=>kQ (aU (Ls s g)) A W (fun _:γ=>I.of true) (fun g=>Ls cr g)
    | .inr q=>kQ (aU (Ls s g)) A W (fun _:γ=>I.of false) (fun g=>Lx q g))
def Lr {σ ε γ:Type}(Ls:σ→γ→List aQ)(Lx:ε→γ→List aQ):σ ⊕ ε→γ→List aQ
 | .inl s,g=>Ls s g
 | .inr q,g=>Lx q g
structure CI (P:Program)(f:FuncId)(τs:List I)(Lin:List aQ){α:Type}(τ:α→I)(run:∀ {σ ε:Type},(α→σ→Option (σ ⊕ ε))→σ→Option (σ ⊕ ε)):Prop where
 go:∀ {σ ε γ:Type} (Ls:σ→γ→List aQ) (Lx:ε→γ→List aQ) (step:α→σ→Option (σ ⊕ ε)) (cE:σ) (g0:γ) (r:σ ⊕ ε),run step cE=some r→
  ∀ (A:List Nat) (W:World) (u:Value) (vs:List Value),Aj A W (Lin++Ls cE g0)→hk (aU (Lin++Ls cE g0)++A) W τs vs→
    ya P u τ Ls Lx step (fun dy W'=>Ext (aU (Lin++Ls cE g0)++A) W dy W')→
    Calls P f (u::vs).toArray W (kQ (aU (Lin++Ls cE g0)) A W (fun _:γ=>.dZ []) (fun g=>Lin++Lr Ls Lx r g))
theorem CI.of {P:Program}{f:FuncId}{fn:Func}{code:Code}{n:Nat}{τs:List I}{Lin:List aQ}{α:Type}{τ:α→I}{run:∀ {σ ε:Type},(α→σ→Option (σ ⊕ ε))→σ→Option (σ ⊕ ε)}
 (a2:P.funcs[f]? =some fn) (hb:fn.body=some code) (aR:fn.ntmps=n) (hlen:Nat.ble (τs.length+1) n=true)
 (h:∀ {σ ε γ:Type} (Ls:σ→γ→List aQ) (Lx:ε→γ→List aQ) (step:α→σ→Option (σ ⊕ ε)) (cE:σ) (g0:γ) (r:σ ⊕ ε),run step cE=some r→
  ∀ W A u,ya P u τ Ls Lx step (fun dy W'=>Ext (aU (Lin++Ls cE g0)++A) W dy W')→
    ag ⟨P,n,W,aU (Lin++Ls cE g0),A,none,[]⟩ (bodyPost P fn (kQ (aU (Lin++Ls cE g0)) A W (fun _:γ=>.dZ []) (fun g=>Lin++Lr Ls Lx r g))) code (params 0 (.eq u::τs)) (Lin++Ls cE g0)):CI P f τs Lin τ run:=by
 refine⟨?_⟩
 intro σ ε γ Ls Lx step cE g0 r aO A W u vs an a6 a5
 refine calls_of_wp a2 hb (wpIn_wide.1 (h Ls Lx step cE g0 r aO W A u a5 _ _ ?_))
 have n1:hk (aU (Lin++Ls cE g0)++A) W (.eq u::τs) (u::vs):= .cons rfl a6
 have lf:=n1.length
 have hle:τs.length+1≤n:=Nat.le_of_ble_eq_true hlen
 exact
 {defers:=rfl
  size:=by simp at lf;simp [aR,lf];omega
  env:=fun t τ fy=>by
   obtain⟨_,v,ae,aG⟩:=wT n1 0 t τ fy;refine⟨v,?_,aG⟩;have cf:t<(u::vs).length:=(List.getElem?_eq_some_iff.1 ae).1;rw [Array.getElem?_append_left (by simpa using cf)];simpa using ae
  ej:= .refl _ _
  own:=an.ok
  nodup:=an.nodup
  lt:=an.lt
  gN:=fun k aw _=>aw
  fb:=an.fb }
section
variable {c:dB} {E:List (Nat×I)} {L:List aQ} {ops:Array Oper} {Q:Exit→Act→World→Prop}
variable {d:Option Tmp} {ty:TypeId} {pos:String} {af:Array Edge} {g:Option (Nat×Bool)} {x y:Operand} {t t2:TypeId}
theorem bL.SE {a:Act}{W:World}(s:bL c E L a W):Ext (c.X++c.b7) c.jB (aU L++c.b7) W:=
 ⟨s.ej.size,fun k aw bb=>s.ej.block k aw fun ar=>bb (List.mem_append.2 (.inl ar)),fun k hm cf=>by
   rcases List.mem_append.1 hm with hm | hm
   ·exact List.mem_append.2 (.inl (s.gN k hm cf))
   exact List.mem_append.2 (.inr hm)⟩
theorem bL.HA {a:Act}{W:World}{Lin Lr:List aQ}(s:bL c E (Lin++Lr) a W):Aj (aU Lr++c.b7) W Lin:=by
 have nr:=s.nodup;rw [ft] at nr;obtain⟨l5,nY,rA⟩:=List.nodup_append.1 nr;exact
 {fb:=fun k hm=>by
   rcases List.mem_append.1 hm with hm | hm
   ·exact⟨s.lt k (by rw [ft];exact List.mem_append.2 (.inr hm)),fun h=>rA k h k hm rfl⟩
   obtain⟨aa,ae⟩:=s.fb k hm;exact⟨aa,fun h=>ae (by rw [ft];exact List.mem_append.2 (.inl h))⟩
  nodup:=l5
  lt:=fun k hm=>s.lt k (by rw [ft];exact List.mem_append.2 (.inl hm))
  ok:=fun e he=>aQ.uX (s.own e (List.mem_append.2 (.inl he))) (.drop fun k hm=>by
   rw [ft];simp only [List.mem_append] at hm ⊢;rcases hm with hm | hm | hm
   ·exact .inl (.inl hm)
   ·exact .inl (.inr hm)
   exact .inr hm) fun _ _=>rfl }
theorem CA {Lin Lr:List aQ}{A:List Nat}{W:World} :Ext (aU (Lin++Lr)++A) W (aU Lin++(aU Lr++A)) W:= .drop fun k hm=>by
 rw [ft];simp only [List.mem_append] at hm ⊢;rcases hm with hm | hm | hm
 ·exact .inl (.inl hm)
 ·exact .inl (.inr hm)
 exact .inr hm
theorem JR {Lin Lr:List aQ}{A:List Nat}{W:World} :Ext (aU Lin++(aU Lr++A)) W (aU (Lin++Lr)++A) W:= .drop fun k hm=>by
 rw [ft] at hm;simp only [List.mem_append] at hm ⊢;rcases hm with(hm | hm) | hm
 ·exact .inl hm
 ·exact .inr (.inl hm)
 exact .inr (.inr hm)
theorem ah.yield {rest:List Oper}{a9 mc:Nat}{ats:Array TypeId}{u:Value}{α σ ε γ:Type}{τ:α→I}{Ls:σ→γ→List aQ}{Lx:ε→γ→List aQ}{step:α→σ→Option (σ ⊕ ε)}{Lin:List aQ}{x:Operand}{v:α}{s:σ}{gg:γ}{r:σ ⊕ ε}
 (aj:c.rd=none) (a5:ya c.P u τ Ls Lx step (fun dy W'=>Ext (c.X++c.b7) c.jB dy W')) (a2:look E mc=some (.eq u)) (ar:ba c E (Lin++Ls s gg) x (τ v)) (aO:step v s=some r) (aR:Nat.blt a9 c.n=true)
 (aW:∀ cr,r= .inl cr→ ∀ fa,ah c ops Q rest ((a9,.of true)::E) (Lin++Ls cr fa)) (bI:∀ q,r= .inr q→ ∀ fa,ah c ops Q rest ((a9,.of false)::E) (Lin++Lx q fa)):
 ah c ops Q (⟨some a9,.call ⟨.value (.tmp mc),#[x],ats⟩,ty,pos,af,none⟩::rest) E (Lin++Ls s gg):=fun a W st=>by
 obtain⟨l,rfl,a5⟩:=a5
 obtain⟨ND,aa,ae⟩:=st.env mc _ a2
 have hu:ND= .func (.yield l) #[] #[]:=ae
 subst hu
 have pU:bL c E (Ls s gg++Lin) a W:=st.perm List.perm_append_comm
 have a6:=ar a W st
 have n1:(τ v).holds (aU (Ls s gg)++(aU Lin++c.b7)) W (a.eval x):=(τ v).mono (.drop fun k hm=>by
  rw [ft];simp only [List.mem_append] at hm ⊢;rcases hm with hm | hm | hm
  ·exact .inl (.inr hm)
  ·exact .inl (.inl hm)
  exact .inr hm) a6
 obtain⟨fn,tmps,assign,body,ja,ko⟩:=a5 v s r aO gg (aU Lin++c.b7) W (a.eval x) (pU.SE.trans CA) pU.HA n1
 have Ll:(execOp a.eval ⟨some a9,.call ⟨.value (.tmp mc),#[x],ats⟩,ty,pos,af,none⟩).run c.P W= .ok (.round l fn tmps assign body) W:=by
  rw [← ja];simp [execOp,resolve,Deferred.ofValue,Act.eval,aa,invoke,Sem.run_bind,Sem.run_pure,Result.andThen]
 refine wpListIn_plain rfl fun K yq=>?_
 refine⟨fun _ _=>trivial,?_⟩
 rw [Oper.semAt_eq _ _ _ (fun _ h=>by cases h),Ll,Oper.uponIn_round]
 refine⟨fun h=>by simp at h,?_⟩
 have MD:RoundIn c.F (9 - 1) c.P l fn tmps assign body W _:=ko
 refine MD.mono fun e W' he=>?_
 cases r with
 | inl cr=>
   obtain⟨w,fa,rfl,rD,aG,a0,a7,bn⟩:=he
   obtain rfl:=of_bool.1 bn
   refine yq _ _ (aW cr rfl fa _ _ ?_)
   exact(((pU.after rD aG a0 a7).perm List.perm_append_comm).put (by simpa using aR) (of_bool.2 rfl))
 | inr q=>
   obtain⟨w,fa,rfl,rD,aG,a0,a7,bn⟩:=he
   obtain rfl:=of_bool.1 bn
   refine yq _ _ (bI q rfl fa _ _ ?_)
   exact(((pU.after rD aG a0 a7).perm List.perm_append_comm).put (by simpa using aR) (of_bool.2 rfl))
theorem ah.aaT {rest:List Oper}{a9 mc j gt:Nat}{b:Bool}{ats:Array TypeId}{u:Value}{α σ ε γ:Type}{τ:α→I}{Ls:σ→γ→List aQ}{Lx:ε→γ→List aQ}{step:α→σ→Option (σ ⊕ ε)}{Lin:List aQ}{x:Operand}{v:α}{s:σ}{gg:γ}{r:σ ⊕ ε}
 (aj:c.rd=none) (a5:ya c.P u τ Ls Lx step (fun dy W'=>Ext (c.X++c.b7) c.jB dy W')) (hb:b=true) (aH:(ops[j]?).bind (·.dst)=some gt) (an:look E gt=some (.of b)) (a2:look E mc=some (.cond (b=true) (.eq u))) (ar:ba c E (Lin++Ls s gg) x (τ v)) (aO:step v s=some r) (aR:Nat.blt a9 c.n=true)
 (aW:∀ cr,r= .inl cr→ ∀ fa,ah c ops Q rest ((a9,.cond (b=true) (.of true))::E) (Lin++Ls cr fa)) (bI:∀ q,r= .inr q→ ∀ fa,ah c ops Q rest ((a9,.cond (b=true) (.of false))::E) (Lin++Lx q fa)):
 ah c ops Q (⟨some a9,.call ⟨.value (.tmp mc),#[x],ats⟩,ty,pos,af,some (j,true)⟩::rest) E (Lin++Ls s gg):=fun a W st=>by
 have aA:look ((mc,.eq u)::E) mc=some (.eq u):=by simp [look,Nat.beq_refl]
 have ME:bL c ((mc,.eq u)::E) (Lin++Ls s gg) a W:=st.less fun t nW h=>by
  simp only [look] at h;by_cases e:Nat.beq mc t=true
  ·rw [e] at h;simp only [cond_true,Option.some.injEq] at h;subst h;rw [← eQ.1 e];exact⟨_,a2,fun A W v a6=>a6.1 hb⟩
  simp only [Bool.not_eq_true] at e;rw [e] at h;exact⟨_,h,fun _ _ _ h=>h⟩
 have key:=ah.yield (c:=c) (ops:=ops) (Q:=Q) (E:=(mc,.eq u)::E) (rest:=rest) (ty:=ty) (pos:=pos) (af:=af) (ats:=ats) aj a5 aA (fun a W s=>ar a W (s.less fun t nW h=>by
  by_cases e:Nat.beq mc t=true
  ·have:=eQ.1 e;subst this;rw [a2] at h;cases h;refine⟨_,aA,fun A W v a6=>⟨fun _=>a6,fun h=>absurd hb h⟩⟩
  ·simp only [Bool.not_eq_true] at e;exact⟨nW,by simp only [look];rw [e];exact h,fun _ _ _ h=>h⟩)) aO aR
  (fun cr e fa a W st=>aW cr e fa a W (st.less fun t nW h=>by
   simp only [look] at h ⊢;by_cases e:Nat.beq a9 t=true
   ·rw [e] at h ⊢;simp only [cond_true,Option.some.injEq] at h ⊢;exact⟨_,rfl,fun A W v a6=>by subst h;exact⟨fun _=>a6,fun h=>absurd hb h⟩⟩
   simp only [Bool.not_eq_true] at e;rw [e] at h ⊢;simp only [cond_false] at h ⊢;by_cases aX:Nat.beq mc t=true
   ·have:=eQ.1 aX;subst this;rw [a2] at h;cases h;rw [aX];exact⟨_,rfl,fun A W v a6=>⟨fun _=>a6,fun h=>absurd hb h⟩⟩
   simp only [Bool.not_eq_true] at aX;rw [aX];exact⟨nW,h,fun _ _ _ h=>h⟩))
  (fun cr e fa a W st=>bI cr e fa a W (st.less fun t nW h=>by
   simp only [look] at h ⊢;by_cases e:Nat.beq a9 t=true
   ·rw [e] at h ⊢;simp only [cond_true,Option.some.injEq] at h ⊢;exact⟨_,rfl,fun A W v a6=>by subst h;exact⟨fun _=>a6,fun h=>absurd hb h⟩⟩
   simp only [Bool.not_eq_true] at e;rw [e] at h ⊢;simp only [cond_false] at h ⊢;by_cases aX:Nat.beq mc t=true
   ·have:=eQ.1 aX;subst this;rw [a2] at h;cases h;rw [aX];exact⟨_,rfl,fun A W v a6=>⟨fun _=>a6,fun h=>absurd hb h⟩⟩
   simp only [Bool.not_eq_true] at aX;rw [aX];exact⟨nW,h,fun _ _ _ h=>h⟩))
 have:=key a W ME
 unfold dB.qB wpListIn at this ⊢
 rw [if_pos (by simp [Region.wanted])] at this
 rw [if_pos (by simp [Region.wanted,zt aH an st,hb])]
 exact this
theorem ah.da {l:List Oper}{L2:List aQ}(h:L=L2)(k:ah c ops Q l E L2):ah c ops Q l E L:=by subst h;exact k
theorem ah.cases {l:List Oper}(b:Bool)(aa:b=true→ah c ops Q l E L)(ae:b=false→ah c ops Q l E L):ah c ops Q l E L:=by
 cases b
 ·exact ae rfl
 exact aa rfl
theorem ah.acB {o:Oper}{rest:List Oper}{a9 j gt:Nat}{b:Bool}(τ:I)(hb:b=false)(bD:o.guard=some (j,true))(hd:o.dst=some a9)(aH:(ops[j]?).bind (·.dst)=some gt)(an:look E gt=some (.of b))(aR:Nat.blt a9 c.n=true)
 (k:ah c ops Q rest ((a9,.cond (b=true) τ)::E) L):ah c ops Q (o::rest) E L:=fun a W s=>by
 unfold dB.qB wpListIn
 rw [if_neg (by simp [Region.wanted,bD,zt aH an s,hb]),hd]
 exact⟨fun _ _=>trivial,k _ _ (s.put (by simpa using aR) ⟨fun h=>(by rw [hb] at h;cases h),fun _=>rfl⟩)⟩
theorem ag.K7 {x:Operand}{b:Bool}{y z:Code}(an:ba c E L x (.of b))(hb:b=true)(k:ag c Q y E L):ag c Q (.cond x y z) E L:= .cond an (fun _=>k) fun h=>by rw [hb] at h;cases h
theorem ag.tw {x:Operand}{b:Bool}{y z:Code}(an:ba c E L x (.of b))(hb:b=false)(k:ag c Q z E L):ag c Q (.cond x y z) E L:= .cond an (fun h=>by rw [hb] at h;cases h) fun _=>k
def CQ:Code→Exit
 | .ret=>.ret
 | .exit id=>.exit id
 | .goto t=>.goto t
 | _=>.normal
def xh:Code→Bool
 | .ret | .exit _ | .goto _=>true
 | _=>false
def EW {σ ε γ:Type}(c:dB)(fG:ε→Code)(l D:Nat)(rec:Loop)(Ls:σ→γ→List aQ)(Lx:ε→γ→List aQ):σ ⊕ ε→Exit→Act→World→Prop
 | .inl cr,x,a,W=>x= .normal∧ ∃ g,bL c [] (⟨some l,.is (.loop rec)⟩::⟨some D,.dN⟩::Ls cr g) a W
 | .inr q,x,a,W=>xh (fG q)=true∧x=CQ (fG q)∧ ∃ g,bL c [] (⟨some l,.is (.loop rec)⟩::⟨some D,.dN⟩::Lx q g) a W
def EX (c:dB)(l:Nat)(body:Code)(Q:Exit→Act→World→Prop)(a:Act)(W:World):Prop:=
 ∃ pn,(Instr.beginRound l).run c.P W= .ok () pn∧c.wp body Q a pn
theorem ad.begin {l:Nat}{body:Code}{ux:Exit→Act→World→Prop}(i:Nat){r:Loop}(al:L[i]? =some ⟨some l,.is (.loop r)⟩)(aO:r.state= .ready)
 (k:ag c Q body E (L.set i ⟨some l,.is (.loop { r with state:= .busy })⟩)):ad c (Exit.then (EX c l body Q) ux) .normal E L:=fun a W s=>by
 obtain⟨o,aa,ae⟩:=s.own _ (List.mem_of_getElem? al)
 have l4:o= .loop r:=ae
 subst l4
 exact⟨_,run_beginRound aa aO,k _ _ (s.ri al rfl)⟩
theorem ad.Mg {σ ε γ:Type}{fG:ε→Code}{l D:Nat}{rec:Loop}{Ls:σ→γ→List aQ}{Lx:ε→γ→List aQ}{cr:σ}(g:γ)(n:Nat)(al:L.drop n=⟨some l,.is (.loop rec)⟩::⟨some D,.dN⟩::Ls cr g):
 ad c (EW c fG l D rec Ls Lx (.inl cr)) .normal E L:=fun a W s=>⟨rfl,g,by rw [← al];exact(s.pD n).less (fun t τ h=>by simp [look] at h)⟩
theorem ad.KC {σ ε γ:Type}{fG:ε→Code}{l D:Nat}{rec:Loop}{Ls:σ→γ→List aQ}{Lx:ε→γ→List aQ}{q:ε}{x:Exit}(g:γ)(n:Nat)(aH:xh (fG q)=true)(ar:x=CQ (fG q))(al:L.drop n=⟨some l,.is (.loop rec)⟩::⟨some D,.dN⟩::Lx q g):
 ad c (EW c fG l D rec Ls Lx (.inr q)) x E L:=fun a W s=>⟨aH,ar,g,by rw [← al];exact(s.pD n).less (fun t τ h=>by simp [look] at h)⟩
theorem ag.jump {j:Code}(aH:xh j=true)(k:ad c Q (CQ j) E L):ag c Q j E L:=by
 cases j <;> simp only [xh] at aH <;> first | cases aH | skip
 all_goals first | exact .exit k | exact .ret k | exact fun a W s=>wpIn_goto (k a W s)
theorem Ow {P:Program}{l:Nat}{R:Ending→World→Prop}{j:Code}{a:Act}{W W':World}{v:Value}(aH:xh j=true)(bn:(Instr.endRound l (some j)).run P W= .ok v W')(ko:R (.returned v) W'):
 roundPost P l R (CQ j) a W:=by
 cases j <;> simp only [xh] at aH <;> first | exact⟨_,_,bn,ko⟩ | cases aH
theorem bL.mark {a:Act}{W:World}(s:bL c E L a W)(D:Nat):bL { c with ds:=D::c.ds } E L { a with defers:=Hs D::a.defers } W:=
 {defers:=by simp [s.defers],size:=s.size,env:=s.env,ej:=s.ej,own:=s.own,nodup:=s.nodup,lt:=s.lt,gN:=s.gN,fb:=s.fb }
def MF (P:Program)(f:FuncId)(τs:List I)(Lin:List aQ){α σ ε γ:Type}(τ:α→I)(run:(α→σ→Option (σ ⊕ ε))→σ→Option (σ ⊕ ε))(Ls:σ→γ→List aQ)(Lx:ε→γ→List aQ):Prop:=
 ∀ (step:α→σ→Option (σ ⊕ ε)) (cE:σ) (g0:γ) (r:σ ⊕ ε),run step cE=some r→
   ∀ (A:List Nat) (W:World) (u:Value) (vs:List Value),Aj A W (Lin++Ls cE g0)→hk (aU (Lin++Ls cE g0)++A) W τs vs→
     ya P u τ Ls Lx step (fun dy W'=>Ext (aU (Lin++Ls cE g0)++A) W dy W')→
     Calls P f (u::vs).toArray W (kQ (aU (Lin++Ls cE g0)) A W (fun _:γ=>.dZ []) (fun g=>Lin++Lr Ls Lx r g))
theorem Pn {gt p:Nat}{assign body:Code}{f:FuncId}{nR:List I}{Lin:List aQ}{α σ ε γ:Type}{τ:α→I}{run:(α→σ→Option (σ ⊕ ε))→σ→Option (σ ⊕ ε)}
 {Ls:σ→γ→List aQ} {Lx:ε→γ→List aQ} {step:α→σ→Option (σ ⊕ ε)} {cE:σ} {g0:γ} {r:σ ⊕ ε} (fG:ε→Code)
 (aj:c.rd=none) (e5:bA c.P f) (bD:look E gt=some (.lX f nR)) (lK:∀ aq aX n2,MF c.P f nR Lin τ run (fun s g=>aq::aX::Ls s g) n2) (aO:run step cE=some r) (al:L=Lin++Ls cE g0) (hp:Nat.blt p c.n=true)
 (qh:∀ x s r,step x s=some r→ ∀ g (l0:World) (ma l1:List Nat) (l D:Nat) (rec:Loop),rec.state= .ready→
  ag ⟨c.P,c.n,l0,ma,l1,some l,[]⟩ (Exit.then (EX ⟨c.P,c.n,l0,ma,l1,some l,[]⟩ l body (EW ⟨c.P,c.n,l0,ma,l1,some l,[]⟩ fG l D { rec with state:= .busy } Ls Lx r)) (fun _ _ _=>False)) assign ((p,τ x)::E) (⟨some l,.is (.loop rec)⟩::⟨some D,.dN⟩::Ls s g))
 (pE:∀ cr,r= .inl cr→ ∀ g D,ad { c with ds:=D::c.ds } Q .normal E (⟨some D,.dN⟩::(Lin++Ls cr g)))
 (xC:∀ q,r= .inr q→ ∀ g D,ag { c with ds:=D::c.ds } Q (fG q) E (⟨some D,.dN⟩::(Lin++Lx q g))):
 ag c Q (.rangeFunc (.tmp gt) #[p] assign body) E L:=fun a W st=>by
 subst al
 refine wpIn_rangeFunc fun fn MG=>?_
 show ∃ l mark afr d ac7 AP args afs,(Instr.enterLoop fn a.tmps #[p] assign body c.rd).run c.P W=_∧_
 rw [aj]
 obtain⟨rec,lz⟩:∃ rec:Loop,rec= { state:= .ready,pending:=none,fn,tmps:=a.tmps,params:= #[p],assign,body,defers:=W.heap.size } :=⟨_,rfl⟩
 obtain⟨v,Et,iU,yb,agm⟩:=st.env gt _ bD
 obtain⟨h4,Eu⟩:∃ h4,(W.alloc (.deferred (some []))).alloc (.loop rec)=h4:=⟨_,rfl⟩
 have s1:=(st.alloc (o:= .deferred (some [])) (cp:= .dN) rfl).alloc (o:= .loop rec) (cp:= .is (.loop rec)) rfl
 rw [Eu,World.size_alloc] at s1
 obtain⟨D,mb⟩:∃ D,D=W.heap.size:=⟨_,rfl⟩
 obtain⟨l,an⟩:∃ l,l=W.heap.size+1:=⟨_,rfl⟩
 have Ev:=run_enterLoop_outer (P:=c.P) (w:=W) fn a.tmps #[p] assign body
 rw [← lz,Eu,← an,← mb] at Ev
 rw [← an,← mb] at s1
 obtain⟨my,rE⟩:∃ my:σ→γ→List aQ,my=fun s g=>⟨some l,.is (.loop rec)⟩::⟨some D,.dN⟩::Ls s g:=⟨_,rfl⟩
 obtain⟨n2,Ew⟩:∃ n2:ε→γ→List aQ,n2=fun q g=>⟨some l,.is (.loop { rec with state:= .done,pending:=some (fG q) })⟩::⟨some D,.dN⟩::Lx q g:=⟨_,rfl⟩
 have s2:bL c E (Lin++my cE g0) a h4:=s1.perm (by
  rw [rE];exact(List.perm_middle.trans (List.perm_middle.cons _)).symm)
 have MH:hk (aU (Lin++my cE g0)++c.b7) h4 nR iU:=by
  have aa:(I.lX f nR).holds (aU (Lin++my cE g0)++c.b7) h4 v:=by
   obtain⟨wi,aa,ae⟩:=s2.env gt _ bD;rw [Et] at aa;cases aa;exact ae
  obtain⟨MI,aq,aX⟩:=aa;rw [yb] at aq;have:MI=iU:=by injection aq with _ _ aq;injection aq with aq;exact aq.symm
  rw [← this];exact aX
 have Ex:bL c E ((Lin++my cE g0)++[]) a h4:=by rw [List.append_nil];exact s2
 have Dj:=Ex.HA
 simp only [aU,List.nil_append] at Dj
 have LZ:ya c.P (.func (.yield l) #[] #[]) τ my n2 step (fun dy W'=>Ext (aU (Lin++my cE g0)++c.b7) h4 dy W'):=by
  refine⟨l,rfl,fun x s k5 hs g A pn v2 hZ hle a6=>?_⟩;have DT:=hle;rw [rE] at DT;obtain⟨o,c7,e9⟩:=DT.ok ⟨some l,.is (.loop rec)⟩ (by simp);have rj:o= .loop rec:=e9;subst rj;have a5:=run_yield (P:=c.P) (args:= #[v2]) c7 (by rw [lz];rfl);refine⟨_,_,_,_,a5,roundIn_of_wpIn trivial ?_⟩;have aq:rec.assign=assign:=by rw [lz]
  have aX:rec.body=body:=by rw [lz]
  have dd:rec.params= #[p]:=by rw [lz]
  have g2:rec.tmps=a.tmps:=by rw [lz]
  rw [aq,aX,dd,g2];refine Gc (n:=9) rfl ?_;have Lm:((#[p]:Array Tmp).zip #[v2]).foldl (fun tmps (t,a)=>tmps.setIfInBounds t a) a.tmps=a.tmps.setIfInBounds p v2:=by simp
  rw [Lm];subst rE Ew;refine wpIn_mono ((qh x s k5 hs g pn (aU (⟨some l,.is (.loop rec)⟩::⟨some D,.dN⟩::Ls s g)) A l D rec (by rw [lz])) { tmps:=a.tmps.setIfInBounds p v2,defers:= [] } pn ?_) ?_
  ·have jY:p<c.n:=by simpa using hp
   exact
   {defers:=rfl
    size:=by simp [s2.size]
    env:=fun t nW fy=>by
     simp only [look] at fy;by_cases e:Nat.beq p t=true
     ·rw [e] at fy;simp only [cond_true,Option.some.injEq] at fy;subst fy;have:=eQ.1 e;subst this;exact⟨v2,by simp [s2.size,jY],a6⟩
     simp only [Bool.not_eq_true] at e;rw [e] at fy;simp only [cond_false] at fy;obtain⟨u,aa,ae⟩:=s2.env t nW fy;have db:p≠t:=fun h=>by rw [eQ.2 h] at e;cases e
     exact⟨u,by rw [Array.getElem?_setIfInBounds_ne db];exact aa,nW.mono hZ ae⟩
    ej:= .refl _ _
    own:=hle.ok
    nodup:=hle.nodup
    lt:=hle.lt
    gN:=fun k aw _=>aw
    fb:=hle.fb }
  intro e gG ahu hq;cases e with
  | normal=>
    obtain⟨NF,MJ,hb⟩:=hq
    refine⟨NF,MJ,Gc (n:=9) rfl (wpIn_mono hb ?_)⟩
    intro e pZ EY HZ
    have fin:∀ (jump:Option Code) {Lr:List aQ},bL ⟨c.P,c.n,pn,aU (⟨some l,.is (.loop rec)⟩::⟨some D,.dN⟩::Ls s g),A,some l,[]⟩ [] (⟨some l,.is (.loop { rec with state:= .busy })⟩::⟨some D,.dN⟩::Lr) pZ EY→
     ∃ p0,(Instr.endRound l jump).run c.P EY= .ok (.bool jump.isNone) p0∧bL ⟨c.P,c.n,pn,aU (⟨some l,.is (.loop rec)⟩::⟨some D,.dN⟩::Ls s g),A,some l,[]⟩ [] (⟨some l,.is (.loop { rec with state:=if jump.isNone then .ready else .done,pending:=jump })⟩::⟨some D,.dN⟩::Lr) pZ p0:=fun jump Lr iT=>by
     obtain⟨o,aa,ae⟩:=iT.own ⟨some l,.is (.loop { rec with state:= .busy })⟩ (by simp)
     have l4:o= .loop { rec with state:= .busy } :=ae
     subst l4
     exact⟨_,run_endRound jump aa,iT.ri (i:=0) rfl rfl⟩
    cases k5 with
    | inl cr=>
      obtain⟨rfl,fa,iT⟩:=HZ
      obtain⟨p0,bn,jP⟩:=fin none iT
      refine⟨_,p0,bn,?_⟩
      have MK:({ rec with state:=if (none:Option Code).isNone then .ready else .done,pending:=none } :Loop)=rec:=by rw [lz];rfl
      rw [MK] at jP
      exact jP.ends (ρ:=fun _:γ=>I.of true) (Lo:=fun g=>⟨some l,.is (.loop rec)⟩::⟨some D,.dN⟩::Ls cr g) fa (List.Sublist.refl _) (of_bool.2 rfl)
    | inr q=>
      obtain⟨aH,rfl,fa,iT⟩:=HZ
      obtain⟨p0,bn,jP⟩:=fin (some (fG q)) iT
      have key:kQ (aU (⟨some l,.is (.loop rec)⟩::⟨some D,.dN⟩::Ls s g)) A pn (fun _:γ=>I.of false) (fun g=>⟨some l,.is (.loop { rec with state:= .done,pending:=some (fG q) })⟩::⟨some D,.dN⟩::Lx q g) (.returned (.bool false)) p0:=
       jP.ends (ρ:=fun _:γ=>I.of false) (Lo:=fun g=>⟨some l,.is (.loop { rec with state:= .done,pending:=some (fG q) })⟩::⟨some D,.dN⟩::Lx q g) fa (List.Sublist.refl _) (of_bool.2 rfl)
      exact Ow aH bn key
  | exit id=>exact hq.elim
  | goto t=>exact hq.elim
  | ret=>exact hq.elim
  | panic Nt=>exact hq.elim
  | outgrown=>exact hq.elim
 have ML:MF c.P f nR Lin τ run my n2:=by rw [rE];exact lK _ _ n2
 have Dk:=ML step cE g0 r aO c.b7 h4 (.func (.yield l) #[] #[]) iU Dj MH LZ
 have mx:a.eval (.tmp gt)= .func (.func f) #[] iU.toArray:=by simp [Act.eval,Et,yb]
 refine⟨l,[Hs D],h4,{ target:= .fn (.func f) iU.toArray,args:= #[.func (.yield l) #[] #[]] },h4,f,#[.func (.yield l) #[] #[]]++iU.toArray,h4,Ev,?_,fun _ _=>trivial,?_,fun h=>by simp at h,?_⟩
 ·simp only [resolve,mx]
  simp [go_sem]
 ·simp [invoke,go_sem,e5.run]
 refine CallsIn.Kb ?_
 have Ln:(#[.func (.yield l) #[] #[]]++iU.toArray:Array Value)=(.func (.yield l) #[] #[]::iU).toArray:=by simp
 rw [Ln]
 refine Dk.mono fun e NG ⟨ahv,fa,he,a2,aG,a0,a7,bn⟩=>?_
 subst he
 have p1:=Ex.after a2 aG (by simpa [aU] using a0) (by simpa [aU] using a7)
 rw [List.append_nil] at p1
 cases r with
 | inl cr=>
   simp only [Lr] at p1
   subst rE
   have EZ:bL c E (⟨some l,.is (.loop rec)⟩::⟨some D,.dN⟩::(Lin++Ls cr fa)) a NG:=p1.perm (by
    exact List.perm_middle.trans (List.perm_middle.cons _))
   obtain⟨o,c7,e9⟩:=EZ.own ⟨some l,.is (.loop rec)⟩ (by simp)
   have rj:o= .loop rec:=e9
   subst rj
   have nS:=run_endLoop (P:=c.P) c7 (by rw [lz];simp)
   have jY:rec.pending=none:=by rw [lz]
   rw [jY] at nS
   refine⟨none,_,nS,?_⟩
   have uC:=(EZ.ri (i:=0) (cp':= .is (.loop { rec with state:= .exhausted })) (o':= .loop { rec with state:= .exhausted }) rfl rfl).pD 1
   rw [jY] at uC
   exact pE cr rfl fa D _ _ (uC.mark D)
 | inr q=>
   simp only [Lr] at p1
   subst Ew
   have EZ:bL c E (⟨some l,.is (.loop { rec with state:= .done,pending:=some (fG q) })⟩::⟨some D,.dN⟩::(Lin++Lx q fa)) a NG:=p1.perm (by
    exact List.perm_middle.trans (List.perm_middle.cons _))
   obtain⟨o,c7,e9⟩:=EZ.own ⟨some l,.is (.loop { rec with state:= .done,pending:=some (fG q) })⟩ (by simp)
   have rj:o= .loop { rec with state:= .done,pending:=some (fG q) } :=e9
   subst rj
   have nS:=run_endLoop (P:=c.P) c7 (by simp)
   refine⟨some (fG q),_,nS,?_⟩
   have uC:=(EZ.ri (i:=0) (cp':= .is (.loop { rec with state:= .exhausted,pending:=some (fG q) })) (o':= .loop { rec with state:= .exhausted,pending:=some (fG q) }) rfl rfl).pD 1
   exact xC q rfl fa D _ _ (uC.mark D)
theorem Zc {gt p:Nat}{assign body:Code}{f:FuncId}{nR:List I}{Lin:List aQ}{α σ ε γ:Type}{τ:α→I}{run:∀ {σ ε:Type},(α→σ→Option (σ ⊕ ε))→σ→Option (σ ⊕ ε)}
 {Ls:σ→γ→List aQ} {Lx:ε→γ→List aQ} {step:α→σ→Option (σ ⊕ ε)} {cE:σ} {g0:γ} {r:σ ⊕ ε} (fG:ε→Code)
 (aj:c.rd=none) (e5:bA c.P f) (bD:look E gt=some (.lX f nR)) (lK:CI c.P f nR Lin τ run) (aO:run step cE=some r) (al:L=Lin++Ls cE g0) (hp:Nat.blt p c.n=true)
 (qh:∀ x s r,step x s=some r→ ∀ g (l0:World) (ma l1:List Nat) (l D:Nat) (rec:Loop),rec.state= .ready→
  ag ⟨c.P,c.n,l0,ma,l1,some l,[]⟩ (Exit.then (EX ⟨c.P,c.n,l0,ma,l1,some l,[]⟩ l body (EW ⟨c.P,c.n,l0,ma,l1,some l,[]⟩ fG l D { rec with state:= .busy } Ls Lx r)) (fun _ _ _=>False)) assign ((p,τ x)::E) (⟨some l,.is (.loop rec)⟩::⟨some D,.dN⟩::Ls s g))
 (pE:∀ cr,r= .inl cr→ ∀ g D,ad { c with ds:=D::c.ds } Q .normal E (⟨some D,.dN⟩::(Lin++Ls cr g)))
 (xC:∀ q,r= .inr q→ ∀ g D,ag { c with ds:=D::c.ds } Q (fG q) E (⟨some D,.dN⟩::(Lin++Lx q g))):
 ag c Q (.rangeFunc (.tmp gt) #[p] assign body) E L:=
 Pn (run:=run) fG aj e5 bD (fun aq aX n2=>lK.go (fun s g=>aq::aX::Ls s g) n2) aO al hp qh pE xC
theorem W5 {P:Program}{fn:Func}{R:Ending→World→Prop}{a:Act}{W:World}(h:bodyPost P fn R .ret a W):bodyPostM Fence.wide 9 P fn R .ret a W:=by
 obtain⟨aa,v,ae,aG⟩:=h;show LeavesInM Fence.wide 9 P fn a.tmps R a.defers .returning W;rw [aa];exact⟨v,ae,aG⟩
theorem ad.nj {P:Program}{fn:Func}{R:Ending→World→Prop}(k:ad c (bodyPost P fn R) .ret E L):ad c (bodyPost P fn R) .normal E L:=fun a W s=>k a W s
theorem ad.DC {fn:Func}{R:Ending→World→Prop}(k:ad c (bodyPost c.P fn R) .ret E L):ad c (bodyPostM Fence.wide 9 c.P fn R) .ret E L:=fun a W s=>W5 (k a W s)
theorem ad.vC {fn:Func}{R:Ending→World→Prop}{D:Nat}(i:Nat)(al:L[i]? =some ⟨some D,.dN⟩)(h3:c.ds= [D])(k:ad { c with ds:= [] } (bodyPost c.P fn R) .ret E (L.set i ⟨some D,.is (.deferred none)⟩)):
 ad c (bodyPostM Fence.wide 9 c.P fn R) .ret E L:=fun a W s=>by
 obtain⟨o,aa,ae⟩:=s.own _ (List.mem_of_getElem? al)
 have l4:o= .deferred (some []):=ae
 subst l4
 have s2:=s.ri al (cp':= .is (.deferred none)) (o':= .deferred none) rfl
 have mz:bL { c with ds:= [] } E (L.set i ⟨some D,.is (.deferred none)⟩) { a with defers:= [] } (W.putObj D (.deferred none)):=
  {defers:=rfl,size:=s2.size,env:=s2.env,ej:=s2.ej,own:=s2.own,nodup:=s2.nodup,lt:=s2.lt,gN:=s2.gN,fb:=s2.fb }
 obtain⟨_,v,aG,a0⟩:=k _ _ mz
 show LeavesInM Fence.wide 9 c.P fn a.tmps R a.defers .returning W
 rw [s.defers,h3]
 exact⟨by simp,.inl ⟨D,_,rfl,run_takeDeferred aa,v,aG,a0⟩⟩
end
theorem bK.ahP {P:Program}{f:FuncId}{fn:Func}{code:Code}{n:Nat}{τs:List I}{ρ:I}(a2:P.funcs[f]? =some fn)(hb:fn.body=some code)(aR:fn.ntmps=n)(hlen:Nat.ble τs.length n=true)
 (h:∀ W A,ag ⟨P,n,W,[],A,none,[]⟩ (bodyPostM Fence.wide 9 P fn fun e W'=> ∃ v,e= .returned v∧Fr [] W W'∧ρ.holds A W' v) code (params 0 τs) []):bK P f τs ρ:=by
 intro A W vs hf a6
 refine(callsIn_wide (n:=9)).1 (callsIn_of_wp_marks a2 hb trivial (h W A _ _ ?_))
 have an:=a6.length
 have hle:τs.length≤n:=Nat.le_of_ble_eq_true hlen
 exact
 {defers:=rfl
  size:=by simp [aR,an];omega
  env:=fun t τ lf=>by
   obtain⟨_,v,ae,aG⟩:=wT a6 0 t τ lf;refine⟨v,?_,aG⟩;have cf:t<vs.length:=(List.getElem?_eq_some_iff.1 ae).1;rw [Array.getElem?_append_left (by simpa using cf)];simpa using ae
  ej:= .refl _ _
  own:=by simp
  nodup:=by simp [aU]
  lt:=by simp [aU]
  gN:=by simp [aU]
  fb:=fun k aw=>⟨hf k aw,by simp [aU]⟩ }
theorem bC.ofM {P:Program}{f:FuncId}{fn:Func}{code:Code}{n:Nat}{τs:List I}{Lin:List aQ}{δ:Type}{ρ:δ→I}{Lo:δ→List aQ}(a2:P.funcs[f]? =some fn)(hb:fn.body=some code)(aR:fn.ntmps=n)(hlen:Nat.ble τs.length n=true)
 (h:∀ W A,ag ⟨P,n,W,aU Lin,A,none,[]⟩ (bodyPostM Fence.wide 9 P fn (kQ (aU Lin) A W ρ Lo)) code (params 0 τs) Lin):bC P f τs Lin ρ Lo:=by
 intro A W vs hf iD cf jz a6
 refine(callsIn_wide (n:=9)).1 (callsIn_of_wp_marks a2 hb trivial (h W A _ _ ?_))
 have an:=a6.length
 have hle:τs.length≤n:=Nat.le_of_ble_eq_true hlen
 exact
 {defers:=rfl
  size:=by simp [aR,an];omega
  env:=fun t τ lf=>by
   obtain⟨_,v,ae,aG⟩:=wT a6 0 t τ lf;refine⟨v,?_,aG⟩;have cf:t<vs.length:=(List.getElem?_eq_some_iff.1 ae).1;rw [Array.getElem?_append_left (by simpa using cf)];simpa using ae
  ej:= .refl _ _
  own:=jz
  nodup:=iD
  lt:=cf
  gN:=fun k aw _=>aw
  fb:=hf }
theorem Jx {τ σ:I}(h:τ.Flat)(k:σ.Flat):(I.dZ [τ,σ]).Flat:=fun A W dy W' v ⟨vs,aa,ae⟩=>by
 refine⟨vs,aa,?_⟩;generalize vs.toList=l at ae;cases ae with
 | cons a r=>cases r with
   | cons b r=>cases r;exact .cons (h _ _ _ _ _ a) (.cons (k _ _ _ _ _ b) .nil)
section
variable {c:dB} {E:List (Nat×I)} {L:List aQ} {ops:Array Oper} {Q:Exit→Act→World→Prop}
variable {d:Option Tmp} {ty:TypeId} {pos:String} {af:Array Edge} {g:Option (Nat×Bool)} {x y:Operand} {t t2:TypeId}
theorem b9.via {o:Oper}{τ:I}{E':List (Nat×I)}{L':List aQ}(a2:τ.Flat)(hs:∀ a W,bL c E L a W→bL c E' L' a W)(h:b9 c E' L' o τ):b9 c E L o τ:=fun a W st=>by
 have:=h a W (hs a W st);unfold hC at this ⊢;exact Oper.wp_mono (fun hM W' ⟨v,aa,ae,aG⟩=>⟨v,aa,ae,a2 _ _ _ _ _ aG⟩) this
theorem bL.tell {a:Act}{W:World}(s:bL c E L a W){g5:Nat}{σ τ:I}(an:look E g5=some σ)(h:∀ v,σ.holds (aU L++c.b7) W v→τ.holds (aU L++c.b7) W v):bL c ((g5,τ)::E) L a W:=by
 refine { s with env:=fun t nW fy=>?_ };simp only [look] at fy;by_cases e:Nat.beq g5 t=true
 ·rw [e] at fy;simp only [cond_true,Option.some.injEq] at fy;subst fy;have:=eQ.1 e;subst this;obtain⟨v,aa,ae⟩:=s.env g5 _ an;exact⟨v,aa,h v ae⟩
 simp only [Bool.not_eq_true] at e;rw [e] at fy;exact s.env t nW fy
theorem bL.SF {a:Act}{W:World}(s:bL c E L a W){i p:Nat}{α:Type}[ak α]{z:α}(al:L[i]? =some ⟨some p,.var z⟩):
 (I.ptr z).holds (aU (L.set i ⟨none,.dead⟩)++c.b7) W (.pointer (some ⟨p,0,none⟩)):=by
 obtain⟨o,fe,cs,T,rfl,aO⟩:=s.own _ (List.mem_of_getElem? al)
 have hlen:cs.toList.length=ak.size α:=ak.len aO
 refine⟨p,0,cs,T,(0,0),rfl,s.Cp al,fe,by simp at hlen;omega,?_⟩
 rw [List.drop_zero,← hlen,List.take_length]
 have lU:=y9 (L:=L) (i:=i) (cp:= .dead)
 exact ak.mono (.drop fun k hm=>by
  rcases List.mem_append.1 hm with hm | hm
  ·exact List.mem_append.2 (.inl (lU.subset hm))
  exact List.mem_append.2 (.inr hm)) aO
abbrev Ey (f p:Nat):Value:= .func (.func f) #[.pointer (some ⟨p,0,none⟩)] #[]
theorem acK {f p:Nat}(ar:ba c E L x (.eq (.pointer (some ⟨p,0,none⟩)))):b9 c E L ⟨d,.makeFunc (.func f) #[x] #[],ty,pos,af,g⟩ (.eq (Ey f p)):= .pure fun a W s=>by
 have h:=ar a W s;refine⟨_,?_,rfl⟩;have de:a.eval x= .pointer (some ⟨p,0,none⟩):=h;simp [execOp,Instr.makeFunc,de,Ey]
theorem aah {f p:Nat}{α β γ δ:Type}[ak α][ak β][ak γ][ak δ]{z:δ}{F:α→β→Option γ}{P:Program}(e5:bA P f)(h:∀ x y r,F x y=some r→bK P f [.ptr z,.of x,.of y] (.of r)){A:List Nat}{W:World}
 (hp:(I.ptr z).holds A W (.pointer (some ⟨p,0,none⟩))):(I.sD P F).holds A W (Ey f p):=
 ⟨f,_,#[],rfl,e5,fun dy W' e hf x y r pY AN mC a6 yb=>by simpa using h x y r mC dy W' [_,pY,AN] hf (.cons (I.mono _ e hp) (.cons a6 (.cons yb .nil)))⟩
theorem b9.Sj {o:Oper}{τ σ:I}{p:Nat}{α:Type}[ak α]{z:α}(i g5:Nat)(an:look E g5=some σ)(a6:∀ A W v,σ.holds A W v→v= .pointer (some ⟨p,0,none⟩))(al:L[i]? =some ⟨some p,.var z⟩)(a2:τ.Flat)
 (h:b9 c ((g5,.ptr z)::E) (L.set i ⟨none,.dead⟩) o τ):b9 c E L o τ:=
 .via a2 (fun a W s=>(s.kill i).tell (σ:=σ) an (fun v cA=>by rw [a6 _ _ _ cA];exact s.SF al)) h
theorem b9.aaW {o:Oper}{τ:I}{p f:Nat}{α β γ δ:Type}[ak α][ak β][ak γ][ak δ]{z:δ}{F:α→β→Option γ}(i g5:Nat)(an:look E g5=some (.eq (Ey f p)))(al:L[i]? =some ⟨some p,.var z⟩)(e5:bA c.P f)
 (mC:∀ x y r,F x y=some r→bK c.P f [.ptr z,.of x,.of y] (.of r)) (a2:τ.Flat) (h:b9 c ((g5,.sD c.P F)::E) (L.set i ⟨none,.dead⟩) o τ):b9 c E L o τ:=
 .via a2 (fun a W s=>(s.kill i).tell an (fun v cA=>by have agn:v=Ey f p:=cA;rw [agn];exact aah e5 mC (s.SF al))) h
theorem b9.acJ {o:Oper}{τ:I}{p cap T:Nat}{key:Option Nat}{β γ:Type}[ak β][ak γ]{b b':β}{xs:List γ}{os os':List (Nat×Value)}(l:aL β (List γ))(i j q:Nat)(gd:Nat.beq i j=false)(al:L[i]? =some ⟨some p,.cm b os⟩)(qP:L[j]? =some ⟨key,.row T xs cap⟩)
 (hq:os[q]? =some (l.off,aV key xs.length cap)) (hb:l.set b xs=b') (pT:sb os l.off=os') (a2:τ.Flat) (h:b9 c E ((L.set j ⟨none,.dead⟩).set i ⟨some p,.cm b' os'⟩) o τ):b9 c E L o τ:=
 .via a2 (fun a W s=>s.lT l (fun e=>by rw [e,Nat.beq_refl] at gd;cases gd) al qP q hq hb pT) h
theorem b9.aaV {o:Oper}{τ:I}{p cap T:Nat}{key:Option Nat}{β γ:Type}[ak β][ak γ]{b b':β}{xs:List γ}{os os':List (Nat×Value)}(l:aL β (List γ))(i j q g5:Nat)(gd:Nat.beq i j=false)(al:L[i]? =some ⟨some p,.cm b os⟩)(qP:L[j]? =some ⟨key,.row T xs cap⟩)
 (hq:os[q]? =some (l.off,aV key xs.length cap)) (hb:l.set b xs=b') (pT:sb os l.off=os') (pQ:look E g5=some (.eq (aV key xs.length cap))) (a2:τ.Flat) (h:b9 c ((g5,.of xs)::E) ((L.set j ⟨none,.dead⟩).set i ⟨some p,.cm b' os'⟩) o τ):b9 c E L o τ:=
 .via a2 (fun a W s=>s.Hc l (fun e=>by rw [e,Nat.beq_refl] at gd;cases gd) al qP q hq hb pT pQ) h
theorem b9.Si {o:Oper}{τ:I}{p:Nat}{β:Type}[ak β]{b:β}(i:Nat)(al:L[i]? =some ⟨some p,.cm b []⟩)(a2:τ.Flat)(h:b9 c E (L.set i ⟨some p,.var b⟩) o τ):b9 c E L o τ:=
 .via a2 (fun a W s=>s.CO (cp':= .var b) al (fun o ⟨cs,T,aa,ae⟩=>⟨cs,T,aa,ae.1⟩) id) h
theorem O2 {P:Program}{T:TypeId}{e:TypeId}(h:P.underlying T=some (.pointer e))(p:Addr)(W:World)(n:Nat):(Op.equalIn (n+1) T (.pointer (some p)) (.pointer none)).run P W= .ok false W:=by
 simp [Op.equalIn,run_underlying h]
theorem GP {p:Addr}{e:TypeId}(hu:c.P.underlying t=some (.pointer e))(ar:ba c E L x (.eq (.pointer (some p)))):b9 c E L ⟨d,.binOp .eql t x (.const (.pointer none)) t2,ty,pos,af,g⟩ (.of false):= .pure fun a W s=>by
 have aR:a.eval (.const (.pointer none))= .pointer none:=rfl;have aa:a.eval x= .pointer (some p):=ar a W s;refine⟨.bool false,?_,of_bool.2 rfl⟩;simp only [execOp,eqGuard,binOp,aa,aR,Op.equal,Op.maxDepth];simp [O2 hu p W 9999]
theorem ZZ {γ:Type}[ak γ]{r:γ}{e:TypeId}(hu:c.P.underlying t=some (.pointer e))(ar:ba c E L x (.ptr r)):b9 c E L ⟨d,.binOp .eql t x (.const (.pointer none)) t2,ty,pos,af,g⟩ (.of false):= .pure fun a W s=>by
 have aR:a.eval (.const (.pointer none))= .pointer none:=rfl;obtain⟨b,off,cur,T,hL,aa,_⟩:=ar a W s;refine⟨.bool false,?_,of_bool.2 rfl⟩;simp only [execOp,eqGuard,binOp,aa,aR,Op.equal,Op.maxDepth];simp [O2 hu _ W 9999]
theorem ag.bB {code:Code}(i:Nat){e:aQ}(h:L[i]? =Option.some e)(k:ag c Q code E (e::L.eraseIdx i)):ag c Q code E L:=fun a W s=>k a W (s.bB h)
theorem ZP {p:Option Addr} :∀ A W v,(I.eq (.pointer p)).holds A W v→v.oneCell'=true:=fun A W v h=>by
 have de:v= .pointer p:=h;rw [de];rfl
def eM (c:dB)(E:List (Nat×I))(L:List aQ)(o:Oper)(τ:I):Prop:=
 ∀ a W,bL c E L a W→hC c.P o a W fun v W'=>bL c E L a W'∧τ.holds (aU L++c.b7) W' v
theorem ah.gF {o:Oper}{rest:List Oper}{d:Nat}{τ:I}(h:eM c E L o τ)(bD:o.guard=none)(hd:o.dst=some d)(aR:Nat.blt d c.n=true)
 (k:ah c ops Q rest ((d,τ)::E) L):ah c ops Q (o::rest) E L:=fun a W s=>
 ik bD (h a W s) fun v W' ⟨f,a6⟩=>by
  rw [hd];exact k _ _ (f.put (by simpa using aR) a6)
theorem ah.we {o:Oper}{rest:List Oper}{d j g:Nat}{b want:Bool}{τ:I}(h:b=want→eM c E L o τ)(bD:o.guard=some (j,want))(aH:(ops[j]?).bind (·.dst)=some g)
 (an:look E g=some (.of b)) (hd:o.dst=some d) (aR:Nat.blt d c.n=true)
 (k:ah c ops Q rest ((d,.cond (b=want) τ)::E) L):ah c ops Q (o::rest) E L:=fun a W s=>by
 have a5:=zt aH an s
 unfold dB.qB wpListIn
 by_cases hb:b=want
 ·rw [if_pos (by simp [Region.wanted,bD,a5,hb])]
  refine((h hb a W s).wpIn fun v W' ⟨f,a6⟩=>?_)
  rw [hd]
  exact k _ _ (f.put (by simpa using aR) ⟨fun _=>a6,fun h=>absurd hb h⟩)
 rw [if_neg (by simp [Region.wanted,bD,a5,hb])]
 rw [hd]
 exact⟨fun _ _=>trivial,k _ _ (s.put (by simpa using aR) ⟨fun h=>absurd h hb,fun _=>rfl⟩)⟩
def qw (L:List aQ):List Nat→List aQ→Prop
 | [],[]=>True
 | i::is,e::es=>L[i]? =some e∧qw L is es
 | _,_=>False
theorem OH {L:List aQ}{i j:Nat}(h:i≠j):(L.eraseIdx i)[if j<i then j else j - 1]? =L[j]? :=by
 rw [List.getElem?_eraseIdx];by_cases aa:j<i
 ·simp [aa]
 have: ¬ (j - 1<i):=by omega
 simp only [aa,if_false,this];congr 1;omega
theorem qw.shift {L:List aQ}{i:Nat} :∀ {is:List Nat} {es:List aQ},qw L is es→i ∉ is→qw (L.eraseIdx i) (is.map fun j=>if j<i then j else j - 1) es
 | [],[],_,_=>trivial
 | j::is,e::es,⟨aa,ae⟩,aR=>by
   simp only [List.mem_cons,not_or] at aR;exact⟨by rw [OH aR.1];exact aa,qw.shift ae aR.2⟩
theorem ON {i:Nat} :∀ {is:List Nat},is.Nodup→i ∉ is→ (is.map fun j=>if j<i then j else j - 1).Nodup
 | [],_,_=>by simp
 | j::is,h,aR=>by
   simp only [List.mem_cons,not_or] at aR;obtain⟨aa,ae⟩:=List.nodup_cons.1 h;refine List.nodup_cons.2 ⟨fun hm=>?_,ON ae aR.2⟩;obtain⟨k,aw,he⟩:=List.mem_map.1 hm;have kB:k≠i:=fun e=>aR.2 (e ▸ aw);have ail:k≠j:=fun e=>aa (e ▸ aw);have ic:j≠i:=fun e=>aR.1 e.symm;have HU:(if k<i then k else k - 1)=(if j<i then j else j - 1):=he;split at HU <;> split at HU <;> omega
theorem qw.perm:∀ {is:List Nat} {es L:List aQ},qw L is es→is.Nodup→ ∃ R,L.Perm (es++R)
 | [],[],L,_,_=>⟨L,List.Perm.refl _⟩
 | i::is,e::es,L,⟨aa,ae⟩,aR=>by
   obtain⟨l5,nY⟩:=List.nodup_cons.1 aR;obtain⟨R,ko⟩:=(ae.shift l5).perm (ON nY l5);exact⟨R,(uT aa).trans (ko.cons e)⟩
 termination_by is=>is.length
 decreasing_by simp
theorem eM.call {f:FuncId}{xs:List Operand}{ats:Array TypeId}{τs:List I}{Lin:List aQ}{ρ:Unit→I}{Lo:Unit→List aQ}(is:List Nat)(e5:bA c.P f)(h:bC c.P f τs Lin ρ Lo)
 (ar:iM c E L xs τs) (aR:decide is.Nodup=true) (hp:qw L is Lin) (an:Lo ()=Lin):eM c E L ⟨d,.call ⟨.value (.func f),xs.toArray,ats⟩,ty,pos,af,g⟩ (ρ ()):=fun a W s=>by
 obtain⟨R,ko⟩:=hp.perm (of_decide_eq_true aR)
 have cr:=s.perm ko
 have yc:=w9 ko
 have H0:∀ k,k∈aU L++c.b7↔k∈aU (Lin++R)++c.b7:=fun k=>by
  simp only [List.mem_append];rw [yc.mem_iff]
 have cA:hk (aU (Lin++R)++c.b7) W τs (xs.map a.eval):=(ar.Rj s).mono (.drop fun k hm=>(H0 k).2 hm)
 have bg:=Cc (d:=d) (ty:=ty) (pos:=pos) (af:=af) (g:=g) (ats:=ats) e5 h cr cA
 unfold hC at bg ⊢
 refine Oper.wp_mono (fun hM W' ⟨v,aa,a9,ae,aG⟩=>⟨v,aa,?_,?_⟩) bg
 ·cases a9;rw [an] at ae;exact ae.perm ko.symm
 cases a9
 rw [an] at aG
 exact I.mono _ (.drop fun k hm=>(H0 k).1 hm) aG
theorem qw.set {L:List aQ}{i j:Nat}{x y aq aX:aQ}(gd:i≠j)(au:L[i]? =some aq)(aH:L[j]? =some aX):∃ R,L.Perm (aq::aX::R)∧ ((L.set i x).set j y).Perm (x::y::R):=by
 have Mr:qw L [i,j] [aq,aX]:=⟨au,aH,trivial⟩;have hle:∀ M:List aQ,∀ u v:aQ,M[i]? =some u→M[j]? =some v→M.Perm (u::v::(M.eraseIdx i).eraseIdx (if j<i then j else j - 1)):=fun M u v aa ae=>
  (uT aa).trans ((uT (by rw [OH gd];exact ae)).cons u)
 refine⟨_,hle L aq aX au aH,?_⟩;have hE:=(List.getElem?_eq_some_iff.1 au).1;have rF:=(List.getElem?_eq_some_iff.1 aH).1;have aa:=hle ((L.set i x).set j y) x y (by rw [List.getElem?_set_ne (Ne.symm gd),List.getElem?_set_self hE]) (by rw [List.getElem?_set_self (by simpa using rF)]);have ae:((L.set i x).set j y).eraseIdx i=(L.eraseIdx i).set (if j<i then j else j - 1) y:=by
  apply List.ext_getElem?;intro k;simp only [List.getElem?_eraseIdx,List.getElem?_set,List.length_set,List.length_eraseIdx,hE,if_true];by_cases aw:k<i <;> by_cases ic:j<i <;> simp only [aw,ic,if_true,if_false] <;> (repeat' split) <;> first | rfl | omega | skip
 rw [ae,List.eraseIdx_set_eq] at aa;exact aa
theorem ah.aaX {rest:List Oper}{a9:Nat}{f:FuncId}{xs:List Operand}{ats:Array TypeId}{τs:List I}{aq aX:aQ}{δ:Type}{ρ:δ→I}{Lo:δ→List aQ}(lo:δ→aQ)(i j:Nat)(e5:bA c.P f)(h:bC c.P f τs [aq,aX] ρ Lo)
 (ar:iM c E L xs τs) (gd:Nat.beq i j=false) (au:L[i]? =some aq) (aH:L[j]? =some aX) (g1:∀ q,Lo q= [lo q]) (aR:Nat.blt a9 c.n=true) (k:∀ q,ah c ops Q rest ((a9,ρ q)::E) ((L.set i (lo q)).set j ⟨none,.dead⟩)):
 ah c ops Q (⟨some a9,.call ⟨.value (.func f),xs.toArray,ats⟩,ty,pos,af,none⟩::rest) E L:=fun a W s=>by
 have db:i≠j:=fun e=>by rw [e,Nat.beq_refl] at gd;cases gd
 obtain⟨R,ko,_⟩:=qw.set (x:=aq) (y:=aX) db au aH
 have cr:=s.perm ko
 have yc:=w9 ko
 have H0:∀ k,k∈aU L++c.b7↔k∈aU ([aq,aX]++R)++c.b7:=fun k=>by
  simp only [List.mem_append];rw [yc.mem_iff];simp [ft]
 have cA:hk (aU ([aq,aX]++R)++c.b7) W τs (xs.map a.eval):=(ar.Rj s).mono (.drop fun k hm=>(H0 k).2 hm)
 refine ik rfl (Cc (Lin:= [aq,aX]) e5 h cr cA) fun v W' ⟨q,ae,aG⟩=>?_
 refine k q _ _ ?_
 obtain⟨It,ago,T5⟩:=qw.set (x:=lo q) (y:=⟨none,.dead⟩) db au aH
 have agp:(aq::aX::R).Perm (aq::aX::It):=ko.symm.trans ago
 have Tz:R.Perm It:=(agp.cons_inv).cons_inv
 rw [g1] at ae aG
 have a0:bL c E (lo q::⟨none,.dead⟩::R) a W':= { ae with
  own:=fun e he=>by
   simp only [List.mem_cons] at he;rcases he with rfl | rfl | he
   ·exact ae.own _ (by simp)
   ·trivial
   exact ae.own _ (by simp [he]) }
 have a7:bL c E ((L.set i (lo q)).set j ⟨none,.dead⟩) a W':=a0.perm (((Tz.cons _).cons _).trans T5.symm)
 have bn:(aU ((L.set i (lo q)).set j ⟨none,.dead⟩)).Perm (aU (lo q::R)):=by
  have:=w9 (T5.trans ((Tz.symm.cons _).cons _));simpa [aU] using this
 refine a7.put (by simpa using aR) (I.mono _ (.drop fun k hm=>?_) aG)
 rcases List.mem_append.1 hm with hm | hm
 ·exact List.mem_append.2 (.inl (bn.mem_iff.1 hm))
 exact List.mem_append.2 (.inr hm)
theorem Mi {L:List aQ}{i:Nat}{x e:aQ}(h:L[i]? =some x):(L.set i e)[i]? =some e:=by
 rw [List.getElem?_set_self (List.getElem?_eq_some_iff.1 h).1]
theorem TO {L:List aQ}{i j:Nat}{r:Option aQ}{e:aQ}(aR:Nat.beq j i=false)(h:L[i]? =r):(L.set j e)[i]? =r:=by
 rw [List.getElem?_set_ne (fun e=>by rw [e,Nat.beq_refl] at aR;cases aR)];exact h
theorem Zm {p lo cap:Nat}{α:Type}[ak α](a5:ba c E L y (.eq (iO (some p) lo 0 cap (ak.size α)))):Src c E L y 0 ([]:List α):=fun a W s=>by
 have aa:a.eval y=_:=a5 a W s;have aj:=run_loadCells_list (P:=c.P) W (if cap=lo then(⟨p,0,none⟩:Addr) else⟨p,lo * ak.size α,none⟩) [] (fun j v a6=>by simp at a6);refine⟨by rw [aa];rfl,[],?_,⟨by simp,fun i au=>by simp at au⟩,by simp⟩;rw [aa];simp only [iO,Builtin.firstCells,List.length_nil,Nat.zero_mul];exact aj
theorem ah.SG {rest:List Oper}{i e p a9 m N cap T:Nat}{α:Type}[ak α]{xs vs r:List α}(hu:c.P.underlying t=some (.slice e))(fi:bF c.P e α)
 (ar:ba c E L x (.eq (aV (some p) m cap))) (a5:Src c E L y N vs) (k4:vs.length=N) (al:L[i]? =some ⟨some p,.row T xs cap⟩) (hm:m+N≤xs.length) (aO:xs.take m++vs++xs.drop (m+N)=r) (aR:Nat.blt a9 c.n=true)
 (k:ah c ops Q rest ((a9,.eq (aV (some p) (m+N) cap))::E) (L.set i ⟨some p,.row T r cap⟩)):
 ah c ops Q (⟨some a9,.call ⟨.builtin .append,#[x,y],#[t,t]⟩,ty,pos,af,none⟩::rest) E L:=fun a W s=>by
 subst k4
 subst aO
 have aa:a.eval x=_:=ar a W s
 obtain⟨an,cells,aj,pS,AA⟩:=a5 a W s
 obtain⟨o,bg,cA⟩:=s.own _ (List.mem_of_getElem? al)
 have agq:=cA
 obtain⟨sJ,rfl,ao,a3,bx,c0⟩:=cA
 obtain⟨cs,e9,Hz,qu⟩:=JL (lo:=m) hm agq pS
 have ru:cs=sJ:=by injection e9 with h _;exact h.symm
 subst ru
 obtain⟨gS,eY,eL⟩:=fi.info
 have eu:=run_storeCells_at (P:=c.P) p (m * ak.size α) T cells 0 cs W bg Hz AA
 simp only [Nat.add_zero] at eu
 have ac8:m+vs.length≤cap:=by omega
 have ja:(execOp a.eval ⟨some a9,.call ⟨.builtin .append,#[x,y],#[t,t]⟩,ty,pos,af,none⟩).run c.P W= .ok (.value (aV (some p) (m+vs.length) cap)) (W.setRow p (cs.toList.take (m * ak.size α)++cells++cs.toList.drop (m * ak.size α+cells.length)).toArray):=by
  simp [execOp,resolve,invoke,builtin,Builtin.append_,aa,aV,run_underlying hu,an,Go.sizeOf,typeInfo,eY,eL,ac8,aj,ka,eu]
 refine ik rfl (R:=fun v h4=>v=aV (some p) (m+vs.length) cap∧h4=W.setRow p (cs.toList.take (m * ak.size α)++cells++cs.toList.drop (m * ak.size α+cells.length)).toArray) (.lv ja ⟨rfl,rfl⟩) fun v h4 ⟨a6,hw⟩=>?_
 subst a6
 subst hw
 exact k _ _ ((s.store al bg qu).put (by simpa using aR) rfl)
theorem Y4 {i T cap:Nat}{key:Option Nat}{α:Type}[ak α]{xs:List α}{e:TypeId}{lo au NH:Operand}{m n k:Nat}(hu:c.P.underlying t=some (.slice e))(fi:bF c.P e α)(ar:ba c E L x (.eq (aV key xs.length cap)))
 (al:L[i]? =some ⟨key,.row T xs cap⟩) (g1:ba c E L lo (.of (m:Int))) (eX:ba c E L au (.of (n:Int))) (agr:ba c E L NH (.of (k:Int))) (h:m≤n∧n≤k∧k≤xs.length):
 b9 c E L ⟨d,.slice t x (some lo) (some au) (some NH),ty,pos,af,g⟩ .any:= .pure fun a W s=>by
 obtain⟨ae,aG,a0⟩:=h
 obtain⟨gS,eY,eL⟩:=fi.info
 have aa:a.eval x=_:=ar a W s
 have aq:=of_int.1 (g1 a W s)
 have aX:=of_int.1 (eX a W s)
 have dd:=of_int.1 (agr a W s)
 have vy:∃ ahw uB,aV key xs.length cap= .slice ahw uB cap∨ (aV key xs.length cap= .slice none 0 0∧k=0):=by
  cases key with
  | some p=>exact⟨_,_,.inl rfl⟩
  | none=>
    have bg:=s.own _ (List.mem_of_getElem? al)
    have iv:xs= []:=bg.1
    subst iv
    exact⟨none,0,.inr ⟨rfl,by simpa using a0⟩⟩
 have ags:xs.length≤cap∨key=none:=by
  cases key with
  | none=>exact .inr rfl
  | some p=>
    obtain⟨o,bg,cs,rfl,ao,a3,_⟩:=s.own _ (List.mem_of_getElem? al)
    exact .inl a3
 cases key with
 | none=>
   have bg:=s.own _ (List.mem_of_getElem? al)
   have iv:xs= []:=bg.1
   subst iv
   have MM:k=0:=by simpa using a0
   subst MM
   have sH:n=0:=by omega
   subst sH
   have ha:m=0:=by omega
   subst ha
   have hb:∀ (code:BoundsCode),(Instr.sliceBound (.int .i64 0) 0 code).run c.P W= .ok 0 W:=fun code=>qa (n:=0) (m:=0) (Nat.le_refl _) rfl
   have agt:a.eval lo= .int .i64 0:=aq
   have agu:a.eval au= .int .i64 0:=aX
   have agv:a.eval NH= .int .i64 0:=dd
   refine⟨.slice none 0 0,?_,trivial⟩
   simp [execOp,Instr.sliceAt,Instr.slice,Instr.sliceBounds,aa,aV,run_underlying hu,Go.sizeOf,typeInfo,eY,agt,agu,agv,hb]
 | some p=>
   have aft:k≤cap:=by
    rcases ags with h | h
    ·omega
    cases h
   refine⟨.slice (some (if k=m then⟨p,0,none⟩ else⟨p,m * ak.size α,none⟩)) (n - m) (k - m),?_,trivial⟩
   have hb:∀ (a b:Nat) (code:BoundsCode),a≤b→ (Instr.sliceBound (.int .i64 (a:Int)) b code).run c.P W= .ok a W:=fun a b code h=>qa h rfl
   simp [execOp,Instr.sliceAt,Instr.slice,Instr.sliceBounds,aa,aV,run_underlying hu,Go.sizeOf,typeInfo,eY,eL,aq,aX,dd,hb k cap _ aft,hb n k _ aG,hb m n _ ae,ka]
   split <;> rfl
theorem aaM {p n cap e:Nat}(hu:c.P.underlying t=some (.slice e))(ar:ba c E L x (.eq (aV (some p) n cap))):b9 c E L ⟨d,.call ⟨.builtin .len,#[x],#[t]⟩,ty,pos,af,g⟩ (.of (n:Int)):= .pure fun a W s=>by
 have aa:a.eval x=_:=ar a W s;refine⟨.int .i64 n,?_,of_int.2 rfl⟩;simp [execOp,resolve,invoke,builtin,Builtin.len_,aa,aV,run_underlying hu,goInt]
theorem ah.aaL {rest:List Oper}{i e p a9 m n cap T:Nat}{α:Type}[ak α]{xs:List α}(hu:c.P.underlying t=some (.slice e))(fi:bF c.P e α)
 (ar:ba c E L x (.eq (iO (some p) 0 (m - 0) cap (ak.size α)))) (a5:ba c E L y (.eq (iO (some p) n (xs.length - n) cap (ak.size α)))) (al:L[i]? =some ⟨some p,.row T xs cap⟩) (sC:m<n) (aR:n≤xs.length) (hd:Nat.blt a9 c.n=true)
 (k:ah c ops Q rest ((a9,.eq (aV (some p) (m+(xs.length - n)) cap))::E) (L.set i ⟨some p,.row T (xs.take m++xs.drop n++xs.drop (m+(xs.length - n))) cap⟩)):
 ah c ops Q (⟨some a9,.call ⟨.builtin .append,#[x,y],#[t,t]⟩,ty,pos,af,none⟩::rest) E L:=by
 have lF:ba c E L x (.eq (aV (some p) m cap)):=by
  rw [Cg,Nat.sub_zero] at ar;exact ar
 rcases Nat.lt_or_ge n xs.length with nX | nX
 ·have hs:=GB (k:=xs.length - n) a5 al (by omega) (by omega)
  rw [show(xs.drop n).take (xs.length - n)=xs.drop n by rw [List.take_of_length_le (by simp)]] at hs
  exact ah.SG hu fi lF hs (by simp) al (by omega) rfl hd k
 have bO:xs.length - n=0:=by omega
 rw [bO] at a5 k
 have hs:=Zm (α:=α) a5
 rw [show([]:List α)=xs.drop n by rw [List.drop_of_length_le nX]] at hs
 exact ah.SG hu fi lF hs (by simp;omega) al (by omega) rfl hd k
theorem ad.again {z:Exit}{key:Option Nat}{cp:eg}(cp':eg)(i:Nat)(al:L[i]? =some ⟨key,cp⟩)(h:∀ A W o,cp.holds A W o→cp'.holds A W o)(aR:cp.nL→cp'.nL)(k:ad c Q z E (L.set i ⟨key,cp'⟩)):ad c Q z E L:=fun a W s=>
 k a W (s.again al h aR)
end
def DM {α:Type}(xs:List α)(i j:Int):Option (List α):=if 0≤i∧i≤j∧j≤xs.length then some (xs.take i.toNat++xs.drop j.toNat) else none
theorem X8 {α:Type}{xs r:List α}{i j:Int}(h:DM xs i j=some r):∃ m n:Nat,i=m∧j=n∧m≤n∧n≤xs.length∧r=xs.take m++xs.drop n:=by
 unfold DM at h;split at h
 ·rename_i aj;refine⟨i.toNat,j.toNat,by omega,by omega,by omega,by omega,?_⟩;cases h;rfl
 cases h
abbrev av (α:Type):=(α→Prop)→Prop
def av.of {α:Type}(o:Option α):av α:=fun Q=> ∃ r,o=some r∧Q r
def av.bind {α β:Type}(m:av α)(k:α→av β):av β:=fun Q=>m fun r=>k r Q
def av.ret {α:Type}(x:α):av α:=fun Q=>Q x
def oi {σ ε:Type} :Nat→ (σ→av (σ ⊕ ε))→σ→av ε
 | 0,_,_=>fun _=>False
 | n+1,b,s=>fun Q=>b s fun r=>match r with
   | .inl cr=>oi n b cr Q
   | .inr e=>Q e
abbrev aN (ca:Type):=List (Nat×ca)
abbrev Ref:=Option Nat
instance ahO:ak Ref:= .scalar (fun x=>Value.pointer (x.map fun p=>⟨p,0,none⟩)) fun _=>rfl
theorem vf {A W v}{x:Ref} :(I.of x).holds A W v↔v= .pointer (x.map fun p=>⟨p,0,none⟩):=
 ⟨fun h=>pw h.1 h.2,fun h=>by subst h;exact⟨rfl,rfl⟩⟩
instance:bh Ref:=⟨[.pointer none],fun _ _=>rfl⟩
def av.mk {ca:Type}(hp:aN ca)(k:ca):av (Nat×aN ca):=fun Q=> ∀ a:Nat×aN ca,a.1 ∉ hp.map (·.1)∧a.2=(a.1,k)::hp→Q a
theorem av.r6 {ca α:Type}{hp:aN ca}{c:ca}{k:Nat×aN ca→av α}{R:α→Prop}(h:av.bind (av.mk hp c) k R)(a:Nat×aN ca)(bb:a.1 ∉ hp.map (·.1)∧a.2=(a.1,c)::hp):k a R:=h a bb
class fC (ca:Type) where
 ir:Nat→ca→List aQ
 root:∀ p k,∃ e∈ir p k,e.key=some p
def aS {ca:Type}[fC ca]:aN ca→List aQ
 | []=>[]
 | (p,k)::r=>fC.ir p k++aS r
def pat {ca:Type} :aN ca→Nat→Option ca
 | [],_=>none
 | (q,k)::r,p=>if q=p then some k else pat r p
def dr {ca:Type} :aN ca→Nat→ca→aN ca
 | [],_,_=>[]
 | (q,k)::r,p,k'=>if q=p then(q,k')::r else(q,k)::dr r p k'
def eZ {ca:Type}(hp:aN ca):List Nat:=hp.map (·.1)
theorem wY {ca:Type}[fC ca]:∀ {hp:aN ca} {p:Nat} {k:ca},pat hp p=some k→ ∃ R,(aS hp).Perm (fC.ir p k++R)∧ ∀ k',(aS (dr hp p k')).Perm (fC.ir p k'++R)
 | [],_,_,h=>by simp [pat] at h
 | (q,rQ)::r,p,k,h=>by
   simp only [pat] at h;split at h
   ·rename_i e;subst e;simp only [Option.some.injEq] at h;subst h;exact⟨aS r,.refl _,fun k'=>by simp only [dr,if_pos];exact .refl _⟩
   rename_i e;obtain⟨R,aa,ae⟩:=wY h;refine⟨fC.ir q rQ++R,?_,fun k'=>?_⟩
   ·exact(aa.append_left (fC.ir q rQ)).trans (by rw [← List.append_assoc,← List.append_assoc];exact List.perm_append_comm.append_right R)
   simp only [dr,if_neg e];exact((ae k').append_left (fC.ir q rQ)).trans (by rw [← List.append_assoc,← List.append_assoc];exact List.perm_append_comm.append_right R)
theorem Rk {ca:Type}[fC ca]{hp:aN ca}{p:Nat}(h:p∈eZ hp):p∈aU (aS hp):=by
 induction hp with
 | nil=>simp [eZ] at h
 | cons x r b6=>
   obtain⟨q,k⟩:=x
   simp only [eZ,List.map_cons,List.mem_cons] at h
   simp only [aS,ft,List.mem_append]
   rcases h with h | h
   ·subst h
    obtain⟨e,he,aw⟩:=fC.root p k
    exact .inl (mi.2 ⟨e,he,aw⟩)
   exact .inr (b6 h)
theorem jF {ca:Type}{hp:aN ca}{p:Nat}{k:ca}(h:pat hp p=some k):p∈eZ hp:=by
 induction hp with
 | nil=>simp [pat] at h
 | cons x r b6=>
   simp only [pat] at h
   split at h
   ·rename_i e;simp [eZ,e]
   simp only [eZ,List.map_cons,List.mem_cons];exact .inr (b6 h)
theorem sd {ca:Type}{hp:aN ca}{p:Nat}{k:ca} :eZ (dr hp p k)=eZ hp:=by
 induction hp with
 | nil=>rfl
 | cons x r b6=>simp only [dr];split <;> simp_all [eZ]
theorem CB {ca:Type}{hp:aN ca}{p q:Nat}{k:ca} :pat (dr hp p k) q=if p=q then(pat hp p).map (fun _=>k) else pat hp q:=by
 induction hp with
 | nil=>simp [dr,pat]
 | cons x r b6=>
   simp only [dr]
   by_cases e:x.1=p
   ·rw [if_pos e]
    by_cases h:p=q
    ·simp [pat,e,h]
    have: ¬ x.1=q:=fun de=>h (e ▸ de)
    simp [pat,e,h]
   rw [if_neg e]
   by_cases h:p=q
   ·subst h
    rw [if_pos rfl] at b6 ⊢
    simp [pat,e,b6]
   rw [if_neg h] at b6 ⊢
   simp [pat,b6]
section
variable {c:dB} {E:List (Nat×I)} {L:List aQ} {ops:Array Oper} {Q:Exit→Act→World→Prop}
variable {d:Option Tmp} {ty:TypeId} {pos:String} {af:Array Edge} {g:Option (Nat×Bool)} {x y:Operand} {t t2:TypeId}
theorem Zn {L L':List aQ}(p:L.Perm L'){A:List Nat}(k:Nat):k∈aU L++A↔k∈aU L'++A:=by
 simp only [List.mem_append];rw [(w9 p).mem_iff]
theorem oO {L L':List aQ}(p:L.Perm L'){A:List Nat}{W:World} :Ext (aU L++A) W (aU L'++A) W:= .drop fun k hm=>(Zn p k).2 hm
theorem ba.perm {L':List aQ}{x:Operand}{τ:I}(p:L.Perm L')(h:ba c E L x τ):ba c E L' x τ:=fun a W s=>
 τ.mono (oO p) (h a W (s.perm p.symm))
theorem ah.perm {l:List Oper}{L':List aQ}(p:L.Perm L')(h:ah c ops Q l E L):ah c ops Q l E L':=fun a W s=>h a W (s.perm p.symm)
theorem dY {x:Operand}{r:Ref}{p:Nat}(ar:ba c E L x (.of r))(h:r=some p):ba c E L x (.eq (.pointer (some ⟨p,0,none⟩))):=fun a W s=>by
 subst h;exact vf.1 (ar a W s)
theorem p9:ba c E L (.const (.pointer none)) (.of (none:Ref)):=fun a W s=>vf.2 rfl
variable {ca:Type} [fC ca] {hp:aN ca} {loc:List aQ}
theorem er {p n:Nat}{k:ca}{e:aQ}(al:L.drop n=aS hp)(h:pat hp p=some k)(aw:fC.ir p k= [e]):e∈L:=by
 obtain⟨R,aa,_⟩:=wY h;rw [aw] at aa;have:e∈L.drop n:=by rw [al];exact aa.mem_iff.2 (by simp)
 exact List.mem_of_mem_drop this
theorem jS {L':List aQ}{e:aQ}(al:∀ (i:Nat) (e:aQ),L[i]? =some e→L'[i]? =some e)(h:e∈L):e∈L':=by
 obtain⟨i,au⟩:=List.mem_iff_getElem?.1 h;exact List.mem_of_getElem? (al i e au)
theorem fo {x:Operand}{t:TypeId}{p o:Nat}{β γ:Type}[ak β][ak γ]{b:β}(l:aL β γ){r:γ}(eN:bF c.P t γ)(ar:ba c E L x (.eq (.pointer (some ⟨p,o,none⟩))))
 (hm:(⟨some p,.var b⟩:aQ)∈L) (bg:o=l.off) (aO:l.get b=r):b9 c E L ⟨d,.load t x,ty,pos,af,g⟩ (.of r):=by
 obtain⟨i,au⟩:=List.mem_iff_getElem?.1 hm
 exact dJ (i:=i) l eN ar au bg aO
theorem ah.aai {x y:Operand}{t:TypeId}{rest:List Oper}{p o:Nat}{k k':ca}{β γ:Type}[ak β][ak γ]{b b':β}{v:γ}(l:aL β γ)(eN:bF c.P t γ)(ar:ba c E (loc++aS hp) x (.eq (.pointer (some ⟨p,o,none⟩))))
 (a5:ba c E (loc++aS hp) y (.of v)) (hp':pat hp p=some k) (aw:fC.ir p k= [⟨some p,.var b⟩]) (iR:fC.ir p k'= [⟨some p,.var b'⟩]) (bg:o=l.off) (hb:l.set b v=b')
 (n5:ah c ops Q rest E (loc++aS (dr hp p k'))):ah c ops Q (⟨none,.store t x y,ty,pos,af,none⟩::rest) E (loc++aS hp):=by
 obtain⟨R,aa,ae⟩:=wY hp'
 have ae:=ae k'
 rw [aw] at aa
 rw [iR] at ae
 have cY:∀ {z:β} {M:List aQ},M.Perm ([⟨some p,.var z⟩]++R)→ (loc++M).Perm (⟨some p,.var z⟩::(loc++R)):=fun h=>(h.append_left loc).trans (by simp only [List.singleton_append];exact List.perm_middle)
 exact ah.perm (cY aa).symm (ah.store (i:=0) l eN (ar.perm (cY aa)) (a5.perm (cY aa)) rfl bg hb (ah.perm (cY ae) n5))
theorem ah.nI {x y:Operand}{t:TypeId}{rest:List Oper}{p o:Nat}{k k':ca}{di:aN ca}{β γ:Type}[ak β][ak γ]{b b':β}{v:γ}(n:Nat)(al:L.drop n=aS hp)(l:aL β γ)(eN:bF c.P t γ)(ar:ba c E L x (.eq (.pointer (some ⟨p,o,none⟩))))(a5:ba c E L y (.of v))(hp':pat hp p=some k)(aw:fC.ir p k= [⟨some p,.var b⟩])(iR:fC.ir p k'= [⟨some p,.var b'⟩])(bg:o=l.off)(hb:l.set b v=b')(dI:dr hp p k'=di)(n5:ah c ops Q rest E (L.take n++aS di)):ah c ops Q (⟨none,.store t x y,ty,pos,af,none⟩::rest) E L:=by
 subst dI;have e:L=L.take n++aS hp:=by rw [← al,List.take_append_drop]
 clear al;generalize L.take n=loc at *;subst e;exact ah.aai l eN ar a5 hp' aw iR bg hb n5
theorem bL.fresh {a:Act}{W:World}(s:bL c E (loc++aS hp) a W):W.heap.size ∉ eZ hp:=fun h=>by
 have:=s.lt _ (by rw [ft];exact List.mem_append.2 (.inr (Rk h)));omega
theorem ah.ac9 {t:TypeId}{x:Operand}{rest:List Oper}{a9:Nat}{α:Type}[ak α]{z:α}(mk:ca)(aw:∀ p,fC.ir p mk= [⟨some p,.var z⟩])(ar:ba c E (loc++aS hp) x (.of z))(aR:Nat.blt a9 c.n=true)
 (k:∀ p,p ∉ eZ hp→ah c ops Q rest ((a9,.of (some p:Ref))::E) (loc++aS ((p,mk)::hp))):ah c ops Q (⟨some a9,.box t x,ty,pos,af,none⟩::rest) E (loc++aS hp):=fun a W s=>by
 refine ik rfl (R:=fun v W'=>v= .pointer (some ⟨W.heap.size,0,none⟩)∧W'=W.alloc (.cells (a.eval x).cells t)) (.lv ?_ ⟨rfl,rfl⟩) fun v W' ⟨a6,hw⟩=>?_
 ·simp [execOp,Instr.box,newVar,newRow]
 subst a6
 subst hw
 refine k _ s.fresh _ _ (bL.put ?_ (by simpa using aR) (vf.2 rfl))
 refine(s.alloc (cp:= .var z) ⟨_,t,rfl,(ar a W s).2⟩).perm ?_
 simp only [aS,aw,List.singleton_append]
 exact List.perm_middle.symm
theorem ah.z4 {t:TypeId}{x:Operand}{rest:List Oper}{a9:Nat}{α:Type}[ak α]{z:α}(n:Nat)(al:L.drop n=aS hp)(mk:ca)(aw:∀ p,fC.ir p mk= [⟨some p,.var z⟩])(ar:ba c E L x (.of z))(aR:Nat.blt a9 c.n=true)(k:∀ a:Nat×aN ca,a.1 ∉ hp.map (·.1)∧a.2=(a.1,mk)::hp→ah c ops Q rest ((a9,.of (some a.1:Ref))::E) (L.take n++aS a.2)):ah c ops Q (⟨some a9,.box t x,ty,pos,af,none⟩::rest) E L:=by
 have e:L=L.take n++aS hp:=by rw [← al,List.take_append_drop]
 clear al;generalize L.take n=loc at *;subst e;exact ah.ac9 mk aw ar aR fun p h=>k (p,(p,mk)::hp) ⟨h,rfl⟩
theorem oP {A B C:List aQ} :((A++B)++C).Perm ((A++C)++B):=by
 rw [List.append_assoc,List.append_assoc];exact List.perm_append_comm.append_left A
theorem ah.hG {rest:List Oper}{a9:Nat}{f:FuncId}{xs:List Operand}{ats:Array TypeId}{τs:List I}{Lin Lr:List aQ}{δ:Type}{ρ:δ→I}{Lo:δ→List aQ}{hq:δ→aN ca}(e5:bA c.P f)(h:bC c.P f τs (Lin++aS hp) ρ (fun d=>Lo d++aS (hq d)))
 (ar:iM c E ((Lin++Lr)++aS hp) xs τs) (aR:Nat.blt a9 c.n=true) (k:∀ q,ah c ops Q rest ((a9,ρ q)::E) ((Lo q++Lr)++aS (hq q))):
 ah c ops Q (⟨some a9,.call ⟨.value (.func f),xs.toArray,ats⟩,ty,pos,af,none⟩::rest) E ((Lin++Lr)++aS hp):=fun a W s=>
 ik rfl (Cc (Lr:=Lr) e5 h (s.perm oP) ((ar.holds a W s).mono (oO oP))) fun v W' ⟨q,cr,a6⟩=>
  k q _ _ ((cr.perm oP).put (by simpa using aR) ((ρ q).mono (oO oP) a6))
theorem ah.g8 {rest:List Oper}{a9:Nat}{f:FuncId}{xs:List Operand}{ats:Array TypeId}{τs:List I}{Lin Lr:List aQ}{δ:Type}{ρ:δ→I}{Lo:δ→List aQ}{hq:δ→aN ca}(n m:Nat)(al:L.drop n=aS hp)(e5:bA c.P f)(h:bC c.P f τs (Lin++aS hp) ρ (fun d=>Lo d++aS (hq d)))
 (aa:(L.take n).take m=Lin) (ae:(L.take n).drop m=Lr) (ar:iM c E L xs τs) (aR:Nat.blt a9 c.n=true) (k:∀ q,ah c ops Q rest ((a9,ρ q)::E) ((Lo q++Lr)++aS (hq q))):
 ah c ops Q (⟨some a9,.call ⟨.value (.func f),xs.toArray,ats⟩,ty,pos,af,none⟩::rest) E L:=by
 have e:L=(Lin++Lr)++aS hp:=by rw [← aa,← ae,List.take_append_drop,← al,List.take_append_drop]
 clear al aa ae
 subst e
 exact ah.hG e5 h ar aR k
theorem eM.aa8 {f:FuncId}{xs:List Operand}{ats:Array TypeId}{τs:List I}{ρ:I}(e5:bA c.P f)(h:bC c.P f τs (aS hp) (fun _:Unit=>ρ) (fun _=>aS hp))
 (ar:iM c E (loc++aS hp) xs τs):eM c E (loc++aS hp) ⟨d,.call ⟨.value (.func f),xs.toArray,ats⟩,ty,pos,af,g⟩ ρ:=fun a W s=>by
 have cY:(loc++aS hp).Perm (aS hp++loc):=List.perm_append_comm
 have bg:=Cc (d:=d) (ty:=ty) (pos:=pos) (af:=af) (g:=g) (ats:=ats) (Lr:=loc) e5 h (s.perm cY) ((ar.holds a W s).mono (oO cY))
 unfold hC at bg ⊢
 exact Oper.wp_mono (fun hM W' ⟨v,aa,_,ae,aG⟩=>⟨v,aa,ae.perm cY.symm,ρ.mono (oO cY.symm) aG⟩) bg
theorem eM.hG {f:FuncId}{xs:List Operand}{ats:Array TypeId}{τs:List I}{ρ:I}(n:Nat)(al:L.drop n=aS hp)(e5:bA c.P f)(h:bC c.P f τs (aS hp) (fun _:Unit=>ρ) (fun _=>aS hp))(ar:iM c E L xs τs):eM c E L ⟨d,.call ⟨.value (.func f),xs.toArray,ats⟩,ty,pos,af,g⟩ ρ:=by
 have e:L=L.take n++aS hp:=by rw [← al,List.take_append_drop]
 clear al;generalize L.take n=loc at *;subst e;exact eM.aa8 e5 h ar
theorem Jb {P:Program}{e:TypeId}(W:World)(n:Nat){t:TypeId}(a:Option Addr)(h:P.underlying t=some (.pointer e)):(Op.equalIn (n+1) t (.pointer a) (.pointer none)).run P W= .ok a.isNone W:=by
 cases a <;> simp [Op.equalIn,run_underlying h]
theorem lO {r:Ref}{e:TypeId}(hu:c.P.underlying t=some (.pointer e))(ar:ba c E L x (.of r)):b9 c E L ⟨d,.binOp .eql t x (.const (.pointer none)) t2,ty,pos,af,g⟩ (.of r.isNone):= .pure fun a W s=>by
 have aa:=vf.1 (ar a W s);refine⟨.bool r.isNone,?_,of_bool.2 rfl⟩;have aR:a.eval (.const (.pointer none))= .pointer none:=rfl;simp only [execOp,eqGuard,binOp,aa,aR,Op.equal,Op.maxDepth];have:=Jb (P:=c.P) W 9999 (r.map fun p=>⟨p,0,none⟩) hu;simp only [Option.isNone_map] at this;simp [this]
theorem Cf {r:Ref}{e:TypeId}(hu:c.P.underlying t=some (.pointer e))(ar:ba c E L x (.of r)):b9 c E L ⟨d,.binOp .neq t x (.const (.pointer none)) t2,ty,pos,af,g⟩ (.of r.isSome):= .pure fun a W s=>by
 have aa:=vf.1 (ar a W s);refine⟨.bool r.isSome,?_,of_bool.2 rfl⟩;have aR:a.eval (.const (.pointer none))= .pointer none:=rfl;simp only [execOp,eqGuard,binOp,aa,aR,Op.equal,Op.maxDepth];have:=Jb (P:=c.P) W 9999 (r.map fun p=>⟨p,0,none⟩) hu;simp only [Option.isNone_map] at this;simp [this]
end
theorem XL {P:Program}{t e el:TypeId}{n:Nat}(h:P.underlying t=some (.array n e))(fi:bF P e Ref)(hu:P.underlying e=some (.pointer el)){A:List Nat}{W:World}{u v:Value}{x y:Vector Ref n}(ar:(I.of x).holds A W u)(a5:(I.of y).holds A W v)
 (aR:∀ i,i<n→bH y i=none) (d:Nat) (hd:2≤d):(Op.equalIn d t u v).run P W= .ok (decide (x=y)) W:=by
 obtain⟨d,rfl⟩:∃ e,d=e+1:=⟨d - 1,by omega⟩
 obtain⟨aa,ae⟩:=ar
 obtain⟨aG,a0⟩:=a5
 obtain⟨xs,rfl⟩:∃ cs,u= .agg cs:=by simpa [shaped,ak.agg] using aa
 obtain⟨ys,rfl⟩:∃ cs,v= .agg cs:=by simpa [shaped,ak.agg] using aG
 simp only [Value.cells] at ae a0
 have uf:xs.toList.length=n * ak.size Ref:=ak.len ae
 have Ei:ys.toList.length=n * ak.size Ref:=ak.len a0
 have tA:∀ i∈List.range' 0 n,((do
  let a ← part e xs (i * ak.size Ref)
  let b ← part e ys (i * ak.size Ref)
  Op.equalIn d e a b):Sem Bool).run P W= .ok (decide (bH x i=bH y i)) W:=by
  intro i au
  have hE:i<n:=by simpa using au
  have fc:i * ak.size Ref+ak.size Ref≤n * ak.size Ref:=(aL.idx (α:=Ref) n i hE).gZ
  obtain⟨a,bb,ug⟩:=r5 (A:=A) (P:=P) (W:=W) (cs:=xs) (off:=i * ak.size Ref) fi (by simp at uf;omega) ((aL.idx (α:=Ref) n i hE).jh ae)
  obtain⟨b,hb,Ej⟩:=r5 (A:=A) (P:=P) (W:=W) (cs:=ys) (off:=i * ak.size Ref) fi (by simp at Ei;omega) ((aL.idx (α:=Ref) n i hE).jh a0)
  simp only [Sem.run_bind,bb,hb,Result.andThen_ok]
  obtain⟨d,rfl⟩:∃ e,d=e+1:=⟨d - 1,by omega⟩
  have aq:=vf.1 ug
  have aX:=vf.1 Ej
  subst aq;subst aX
  have agw:(aL.idx (α:=Ref) n i hE).get y=none:=aR i hE
  rw [agw,Option.map_none,Jb W d _ hu]
  have dd:bH y i=none:=aR i hE
  rw [dd]
  show Result.ok ((bH x i).map _).isNone W=_
  congr 1
  cases bH x i <;> rfl
 have a2:=Ja (P:=P) (W:=W) _ _ _ tA
 have kR:(List.range' 0 n).all (fun i=>decide (bH x i=bH y i))=decide (x=y):=by
  rw [Bool.eq_iff_iff,List.all_eq_true,decide_eq_true_eq];constructor
  ·intro h;apply Vector.ext;intro i au;have:=h i (by simpa using au);simpa [bH,au] using this
  rintro rfl i _;simp
 rw [kR] at a2
 simp only [Op.equalIn,Sem.run_bind,run_underlying h,Result.andThen_ok,fi.sizeOf,Std.Legacy.Range.forIn_eq_forIn_range']
 simp only [Std.Legacy.Range.size,Nat.sub_zero,Nat.add_one_sub_one,Nat.div_one] at a2 ⊢
 simp only [bind_assoc] at a2
 rw [a2]
 by_cases Ek:x=y
 ·simp [Ek]
 simp [Ek]
theorem Y6 {c:dB}{E:List (Nat×I)}{L:List aQ}{d:Option Tmp}{ty:TypeId}{pos:String}{af:Array Edge}{g:Option (Nat×Bool)}{x y:Operand}{t t2 e el:TypeId}{n:Nat}{a b:Vector Ref n}(h:c.P.underlying t=some (.array n e))(fi:bF c.P e Ref)(hu:c.P.underlying e=some (.pointer el))(bD:c.P.eqGuardType c.P.depth t=false)
 (ar:ba c E L x (.of a)) (a5:ba c E L y (.of b)) (aR:∀ i,i<n→bH b i=none):b9 c E L ⟨d,.binOp .eql t x y t2,ty,pos,af,g⟩ (.of (decide (a=b))):= .pure fun A W s=>by
 have aa:=ar A W s
 have ae:=a5 A W s
 obtain⟨xs,iv⟩:∃ cs,A.eval x= .agg cs:=by simpa [shaped,ak.agg] using aa.1
 obtain⟨ys,vU⟩:∃ cs,A.eval y= .agg cs:=by simpa [shaped,ak.agg] using ae.1
 have aG:=XL h fi hu aa ae aR 10000 (by decide)
 rw [iv,vU] at aG
 refine⟨.bool (decide (a=b)),?_,of_bool.2 rfl⟩
 simp only [execOp,iv,vU,Sem.run_bind,run_eqGuard_agg W .eql t x y xs ys bD,Result.andThen_ok,run_eql_struct,aG,Sem.run_pure]
section
variable {c:dB} {E:List (Nat×I)} {L:List aQ} {ops:Array Oper} {Q:Exit→Act→World→Prop}
theorem av.aaj {α β:Type}{o:Option α}{k:α→av β}{R:β→Prop}(h:av.bind (av.of o) k R):∃ r,o=some r∧k r R:=h
theorem XM {F:Fence}{n:Nat}{P:Program}{body:Code}{σ ε:Type}(b:σ→av (σ ⊕ ε))(gx:σ→Act→World→Prop)(X:ε→Exit→Act→World→Prop)
 (qh:∀ s R,b s R→ ∀ a W,gx s a W→body.wpIn F n P (fun x a W=>(∃ cr,R (.inl cr)∧x= .normal∧gx cr a W)∨ ∃ e,R (.inr e)∧x≠ .normal∧X e x a W) a W)
 (Q:Exit→Act→World→Prop) (R:ε→Prop) (q2:∀ e x a W,R e→X e x a W→Q x a W) {cE:σ} {N:Nat} (an:oi N b cE R) {iw:Act} {jB:World} (bO:gx cE iw jB):
 (Code.loop body).wpIn F n P Q iw jB:=by
 intro ej k cs Av hb aO
 have key:∀ N s,oi N b s R→ ∀ a W,gx s a W→
  ∃ x hM W',Q x hM W'∧ArrivesIn (Machine.fenced P F) P (lone (ej.atR a (.code body::.inLoop body::k)) cs W) ej k cs x hM W':=by
  intro N
  induction N with
  | zero=>intro s h;exact h.elim
  | succ N b6=>
    intro s h a W lK
    obtain⟨x,Ac,Ad,hq,sw⟩:=qh s _ h a W lK ej (.inLoop body::k) cs Av hb aO
    rcases hq with⟨cr,aa,ar,Mn⟩ | ⟨e,aa,ar,Nu⟩
    ·subst ar
     obtain⟨LR,LS,LU,Li,Kc⟩:=b6 cr aa Ac Ad Mn
     exact⟨LR,LS,LU,Li,.of_steps (StepsIn.trans sw (.one (fenced_calm hb aO rfl) stepR_inLoop)) Kc⟩
    exact⟨x,Ac,Ad,q2 _ _ _ _ aa Nu,.pass (x:= .inLoop body) rfl (fun _ _=>.inl ar) sw⟩
 obtain⟨x,hM,W',hq,sw⟩:=key N cE an iw jB bO
 exact⟨x,hM,W',hq,.of_steps (.one (fenced_calm hb aO rfl) stepR_loop) sw⟩
def H2 {σ ε γ δ:Type}(c:dB)(E:σ→γ→List (Nat×I))(L:σ→γ→List aQ)(xs:ε→Exit)(hc:ε→δ→List (Nat×I))(Lx:ε→δ→List aQ)(R:σ ⊕ ε→Prop):Exit→Act→World→Prop:=fun x a W=>
 (∃ s,R (.inl s)∧x= .normal∧ ∃ g,bL c (E s g) (L s g) a W)∨ ∃ e,R (.inr e)∧x≠ .normal∧x=xs e∧ ∃ g,bL c (hc e g) (Lx e g) a W
theorem ad.zH {σ ε γ δ:Type}{E':σ→γ→List (Nat×I)}{L':σ→γ→List aQ}{xs:ε→Exit}{hc:ε→δ→List (Nat×I)}{Lx:ε→δ→List aQ}{R:σ ⊕ ε→Prop}{s:σ}(ko:R (.inl s))(g:γ)(n:Nat)
 (al:L.drop n=L' s g) (h:g4 E (E' s g)):ad c (H2 c E' L' xs hc Lx R) .normal E L:=fun a W st=>.inl ⟨s,ko,rfl,g,by rw [← al];exact(st.pD n).less h.look⟩
theorem ad.u6 {σ ε γ δ:Type}{E':σ→γ→List (Nat×I)}{L':σ→γ→List aQ}{xs:ε→Exit}{hc:ε→δ→List (Nat×I)}{Lx:ε→δ→List aQ}{R:σ ⊕ ε→Prop}{e:ε}{x:Exit}(ko:R (.inr e))(g:δ)(n:Nat)
 (ar:x=xs e) (aR:x≠ .normal) (al:L.drop n=Lx e g) (h:g4 E (hc e g)):ad c (H2 c E' L' xs hc Lx R) x E L:=fun a W st=>.inr ⟨e,ko,aR,ar,g,by rw [← al];exact(st.pD n).less h.look⟩
theorem ag.oi {σ ε γ δ:Type}{body:Code}{N:Nat}{b:σ→av (σ ⊕ ε)}{cE:σ}{R:ε→Prop}(an:Gv.oi N b cE R)
 (E':σ→γ→List (Nat×I)) (L':σ→γ→List aQ) (xs:ε→Exit) (hc:ε→δ→List (Nat×I)) (Lx:ε→δ→List aQ) (g0:γ) (al:L=L' cE g0) (aA:g4 E (E' cE g0))
 (xA:∀ s R,b s R→ ∀ g,ag c (H2 c E' L' xs hc Lx R) body (E' s g) (L' s g))
 (q2:∀ e,R e→ ∀ g,ad c Q (xs e) (hc e g) (Lx e g)):ag c Q (.loop body) E L:=fun a W st=>by
 subst al
 exact XM b (fun s a W=> ∃ g,bL c (E' s g) (L' s g) a W) (fun e x a W=>x=xs e∧ ∃ g,bL c (hc e g) (Lx e g) a W)
  (fun s R hs a W ⟨g,lK⟩=>wpIn_mono (xA s R hs g a W lK) (fun x a W h=>by
   rcases h with⟨cr,aa,ae,aG⟩ | ⟨e',aa,ae,aG,a0⟩
   ·exact .inl ⟨cr,aa,ae,aG⟩
   exact .inr ⟨e',aa,ae,aG,a0⟩)) Q R (fun e x a W ko ⟨ar,g,hs⟩=>by subst ar;exact q2 e ko g a W hs) an ⟨g0,st.less aA.look⟩
theorem kb {α:Type}{b:Bool}{m n:av α}{R:α→Prop}(hb:b=true)(h:cond b m n R):m R:=by subst hb;exact h
theorem kc {α:Type}{b:Bool}{m n:av α}{R:α→Prop}(hb:b=false)(h:cond b m n R):n R:=by subst hb;exact h
theorem ag.u5 {β γ ρ:Type}{oF:ρ→Prop}{x:Operand}{b:Bool}{y z:Code}{a1 bd:av β}{k:β→av ρ}(h:av.bind (bif b then a1 else bd) k oF)(E':β→γ→List (Nat×I))(L':β→γ→List aQ)(an:ba c E L x (.of b))
 (wh:∀ m g,k m oF→ad c Q .normal (E' m g) (L' m g))
 (bM:(∀ m g,k m oF→ad c Q .normal (E' m g) (L' m g))→b=true→a1 (fun m=>k m oF)→ag c Q y E L) (a2:(∀ m g,k m oF→ad c Q .normal (E' m g) (L' m g))→b=false→bd (fun m=>k m oF)→ag c Q z E L):ag c Q (.cond x y z) E L:=
 ag.cond an (fun hb=>bM wh hb (kb hb h)) (fun hb=>a2 wh hb (kc hb h))
theorem ag.zG {σ ε γ δ ρ:Type}{body:Code}{N:Nat}{b:σ→av (σ ⊕ ε)}{cE:σ}{k:ε→av ρ}{oF:ρ→Prop}(an:av.bind (Gv.oi N b cE) k oF)
 (E':σ→γ→List (Nat×I)) (L':σ→γ→List aQ) (xs:ε→Exit) (hc:ε→δ→List (Nat×I)) (Lx:ε→δ→List aQ) (g0:γ) (al:L=L' cE g0) (aA:g4 E (E' cE g0))
 (xA:∀ s R,b s R→ ∀ g,ag c (H2 c E' L' xs hc Lx R) body (E' s g) (L' s g))
 (q2:∀ e,k e oF→ ∀ g,ad c Q (xs e) (hc e g) (Lx e g)):ag c Q (.loop body) E L:=
 ag.oi (R:=fun e=>k e oF) an E' L' xs hc Lx g0 al aA xA q2
theorem abI {n:Nat} :∀ i,i<n→bH (default:Vector Ref n) i=none:=fun i au=>by
 have:(default:Vector Ref n)=Vector.replicate n none:=rfl;rw [this];simp [bH,au]
def DN (s:ByteArray)(i:Int):Option (BitVec 8):=(if 0≤i then s[i.toNat]? else none).map fun b=>BitVec.ofNat 8 b.toNat
theorem ZV {d:Option Tmp}{ty:TypeId}{pos:String}{af:Array Edge}{g:Option (Nat×Bool)}{x y:Operand}{t:TypeId}{s:ByteArray}{i:BitVec 8}{r:BitVec 8}(hu:c.P.underlying t=some .string)(ar:ba c E L x (.of s))(a5:ba c E L y (.of i))(aO:DN s (i.toNat:Int)=some r):
 b9 c E L ⟨d,.index t x y,ty,pos,af,g⟩ (.of r):= .pure fun a W st=>by
 have aa:=Rh.1 (ar a W st)
 have ae:=qn.1 (a5 a W st)
 unfold DN at aO
 cases hb:(if 0≤ (i.toNat:Int) then s[(i.toNat:Int).toNat]? else none) with
 | none=>rw [hb] at aO;cases aO
 | some b=>
   rw [hb] at aO
   simp only [Option.map_some,Option.some.injEq] at aO
   subst aO
   have cf:b.toNat<256:=b.toNat_lt
   refine⟨.int .u8 b.toNat,?_,qn.2 (by simp [BitVec.toNat_ofNat,Nat.mod_eq_of_lt cf])⟩
   have x4:=hb
   simp only [Int.natCast_nonneg,if_true,Int.toNat_natCast] at x4
   simp [execOp,Instr.index,aa,ae,asIntOf,run_underlying hu,x4]
end
structure fR where
 p:Option Nat
 deriving DecidableEq,Inhabited
instance ahN:ak fR:= .scalar (fun x=>Value.map x.p) fun _=>rfl
instance:bh fR:=⟨[.map none],fun _ _=>rfl⟩
theorem u0 {A W v}{x:fR} :(I.of x).holds A W v↔v= .map x.p:=
 ⟨fun h=>pw h.1 h.2,fun h=>by subst h;exact⟨rfl,rfl⟩⟩
theorem lp {c:dB}{E:List (Nat×I)}{L:List aQ}{x:Operand}{r:fR}{p:Nat}(ar:ba c E L x (.of r))(h:r.p=some p):ba c E L x (.of (⟨some p⟩:fR)):=fun a W s=>by
 have:=u0.1 (ar a W s);rw [h] at this;exact u0.2 this
inductive lh {α β:Type}[ak α][ak β](A:List Nat)(W:World):List MapEntry→List (α×β)→Prop
 | nil:lh A W [] []
 | cons {e k v es r} :(I.of k).holds A W e.key→ (I.of v).holds A W e.val→lh A W es r→lh A W (e::es) ((k,v)::r)
theorem lh.mono {α β:Type}[ak α][ak β]{A W dy W'}(h:Ext A W dy W'):∀ {es:List MapEntry} {kv:List (α×β)},lh A W es kv→lh dy W' es kv
 | _,_,.nil=>.nil
 | _,_,.cons aa ae r=>.cons (I.mono _ h aa) (I.mono _ h ae) (r.mono h)
def eg.map {α β:Type}[ak α][ak β](kv:List (α×β)):eg where
 holds A W o:= ∃ es clock,o= .map es clock∧lh A W es.toList kv∧ (∀ x∈es.toList,x.born<clock)∧ (es.toList.map MapEntry.born).Nodup
 nL:=False
 mono e h:=let⟨es,clock,aa,ae,aG⟩:=h; ⟨es,clock,aa,ae.mono e,aG⟩
def dW {α β:Type}[DecidableEq α]:List (α×β)→α→Option β
 | [],_=>none
 | (k,v)::r,x=>if x=k then some v else dW r x
def gK {α β:Type}[DecidableEq α]:List (α×β)→α→β→List (α×β)
 | [],x,y=>[(x,y)]
 | (k,v)::r,x,y=>if x=k then(x,y)::r else(k,v)::gK r x y
def iP {α β:Type}[DecidableEq α]:List (α×β)→α→List (α×β)
 | [],_=>[]
 | (k,v)::r,x=>if x=k then r else(k,v)::iP r x
class me (α:Type) [ak α]:Prop where
 uniq:∀ {A W cs dy W' eA} {x:α},ak.rep A W cs x→ak.rep dy W' eA x→cs=eA
 plain:∀ {A W cs} {x:α},ak.rep A W cs x→ ∀ v∈cs,∀ n,Instr.sameBits n v v=true
instance:me Int:=⟨fun h de=>h.trans de.symm,fun h v a6 n=>by subst h;rw [List.mem_singleton.1 a6];simp [Instr.sameBits]⟩
instance:me (BitVec 64):=⟨fun h de=>h.trans de.symm,fun h v a6 n=>by subst h;rw [List.mem_singleton.1 a6];simp [Instr.sameBits]⟩
instance:me Bool:=⟨fun h de=>h.trans de.symm,fun h v a6 n=>by subst h;rw [List.mem_singleton.1 a6];simp [Instr.sameBits]⟩
instance {α:Type} [ak α] [Inhabited α] [me α] {n:Nat} :me (Vector α n):=⟨fun {A W cs dy W' eA x} h de=>by
 have yw:cs.length=n * ak.size α:=ak.len h;have NI:eA.length=n * ak.size α:=ak.len de;have key:∀ m,m≤n→cs.take (m * ak.size α)=eA.take (m * ak.size α):=by
  intro m;induction m with
  | zero=>intro _;simp
  | succ m b6=>
    intro hm
    have Az:m<n:=hm
    have aq:=(aL.idx (α:=α) n m Az).jh h
    have aX:=(aL.idx (α:=α) n m Az).jh de
    have dd:=me.uniq aq aX
    rw [Nat.succ_mul,List.take_add,List.take_add,b6 (by omega)]
    congr 1
 have:=key n (Nat.le_refl _);rwa [← yw,List.take_length,yw,← NI,List.take_length] at this,
 fun {A W cs x} h v a6 k=>by
  have yw:cs.length=n * ak.size α:=ak.len h;obtain⟨i,au,rfl⟩:=List.getElem_of_mem a6;by_cases hs:ak.size α=0
  ·rw [hs,Nat.mul_zero] at yw;omega
  have hq:i / ak.size α<n:=Nat.div_lt_of_lt_mul (by rw [yw,Nat.mul_comm] at au;exact au);have aq:=(aL.idx (α:=α) n (i / ak.size α) hq).jh h;refine me.plain aq _ ?_ k;have aO:i % ak.size α<ak.size α:=Nat.mod_lt _ (by omega);have hd:=Nat.div_add_mod i (ak.size α);refine List.mem_iff_getElem?.2 ⟨i % ak.size α,?_⟩;simp only [aL.idx];rw [List.getElem?_take,if_pos aO,List.getElem?_drop,Nat.mul_comm,hd];exact List.getElem?_eq_getElem au⟩
theorem PL {cs eA:List Value}(o s:Nat)(h:(cs.drop o).take s=(eA.drop o).take s)(k:cs.drop (o+s)=eA.drop (o+s)):cs.drop o=eA.drop o:=by
 rw [← List.take_append_drop s (cs.drop o),← List.take_append_drop s (eA.drop o),h,List.drop_drop,List.drop_drop,k]
theorem aak {cs eA:List Value}{n:Nat}(h:cs.length=n)(de:eA.length=n)(k:cs.drop 0=eA.drop 0):cs=eA:=by simpa using k
theorem aal {cs eA:List Value}{n m:Nat}(h:cs.length=n)(de:eA.length=n)(k:n≤m):cs.drop m=eA.drop m:=by
 rw [List.drop_eq_nil_of_le (by omega),List.drop_eq_nil_of_le (by omega)]
theorem XN {α:Type}[ak α][me α]{A W dy W' u v}{x:α}(h:(I.of x).holds A W u)(de:(I.of x).holds dy W' v):u=v:=by
 obtain⟨aa,ae⟩:=h;obtain⟨aG,a0⟩:=de;have a7:=me.uniq ae a0;by_cases bb:ak.agg α=true
 ·simp only [shaped,bb,if_true] at aa aG;obtain⟨a,rfl⟩:=aa;obtain⟨b,rfl⟩:=aG;simp only [Value.cells] at a7;congr 1;exact Array.toList_inj.1 a7
 simp only [Bool.not_eq_true] at bb;simp only [shaped,bb,Bool.false_eq_true,if_false] at aa aG;rw [px aa,px aG] at a7;simpa using a7
theorem PM {P:Value→Value→Bool} :∀ {cs:List Value},(∀ v∈cs,P v v=true)→ ((cs.zip cs).all fun(x,y)=>P x y)=true
 | [],_=>rfl
 | a::r,h=>by
   simp only [List.zip_cons_cons,List.all_cons,Bool.and_eq_true];exact⟨h a (by simp),PM fun v a6=>h v (by simp [a6])⟩
theorem XO {α:Type}[ak α][me α]{A W u}{x:α}(h:(I.of x).holds A W u)(n:Nat):Instr.sameBits (n+1) u u=true:=by
 obtain⟨aa,ae⟩:=h;by_cases bb:ak.agg α=true
 ·simp only [shaped,bb,if_true] at aa;obtain⟨a,rfl⟩:=aa;simp only [Value.cells] at ae;simp only [Instr.sameBits,beq_self_eq_true,Bool.true_and];exact PM fun v a6=>me.plain ae v a6 n
 simp only [Bool.not_eq_true] at bb;simp only [shaped,bb,Bool.false_eq_true,if_false] at aa;rw [px aa] at ae;exact me.plain ae u (by simp) _
theorem Yy {α:Type}[ak α][me α]{P:Program}{A W dy W' u v}{x:α}(h:(I.of x).holds A W u)(de:(I.of x).holds dy W' v)(jB:World):(Instr.keyThatStays u v).run P jB= .ok v jB:=by
 have:=XN h de;subst this;simp [Instr.keyThatStays,XO h 9999]
def sT (P:Program)(t:TypeId)(α:Type)[ak α](n:Nat):Prop:= ∀ b d A W u (x:α),n≤d→ (I.of x).holds A W u→ (Instr.checkKey b d t u).run P W= .ok () W
theorem Po {P:Program}{t:TypeId}{α:Type}[ak α]{D:TypeDesc}(h:P.underlying t=some D)(hd:(match (motive:=TypeDesc→Bool) D with | .interface _ | .array _ _ | .struct _=>false | _=>true)=true):sT P t α 1:=by
 intro b d A W u x aR ar;obtain⟨d,rfl⟩:∃ e,d=e+1:=⟨d - 1,by omega⟩;simp only [Instr.checkKey,Sem.run_bind,run_underlying h,Result.andThen_ok];cases D <;> simp at hd <;> rfl
theorem Ox {P:Program}{W:World}{E0:Type}(f:E0→Sem Unit):∀ (l:List E0),(∀ i∈l,(f i).run P W= .ok () W)→
 (forIn (m:=Sem) l () (fun i _=>do f i;pure (ForInStep.yield ()))).run P W= .ok () W
 | [],_=>by simp
 | i::r,h=>by
   have aa:=h i (by simp);have ae:=Ox (P:=P) (W:=W) f r (fun j aH=>h j (by simp [aH]));rw [List.forIn_cons];simp only [Sem.run_bind,aa,Result.andThen_ok,Sem.run_pure];rw [ae]
theorem On {P:Program}{W:World}{E0:Type}(f:E0→PUnit→Sem (ForInStep PUnit)):∀ (l:List E0),(∀ i∈l,(f i ()).run P W= .ok (.yield ()) W)→ (forIn (m:=Sem) l PUnit.unit f).run P W= .ok () W
 | [],_=>by simp
 | i::r,h=>by
   have aa:=h i (by simp);have ae:=On (P:=P) (W:=W) f r (fun j aH=>h j (by simp [aH]));rw [List.forIn_cons];simp only [Sem.run_bind,aa,Result.andThen_ok];exact ae
theorem Rl {P:Program}{t e n k:Nat}{α:Type}[ak α][Inhabited α](h:P.underlying t=some (.array n e))(fi:bF P e α)(he:sT P e α k):sT P t (Vector α n) (k+1):=by
 intro b d A W u x hd ar;obtain⟨d,rfl⟩:∃ e,d=e+1:=⟨d - 1,by omega⟩;obtain⟨aa,ae⟩:=ar;obtain⟨xs,rfl⟩:∃ cs,u= .agg cs:=by simpa [shaped,ak.agg] using aa
 simp only [Value.cells] at ae;have uf:xs.toList.length=n * ak.size α:=ak.len ae;have tA:∀ i∈List.range' 0 n,((do
  let z ← Go.sizeOf e
  let a ← part e xs (i * z)
  Instr.checkKey b d e a):Sem Unit).run P W= .ok () W:=by
  intro i au
  have hE:i<n:=by simpa using au
  have fc:i * ak.size α+ak.size α≤n * ak.size α:=(aL.idx (α:=α) n i hE).gZ
  obtain⟨a,bb,ug⟩:=r5 (A:=A) (P:=P) (W:=W) (cs:=xs) (off:=i * ak.size α) fi (by simp at uf;omega) ((aL.idx (α:=α) n i hE).jh ae)
  simp only [Sem.run_bind,fi.sizeOf,bb,Result.andThen_ok]
  exact he b d A W a _ (by omega) ug
 have a2:=Ox (P:=P) (W:=W) _ _ tA;simp only [Instr.checkKey,Sem.run_bind,run_underlying h,Result.andThen_ok,Std.Legacy.Range.forIn_eq_forIn_range'];simp only [Std.Legacy.Range.size,Nat.sub_zero,Nat.add_one_sub_one,Nat.div_one] at a2 ⊢;simp only [bind_assoc] at a2;rw [a2];rfl
inductive Ez (P:Program)(β:Type)[ak β](k:Nat):List Field→Prop
 | nil:Ez P β k []
 | cons {γ:Type} [ak γ] {f r} (l:aL β γ):l.off=f.offset→bF P f.type γ→sT P f.type γ k→Ez P β k r→Ez P β k (f::r)
theorem Yz {P:Program}{t k:Nat}{β:Type}[ak β]{fs:Array Field}(bb:ak.agg β=true)(h:P.underlying t=some (.struct fs))(aj:Ez P β k fs.toList):sT P t β (k+1):=by
 intro b d A W u x hd ar;obtain⟨d,rfl⟩:∃ e,d=e+1:=⟨d - 1,by omega⟩;obtain⟨aa,ae⟩:=ar;obtain⟨xs,rfl⟩:∃ cs,u= .agg cs:=by simpa [shaped,bb] using aa
 simp only [Value.cells] at ae;have uf:xs.toList.length=ak.size β:=ak.len ae;have tA:∀ f∈fs.toList,((do
  if f.name≠ "_" then do
   let a ← part f.type xs f.offset
   Instr.checkKey b d f.type a):Sem Unit).run P W= .ok () W:=by
  have key:∀ l,Ez P β k l→ ∀ f∈l,((do
   if f.name≠ "_" then do
    let a ← part f.type xs f.offset
    Instr.checkKey b d f.type a):Sem Unit).run P W= .ok () W:=by
   intro l an
   induction an with
   | nil=>simp
   | cons l bg fi aw r b6=>
     rename_i f k5
     intro AP rD
     rcases List.mem_cons.1 rD with rfl | rD
     ·split
      ·obtain⟨a,bb,ug⟩:=r5 (A:=A) (P:=P) (W:=W) (cs:=xs) (off:=l.off) fi (by have:=l.gZ;simp at uf;omega) (l.jh ae)
       rw [← bg]
       simp only [Sem.run_bind,bb,Result.andThen_ok]
       exact aw b d A W a _ (by omega) ug
      rfl
     exact b6 AP rD
  exact key _ aj
 simp only [Instr.checkKey,Sem.run_bind,run_underlying h,Result.andThen_ok];rw [← Array.forIn_toList,On]
 ·rfl
 intro f a2;have:=tA f a2;split
 ·rename_i aR;rw [if_pos aR] at this;simp only [Sem.run_bind] at this ⊢;revert this;generalize (part f.type xs f.offset).run P W=r;cases r <;> simp only [Result.andThen] <;> intro h <;> first | rw [h];rfl | cases h
 rfl
structure po (P:Program)(t:TypeId)(α:Type)[ak α][DecidableEq α]:Prop where
 check:∀ b A W u (x:α),(I.of x).holds A W u→ (Instr.checkKey b 10000 t u).run P W= .ok () W
 same:∀ A W u v (x y:α),(I.of x).holds A W u→ (I.of y).holds A W v→ (Op.equal t u v).run P W= .ok (decide (x=y)) W
 now:∃ D,P.underlying t=some D∧ ∀ A W u v (x y:α),(I.of x).holds A W u→ (I.of y).holds A W v→Instr.sameNow D u v=none∨Instr.sameNow D u v=some (decide (x=y))
def mj {α β:Type}[DecidableEq α]:List (α×β)→α→Nat→Option (Nat×β)
 | [],_,_=>none
 | (k,v)::r,x,i=>if x=k then some (i,v) else mj r x (i+1)
def Found {α β:Type}[ak α][ak β](A:List Nat)(W:World)(kv:List (α×β)):Option (Nat×Value)→Option (Nat×β)→Prop
 | none,none=>True
 | some (i,u),some (j,v)=>i=j∧ (I.of v).holds A W u
 | _,_=>False
theorem OC {α β:Type}[ak α][ak β][DecidableEq α]{D:TypeDesc}{A:List Nat}{W:World}{u:Value}{x:α}(hu:(I.of x).holds A W u)
 (hs:∀ v (y:α),(I.of y).holds A W v→Instr.sameNow D u v=none∨Instr.sameNow D u v=some (decide (x=y))) (EA:List (α×β)):∀ {es:List MapEntry} {kv:List (α×β)} (i:Nat),lh A W es kv→
 Instr.findNow D u es i=none∨ ∃ r,Instr.findNow D u es i=some r∧Found A W EA r (mj kv x i)
 | [],_,i,h=>by cases h;exact .inr ⟨none,rfl,trivial⟩
 | e::es,_,i,h=>by
   cases h with
   | cons aa ae aG=>
     rename_i k v r
     rcases hs e.key k aa with a0 | a0
     ·exact .inl (by simp [Instr.findNow,a0])
     by_cases aw:x=k
     ·exact .inr ⟨some (i,e.val),by simp [Instr.findNow,a0,aw],by simp only [mj,if_pos aw];exact⟨rfl,ae⟩⟩
     rcases OC hu hs EA (i+1) aG with a7 | ⟨k5,a7,bn⟩
     ·exact .inl (by simp [Instr.findNow,a0,aw,a7])
     exact .inr ⟨k5,by simp [Instr.findNow,a0,aw,a7],by simp only [mj,if_neg aw];exact bn⟩
theorem Oe {α β:Type}[ak α][ak β][DecidableEq α]{P:Program}{t:TypeId}(ln:po P t α){A:List Nat}{W:World}{u:Value}{x:α}(hu:(I.of x).holds A W u)(EA:List (α×β)):∀ {es:List MapEntry} {kv:List (α×β)} (i:Nat),lh A W es kv→
 ∃ r,(Instr.findAsking t u es i).run P W= .ok r W∧Found A W EA r (mj kv x i)
 | [],_,i,h=>by cases h;exact⟨none,rfl,trivial⟩
 | e::es,_,i,h=>by
   cases h with
   | cons aa ae aG=>
     rename_i k v r
     have a0:=ln.same A W u e.key x k hu aa
     by_cases aw:x=k
     ·exact⟨some (i,e.val),by simp [Instr.findAsking,Sem.run_bind,a0,aw],by simp only [mj,if_pos aw];exact⟨rfl,ae⟩⟩
     obtain⟨k5,a7,bn⟩:=Oe ln hu EA (i+1) aG
     exact⟨k5,by simp [Instr.findAsking,Sem.run_bind,a0,aw,a7],by simp only [mj,if_neg aw];exact bn⟩
theorem Jc {α β:Type}[ak α][ak β][DecidableEq α]{P:Program}{t:TypeId}(ln:po P t α){A:List Nat}{W:World}{u:Value}{x:α}(hu:(I.of x).holds A W u){es:List MapEntry}{kv:List (α×β)}(h:lh A W es kv):
 ∃ r,(Instr.findKey t u es).run P W= .ok r W∧Found A W kv r (mj kv x 0):=by
 obtain⟨D,mb,hs⟩:=ln.now
 rcases OC hu (fun v y a5=>hs A W u v x y hu a5) kv 0 h with aa | ⟨r,aa,ae⟩
 ·obtain⟨r,aG,a0⟩:=Oe ln hu kv 0 h
  exact⟨r,by simp [Instr.findKey,Sem.run_bind,run_underlying mb,aa,aG],a0⟩
 exact⟨r,by simp [Instr.findKey,Sem.run_bind,run_underlying mb,aa],ae⟩
theorem JS {α β:Type}[ak α][ak β][DecidableEq α]{A:List Nat}{W:World}{x:α} :∀ {es:List MapEntry} {kv:List (α×β)} {j i:Nat} {v:β},lh A W es kv→mj kv x j=some (i,v)→
 ∃ m e,i=j+m∧es[m]? =some e∧ (I.of x).holds A W e.key∧ (∀ (e':MapEntry) (y:β),(I.of x).holds A W e'.key→ (I.of y).holds A W e'.val→lh A W (es.set m e') (gK kv x y))∧lh A W (es.eraseIdx m) (iP kv x)
 | [],_,j,i,v,h,a2=>by cases h;cases a2
 | e::es,_,j,i,v,h,a2=>by
   cases h with
   | cons aa ae aG=>
     rename_i k wi r
     by_cases aw:x=k
     ·subst aw
      simp only [mj,if_pos] at a2
      simp only [Option.some.injEq,Prod.mk.injEq] at a2
      exact⟨0,e,by omega,rfl,aa,fun e' y ao a3=>by simp only [gK,if_pos];exact .cons ao a3 aG,by simp only [iP,if_pos];exact aG⟩
     simp only [mj,if_neg aw] at a2
     obtain⟨m,e',ao,a3,bx,c0,hx⟩:=JS aG a2
     exact⟨m+1,e',by omega,by simpa using a3,bx,fun MN y aB dt=>by simp only [gK,if_neg aw];exact .cons aa ae (c0 MN y aB dt),by simp only [iP,if_neg aw];exact .cons aa ae hx⟩
theorem Ju {α β:Type}[ak α][ak β][DecidableEq α]{A:List Nat}{W:World}{x:α} :∀ {es:List MapEntry} {kv:List (α×β)} {j:Nat},lh A W es kv→mj kv x j=none→
 (∀ (e':MapEntry) (y:β),(I.of x).holds A W e'.key→ (I.of y).holds A W e'.val→lh A W (es++[e']) (gK kv x y))∧iP kv x=kv
 | [],_,j,h,_=>by cases h;exact⟨fun e' y aa ae=>.cons aa ae .nil,rfl⟩
 | e::es,_,j,h,a2=>by
   cases h with
   | cons aa ae aG=>
     rename_i k wi r
     by_cases aw:x=k
     ·simp [mj,aw] at a2
     simp only [mj,if_neg aw] at a2
     obtain⟨ao,a3⟩:=Ju aG a2
     exact⟨fun e' y aB dt=>by simp only [gK,if_neg aw];exact .cons aa ae (ao e' y aB dt),by simp only [iP,if_neg aw,a3]⟩
theorem lh.length {α β:Type}[ak α][ak β]{A W} :∀ {es:List MapEntry} {kv:List (α×β)},lh A W es kv→es.length=kv.length
 | _,_,.nil=>rfl
 | _,_,.cons _ _ r=>by simp [r.length]
theorem O3 {α β:Type}[DecidableEq α]:∀ (kv:List (α×β)) (x:α) (i:Nat),(mj kv x i).map (·.2)=dW kv x
 | [],_,_=>rfl
 | (k,v)::r,x,i=>by simp only [mj,dW];split <;> simp [O3]
section
variable {c:dB} {E:List (Nat×I)} {L:List aQ} {ops:Array Oper} {Q:Exit→Act→World→Prop}
variable {d:Option Tmp} {ty:TypeId} {pos:String} {af:Array Edge} {g:Option (Nat×Bool)} {x y z:Operand} {t t2:TypeId}
variable {ca:Type} [fC ca] {hp:aN ca} {loc:List aQ}
theorem ah.aam {α β:Type}[ak α][ak β]{rest:List Oper}{a9:Nat}(mk:ca)(aw:∀ p,fC.ir p mk= [⟨some p,.map ([]:List (α×β))⟩])(aR:Nat.blt a9 c.n=true)
 (k:∀ p,p ∉ eZ hp→ah c ops Q rest ((a9,.of (⟨some p⟩:fR))::E) (loc++aS ((p,mk)::hp))):ah c ops Q (⟨some a9,.makeMap t none,ty,pos,af,none⟩::rest) E (loc++aS hp):=fun a W s=>by
 refine ik rfl (R:=fun v W'=>v= .map (some W.heap.size)∧W'=W.alloc (.map #[] 0)) (.lv ?_ ⟨rfl,rfl⟩) fun v W' ⟨a6,hw⟩=>?_
 ·simp only [execOp,Instr.makeMap,newObj,Sem.run_bind,Sem.run_pure];rfl
 subst a6
 subst hw
 refine k _ s.fresh _ _ (bL.put ?_ (by simpa using aR) (u0.2 rfl))
 refine(s.alloc (cp:= .map ([]:List (α×β))) ⟨#[],0,rfl,.nil,by simp,by simp⟩).perm ?_
 simp only [aS,aw,List.singleton_append]
 exact List.perm_middle.symm
theorem ah.GM {α β:Type}[ak α][ak β]{rest:List Oper}{a9:Nat}(n:Nat)(al:L.drop n=aS hp)(mk:ca)(aw:∀ p,fC.ir p mk= [⟨some p,.map ([]:List (α×β))⟩])(aR:Nat.blt a9 c.n=true)(k:∀ a:Nat×aN ca,a.1 ∉ hp.map (·.1)∧a.2=(a.1,mk)::hp→ah c ops Q rest ((a9,.of (⟨some a.1⟩:fR))::E) (L.take n++aS a.2)):ah c ops Q (⟨some a9,.makeMap t none,ty,pos,af,none⟩::rest) E L:=by
 have e:L=L.take n++aS hp:=by rw [← al,List.take_append_drop]
 clear al;generalize L.take n=loc at *;subst e;exact ah.aam (α:=α) (β:=β) mk aw aR fun p h=>k (p,(p,mk)::hp) ⟨h,rfl⟩
theorem bL.Dl {a:Act}{W:World}(s:bL c E L a W){p:Nat}{α β:Type}[ak α][ak β]{kv:List (α×β)}(hm:(⟨some p,.map kv⟩:aQ)∈L):
 ∃ es clock,W.heap[p]? =some (.map es clock)∧lh (aU L++c.b7) W es.toList kv∧ (∀ x∈es.toList,x.born<clock)∧ (es.toList.map MapEntry.born).Nodup:=by
 obtain⟨o,bg,es,clock,rfl,ae,aG,a0⟩:=s.own _ hm
 exact⟨es,clock,bg,ae,aG,a0⟩
theorem O4 {a:Act}{W:World}(s:bL c E L a W){p key elem:Nat}{α β:Type}[ak α][ak β][DecidableEq α][Inhabited β]{kv:List (α×β)}{i:α}(hu:c.P.underlying t=some (.map key elem))(ln:po c.P key α)(hz:cS c.P elem (default:β))
 (ar:ba c E L x (.of (⟨some p⟩:fR))) (a5:ba c E L y (.of i)) (hm:(⟨some p,.map kv⟩:aQ)∈L):
 ∃ u,(I.of ((dW kv i).getD default)).holds (aU L++c.b7) W u∧ ∀ ok,(Instr.lookup t (a.eval x) (a.eval y) ok).run c.P W= .ok (if ok then .tuple #[u,.bool (dW kv i).isSome] else u) W:=by
 obtain⟨es,clock,bg,ae,aG,a0⟩:=s.Dl hm
 have lF:=u0.1 (ar a W s)
 have pV:=a5 a W s
 obtain⟨r,aO,a2⟩:=Jc ln pV ae
 obtain⟨gS,eP,eY,dI,Mx⟩:=hz.zero
 have bD:(getObj p).run c.P W= .ok (.map es clock) W:=by simp [getObj,Sem.run,bg]
 have aj:=fun b=>ln.check b _ W _ i pV
 have AF:=O3 kv i 0
 cases qD:mj kv i 0 with
 | none=>
   rw [qD] at a2 AF
   cases r with
   | some q=>exact a2.elim
   | none=>
     refine⟨eP,by rw [← AF];exact Mx _ W,fun ok=>?_⟩
     rw [← AF]
     simp [Instr.lookup,Sem.run_bind,run_underlying hu,lF,bD,aj,aO,zeroValue,typeInfo,eY,dI]
 | some q=>
   rw [qD] at a2 AF
   cases r with
   | none=>exact a2.elim
   | some m0=>
     refine⟨m0.2,by rw [← AF];exact a2.2,fun ok=>?_⟩
     rw [← AF]
     simp [Instr.lookup,Sem.run_bind,run_underlying hu,lF,bD,aj,aO]
theorem tc {p key elem:Nat}{α β:Type}[ak α][ak β][DecidableEq α][Inhabited β]{kv:List (α×β)}{i:α}{r:β}(hu:c.P.underlying t=some (.map key elem))(ln:po c.P key α)(hz:cS c.P elem (default:β))
 (ar:ba c E L x (.of (⟨some p⟩:fR))) (a5:ba c E L y (.of i)) (hm:(⟨some p,.map kv⟩:aQ)∈L) (aO:(dW kv i).getD default=r):
 b9 c E L ⟨d,.lookup t x y false,ty,pos,af,g⟩ (.of r):= .pure fun a W s=>by
 subst aO
 obtain⟨u,aa,ae⟩:=O4 s hu ln hz ar a5 hm
 have aG:=ae false
 exact⟨u,by simp only [execOp,Sem.run_bind,aG,Result.andThen_ok];rfl,aa⟩
theorem JI {p key elem:Nat}{α β:Type}[ak α][ak β][DecidableEq α][Inhabited β]{kv:List (α×β)}{i:α}{r:Option β}(hu:c.P.underlying t=some (.map key elem))(ln:po c.P key α)(hz:cS c.P elem (default:β))
 (ar:ba c E L x (.of (⟨some p⟩:fR))) (a5:ba c E L y (.of i)) (hm:(⟨some p,.map kv⟩:aQ)∈L) (aO:dW kv i=r):
 b9 c E L ⟨d,.lookup t x y true,ty,pos,af,g⟩ (.dZ [.of (r.getD default),.of r.isSome]):= .pure fun a W s=>by
 subst aO
 obtain⟨u,aa,ae⟩:=O4 s hu ln hz ar a5 hm
 have aG:=ae true
 exact⟨_,by simp only [execOp,Sem.run_bind,aG,Result.andThen_ok];rfl,_,rfl,.cons aa (.cons (of_bool.2 rfl) .nil)⟩
theorem Zo {es:List MapEntry}{m:Nat}{e e':MapEntry}(h:es[m]? =some e)(hb:e'.born=e.born):(es.set m e').map MapEntry.born=es.map MapEntry.born:=by
 apply List.ext_getElem?;intro j;simp only [List.getElem?_map,List.getElem?_set];split
 ·rename_i aH;subst aH;have:=(List.getElem?_eq_some_iff.1 h).1;rw [if_pos this,h];simp [hb]
 rfl
theorem ah.aa9 {rest:List Oper}{op:Op}(uc:op= .mapUpdate t x y z∨op= .insert t x y z){p key elem:Nat}{k k':ca}{α β:Type}[ak α][ak β][me α][DecidableEq α]{kv rG:List (α×β)}{i:α}{v:β}(hu:c.P.underlying t=some (.map key elem))(ln:po c.P key α)
 (ar:ba c E (loc++aS hp) x (.of (⟨some p⟩:fR))) (a5:ba c E (loc++aS hp) y (.of i)) (dI:ba c E (loc++aS hp) z (.of v)) (hp':pat hp p=some k) (aw:fC.ir p k= [⟨some p,.map kv⟩]) (yd:gK kv i v=rG) (iR:fC.ir p k'= [⟨some p,.map rG⟩])
 (n5:ah c ops Q rest E (loc++aS (dr hp p k'))):ah c ops Q (⟨none,op,ty,pos,af,none⟩::rest) E (loc++aS hp):=fun a W s=>by
 subst yd
 obtain⟨es,clock,bg,ae,aG,a0⟩:=s.Dl (er (n:=loc.length) (by simp) hp' aw)
 have lF:=u0.1 (ar a W s)
 have pV:=a5 a W s
 have T6:=dI a W s
 obtain⟨r,aO,a2⟩:=Jc ln pV ae
 have bD:(getObj p).run c.P W= .ok (.map es clock) W:=by simp [getObj,Sem.run,bg]
 have aj:=ln.check false _ W _ i pV
 have cf:p<W.heap.size:=(Array.getElem?_eq_some_iff.1 bg).1
 have lV:∀ o,(setObj p o).run c.P W= .ok () (W.putObj p o):=fun o=>by simp only [setObj,Sem.run,bg];rfl
 have key:∃ mV xi,(Instr.mapUpdate t (a.eval x) (a.eval y) (a.eval z)).run c.P W= .ok () (W.putObj p (.map mV xi))∧lh (aU (loc++aS hp)++c.b7) W mV.toList (gK kv i v)∧ (∀ x∈mV.toList,x.born<xi)∧ (mV.toList.map MapEntry.born).Nodup:=by
  cases qD:mj kv i 0 with
  | none=>
    rw [qD] at a2
    cases r with
    | some q=>exact a2.elim
    | none=>
      obtain⟨ao,_⟩:=Ju ae qD
      refine⟨es.push { key:=a.eval y,val:=a.eval z,born:=clock },clock+1,by simp [Instr.mapUpdate,Sem.run_bind,run_underlying hu,lF,bD,aj,aO,lV],by simpa using ao { key:=a.eval y,val:=a.eval z,born:=clock } v pV T6,?_,?_⟩
      ·intro q hq
       simp only [Array.toList_push,List.mem_append,List.mem_singleton] at hq
       rcases hq with hq | rfl
       ·exact Nat.lt_succ_of_lt (aG q hq)
       exact Nat.lt_succ_self _
      simp only [Array.toList_push,List.map_append,List.map_cons,List.map_nil]
      refine List.nodup_append.2 ⟨a0,by simp,fun b hb b' x4=>?_⟩
      simp only [List.mem_singleton] at x4
      subst x4
      obtain⟨q,hq,rfl⟩:=List.mem_map.1 hb
      exact Nat.ne_of_lt (aG q hq)
  | some q=>
    rw [qD] at a2
    cases r with
    | none=>exact a2.elim
    | some m0=>
      obtain⟨m,e,ao,a3,bx,c0,_⟩:=JS ae qD
      have ki:m0.1=m:=by have:=a2.1;omega
      have hq:es[m]? =some e:=by simpa using a3
      have eu:=Yy (P:=c.P) bx pV W
      let e':MapEntry:= { e with key:=a.eval y,val:=a.eval z }
      have DR:(es.modify m fun e=>{ e with key:=a.eval y,val:=a.eval z }).toList=es.toList.set m e':=by
       apply List.ext_getElem?;intro j;rw [Array.getElem?_toList,Array.getElem?_modify,List.getElem?_set,Array.getElem?_toList];by_cases aH:m=j
       ·subst aH;rw [if_pos rfl,if_pos rfl,hq,if_pos (by simpa using (Array.getElem?_eq_some_iff.1 hq).1)];rfl
       rw [if_neg aH,if_neg aH]
      refine⟨es.modify m fun e=>{ e with key:=a.eval y,val:=a.eval z },clock,by simp [Instr.mapUpdate,Sem.run_bind,run_underlying hu,lF,bD,aj,aO,lV,ki,hq,eu],by rw [DR];exact c0 e' v pV T6,?_,?_⟩
      ·rw [DR]
       intro w hw
       rcases List.mem_or_eq_of_mem_set hw with hw | rfl
       ·exact aG w hw
       exact aG e (List.mem_of_getElem? a3)
      rw [DR,Zo (e':=e') a3 rfl];exact a0
 obtain⟨mV,xi,ja,aq,aX,dd⟩:=key
 obtain⟨R,a1,bd⟩:=wY hp'
 have bd:=bd k'
 rw [aw] at a1
 rw [iR] at bd
 have cY:∀ {z:List (α×β)} {M:List aQ},M.Perm ([⟨some p,.map z⟩]++R)→ (loc++M).Perm (⟨some p,.map z⟩::(loc++R)):=fun h=>(h.append_left loc).trans (by simp only [List.singleton_append];exact List.perm_middle)
 have cr:=(s.perm (cY a1)).ri (i:=0) (cp':= .map (gK kv i v)) rfl (o':= .map mV xi) ⟨mV,xi,rfl,aq.mono (oO (cY a1)),aX,dd⟩
 refine ik rfl (R:=fun v W'=>W'=W.putObj p (.map mV xi)) (.zB ?_ rfl) fun v W' hw=>?_
 ·rcases uc with rfl | rfl <;> simp [execOp,ja]
 subst hw
 exact n5 _ _ (cr.perm (cY bd).symm)
theorem ah.G3 {rest:List Oper}{op:Op}(n:Nat)(al:L.drop n=aS hp)(uc:op= .mapUpdate t x y z∨op= .insert t x y z){p key elem:Nat}{k k':ca}{di:aN ca}{α β:Type}[ak α][ak β][me α][DecidableEq α]{kv rG:List (α×β)}{i:α}{v:β}(hu:c.P.underlying t=some (.map key elem))(ln:po c.P key α)(ar:ba c E L x (.of (⟨some p⟩:fR)))(a5:ba c E L y (.of i))(dI:ba c E L z (.of v))(hp':pat hp p=some k)(aw:fC.ir p k= [⟨some p,.map kv⟩])(yd:gK kv i v=rG)(iR:fC.ir p k'= [⟨some p,.map rG⟩])(dI:dr hp p k'=di)(n5:ah c ops Q rest E (L.take n++aS di)):ah c ops Q (⟨none,op,ty,pos,af,none⟩::rest) E L:=by
 subst dI;have e:L=L.take n++aS hp:=by rw [← al,List.take_append_drop]
 clear al;generalize L.take n=loc at *;subst e;exact ah.aa9 uc hu ln ar a5 dI hp' aw yd iR n5
theorem ah.aba {rest:List Oper}{p key elem:Nat}{k k':ca}{α β:Type}[ak α][ak β][DecidableEq α]{kv rG:List (α×β)}{i:α}(hu:c.P.underlying t=some (.map key elem))(ln:po c.P key α)
 (ar:ba c E (loc++aS hp) x (.of (⟨some p⟩:fR))) (a5:ba c E (loc++aS hp) y (.of i)) (hp':pat hp p=some k) (aw:fC.ir p k= [⟨some p,.map kv⟩]) (yd:iP kv i=rG) (iR:fC.ir p k'= [⟨some p,.map rG⟩])
 (n5:ah c ops Q rest E (loc++aS (dr hp p k'))):ah c ops Q (⟨none,.call ⟨.builtin .delete,#[x,y],#[t,t2]⟩,ty,pos,af,none⟩::rest) E (loc++aS hp):=fun a W s=>by
 subst yd
 obtain⟨es,clock,bg,ae,aG,a0⟩:=s.Dl (er (n:=loc.length) (by simp) hp' aw)
 have lF:=u0.1 (ar a W s)
 have pV:=a5 a W s
 obtain⟨r,aO,a2⟩:=Jc ln pV ae
 have bD:(getObj p).run c.P W= .ok (.map es clock) W:=by simp [getObj,Sem.run,bg]
 have aj:=fun b=>ln.check b _ W _ i pV
 have lV:∀ o,(setObj p o).run c.P W= .ok () (W.putObj p o):=fun o=>by simp only [setObj,Sem.run,bg];rfl
 have key:∃ mV,(Builtin.delete_ #[t,t2] ty #[a.eval x,a.eval y]).run c.P W= .ok (.tuple #[]) (W.putObj p (.map mV clock))∧lh (aU (loc++aS hp)++c.b7) W mV.toList (iP kv i)∧ (∀ x∈mV.toList,x.born<clock)∧ (mV.toList.map MapEntry.born).Nodup:=by
  cases qD:mj kv i 0 with
  | none=>
    rw [qD] at a2
    cases r with
    | some q=>exact a2.elim
    | none=>
      obtain⟨_,ao⟩:=Ju ae qD
      exact⟨es,by simp [Builtin.delete_,Sem.run_bind,run_underlying hu,lF,bD,aj,aO,lV],by rw [ao];exact ae,aG,a0⟩
  | some q=>
    rw [qD] at a2
    cases r with
    | none=>exact a2.elim
    | some m0=>
      obtain⟨m,e,ao,a3,_,_,hx⟩:=JS ae qD
      have ki:m0.1=m:=by have:=a2.1;omega
      have hm:m<es.size:=by simpa using (List.getElem?_eq_some_iff.1 a3).1
      have he:(es.eraseIdxIfInBounds m).toList=es.toList.eraseIdx m:=by simp [Array.eraseIdxIfInBounds,hm]
      have lU:(es.toList.eraseIdx m).Sublist es.toList:=List.eraseIdx_sublist _ _
      exact⟨es.eraseIdxIfInBounds m,by simp [Builtin.delete_,Sem.run_bind,run_underlying hu,lF,bD,aj,aO,lV,ki],by rw [he];exact hx,by rw [he];exact fun w hw=>aG w (lU.subset hw),by rw [he];exact(lU.map _).nodup a0⟩
 obtain⟨mV,ja,aq,aX,dd⟩:=key
 obtain⟨R,a1,bd⟩:=wY hp'
 have bd:=bd k'
 rw [aw] at a1
 rw [iR] at bd
 have cY:∀ {z:List (α×β)} {M:List aQ},M.Perm ([⟨some p,.map z⟩]++R)→ (loc++M).Perm (⟨some p,.map z⟩::(loc++R)):=fun h=>(h.append_left loc).trans (by simp only [List.singleton_append];exact List.perm_middle)
 have cr:=(s.perm (cY a1)).ri (i:=0) (cp':= .map (iP kv i)) rfl (o':= .map mV clock) ⟨mV,clock,rfl,aq.mono (oO (cY a1)),aX,dd⟩
 refine ik rfl (R:=fun v W'=>W'=W.putObj p (.map mV clock)) (.lv (v:= .tuple #[]) ?_ rfl) fun v W' hw=>?_
 ·simp [execOp,resolve,invoke,builtin,ja]
 subst hw
 exact n5 _ _ (cr.perm (cY bd).symm)
theorem ah.K4 {rest:List Oper}{p key elem:Nat}{k k':ca}{di:aN ca}{α β:Type}[ak α][ak β][DecidableEq α]{kv rG:List (α×β)}{i:α}(n:Nat)(al:L.drop n=aS hp)(hu:c.P.underlying t=some (.map key elem))(ln:po c.P key α)(ar:ba c E L x (.of (⟨some p⟩:fR)))(a5:ba c E L y (.of i))(hp':pat hp p=some k)(aw:fC.ir p k= [⟨some p,.map kv⟩])(yd:iP kv i=rG)(iR:fC.ir p k'= [⟨some p,.map rG⟩])(dI:dr hp p k'=di)(n5:ah c ops Q rest E (L.take n++aS di)):ah c ops Q (⟨none,.call ⟨.builtin .delete,#[x,y],#[t,t2]⟩,ty,pos,af,none⟩::rest) E L:=by
 subst dI;have e:L=L.take n++aS hp:=by rw [← al,List.take_append_drop]
 clear al;generalize L.take n=loc at *;subst e;exact ah.aba hu ln ar a5 hp' aw yd iR n5
theorem ZQ {p key elem:Nat}{α β:Type}[ak α][ak β]{kv:List (α×β)}(hu:c.P.underlying t=some (.map key elem))(ar:ba c E L x (.of (⟨some p⟩:fR)))(hm:(⟨some p,.map kv⟩:aQ)∈L):
 b9 c E L ⟨d,.call ⟨.builtin .len,#[x],#[t]⟩,ty,pos,af,g⟩ (.of (kv.length:Int)):= .pure fun a W s=>by
 obtain⟨es,clock,bg,ae,aG,a0⟩:=s.Dl hm
 have lF:=u0.1 (ar a W s)
 have bD:(getObj p).run c.P W= .ok (.map es clock) W:=by simp [getObj,Sem.run,bg]
 have an:es.size=kv.length:=by simpa using ae.length
 refine⟨.int .i64 kv.length,?_,of_int.2 rfl⟩
 simp [execOp,resolve,invoke,builtin,Builtin.len_,lF,bD,an,run_underlying hu,goInt]
end
theorem abb {P:Program}{t:TypeId}(h:P.underlying t=some (.int .i64)):po P t Int where
 check b A W u x ar:=Po (α:=Int) h rfl b 10000 A W u x (by decide) ar
 same A W u v x y ar a5:=by
  have:=(Qq h).run 10000 (by decide) A W u v x y ar a5;simpa [Op.equal,Op.maxDepth] using this
 now:=⟨_,h,fun A W u v x y ar a5=>.inr (by
  rw [of_int.1 ar,of_int.1 a5];simp only [Instr.sameNow,if_pos];rfl)⟩
theorem Rm {P:Program}{t:TypeId}{α:Type}[ak α][DecidableEq α]{D:TypeDesc}{n m:Nat}(h:P.underlying t=some D)(mb:(match (motive:=TypeDesc→Bool) D with | .array _ _ | .struct _=>true | _=>false)=true)(ahx:sT P t α n)(yt:nx P t α m)(aR:Nat.ble n 10000=true)(hm:Nat.ble m 10000=true):po P t α where
 check b A W u x ar:=ahx b 10000 A W u x (Nat.le_of_ble_eq_true aR) ar
 same A W u v x y ar a5:=by
  have:=yt.run 10000 (Nat.le_of_ble_eq_true hm) A W u v x y ar a5;simpa [Op.equal,Op.maxDepth] using this
 now:=⟨_,h,fun A W u v x y ar a5=>.inl (by cases D <;> simp at mb <;> rfl)⟩
structure jf (P:Program)(t:TypeId)(name:String)(f:FuncId):Prop where
 run:∀ v W args,(callMethod (.iface t v) name args).run P W= .ok (.enter f (#[v]++args)) W
theorem jf.of {P:Program}{t:TypeId}{name:String}{f:FuncId}{i:TypeInfo}{D:TypeDesc}{m:Method}(au:P.info? t=some i)(hm:i.methods.find? (fun x=>x.name==name)=some m)(hp:m.path= #[])(a2:m.func=some (f,false))(mb:P.underlying t=some D)
 (aR:(match (motive:=TypeDesc→Bool) D with | .pointer _=>false | _=>true)=true) (e5:bA P f):jf P t name f where
 run v W args:=by
  have agx:∀ args,(callFunc f args).run P W= .ok (.enter f args) W:=fun args=>e5.run ..;have ef:∀ n,(method (n+1) t v name).run P W= .ok (f,v) W:=fun n=>by
   simp only [method,Sem.run_bind,typeInfo,run_program,Result.andThen_ok,au,Sem.run_pure,hm,hp,a2,follow,receiverAt,run_underlying mb];cases D <;> simp at aR <;> simp [Place.get]
  obtain⟨n,aR⟩:∃ n,P.types.size+Made.depth=n+1:=⟨P.types.size+Made.depth - 1,by simp [Made.depth]⟩;simp only [callMethod,Sem.run_bind,run_program,Result.andThen_ok,aR,ef,agx]
theorem jf.qE {P:Program}{t:TypeId}{name:String}{f:FuncId}{D:TypeDesc}(hm:((P.info? t).bind fun i=>(i.methods.find? (fun x=>x.name==name)).map fun m=>(m.path.size,m.func))=some (0,some (f,false)))(mb:P.underlying t=some D)
 (aR:(match (motive:=TypeDesc→Bool) D with | .pointer _=>false | _=>true)=true) (e5:bA P f):jf P t name f:=by
 cases au:P.info? t with
 | none=>rw [au] at hm;cases hm
 | some i=>
   rw [au] at hm
   simp only [Option.bind_some] at hm
   cases ae:i.methods.find? (fun x=>x.name==name) with
   | none=>rw [ae] at hm;cases hm
   | some m=>
     rw [ae] at hm
     simp only [Option.map_some,Option.some.injEq,Prod.mk.injEq] at hm
     exact jf.of au ae (Array.eq_empty_of_size_eq_zero hm.1) hm.2 mb aR e5
theorem bC.map {P:Program}{f:FuncId}{τs:List I}{Lin:List aQ}{δ MO:Type}{ρ:δ→I}{Lo:δ→List aQ}{EB:MO→I}{T7:MO→List aQ}(F:δ→MO)(aO:∀ d,EB (F d)=ρ d)(an:∀ d,T7 (F d)=Lo d)(h:bC P f τs Lin ρ Lo):bC P f τs Lin EB T7:=
 fun A W vs aa ae aG a0 a7=>(h A W vs aa ae aG a0 a7).mono fun e W' ⟨v,d,aB,dt,dA,ff,gw,j2⟩=>⟨v,F d,aB,dt,by rw [an];exact dA,by rw [an];exact ff,by rw [an];exact gw,by rw [an,aO];exact j2⟩
structure lu (P:Program)(name:String)(τ:I)(τs:List I)(Lin:List aQ){δ:Type}(ρ:δ→I)(Lo:δ→List aQ):Prop where
 go:∀ (A:List Nat) (W:World) (u:Value) (vs:List Value),(∀ k∈A,k<W.heap.size∧k ∉ aU Lin)→ (aU Lin).Nodup→ (∀ k∈aU Lin,k<W.heap.size)→ (∀ e∈Lin,e.ok (aU Lin++A) W)→hk (aU Lin++A) W (τ::τs) (u::vs)→
  ∃ f v,(∀ args,(callMethod u name args).run P W= .ok (.enter f (#[v]++args)) W)∧Calls P f (v::vs).toArray W (kQ (aU Lin) A W ρ Lo)
theorem lu.of {P:Program}{name:String}{t:TypeId}{f:FuncId}{τ σ:I}{τs:List I}{Lin:List aQ}{δ:Type}{ρ:δ→I}{Lo:δ→List aQ}(mt:jf P t name f)(MP:∀ A W u,τ.holds A W u→ ∃ v,u= .iface t v∧σ.holds A W v)
 (h:bC P f (σ::τs) Lin ρ Lo):lu P name τ τs Lin ρ Lo where
 go A W u vs aa ae aG a0 a7:=by
  cases a7 with
  | cons bn dn=>
    obtain⟨v,rfl,fh⟩:=MP _ _ _ bn
    exact⟨f,v,fun args=>mt.run v W args,h A W (v::vs) aa ae aG a0 (.cons fh dn)⟩
section
variable {c:dB} {E:List (Nat×I)} {L:List aQ} {ops:Array Oper} {Q:Exit→Act→World→Prop}
variable {d:Option Tmp} {ty:TypeId} {pos:String} {af:Array Edge} {g:Option (Nat×Bool)} {x y z:Operand} {t t2:TypeId}
theorem PN {a:Act}{W:World}{name:String}{xs:List Operand}{ats:Array TypeId}{τ:I}{τs:List I}{Lin Lr:List aQ}{δ:Type}{ρ:δ→I}{Lo:δ→List aQ}(h:lu c.P name τ τs Lin ρ Lo)
 (s:bL c E (Lin++Lr) a W) (ar:hk (aU (Lin++Lr)++c.b7) W (τ::τs) ((x::xs).map a.eval)):
 hC c.P ⟨d,.call ⟨.invoke x name,xs.toArray,ats⟩,ty,pos,af,g⟩ a W fun v W'=> ∃ a9,bL c E (Lo a9++Lr) a W'∧ (ρ a9).holds (aU (Lo a9++Lr)++c.b7) W' v:=by
 have nr:=s.nodup
 rw [ft] at nr
 obtain⟨l5,nY,rA⟩:=List.nodup_append.1 nr
 have lV:Ext (aU (Lin++Lr)++c.b7) W (aU Lin++(aU Lr++c.b7)) W:=CA
 have hf:∀ k∈aU Lr++c.b7,k<W.heap.size∧k ∉ aU Lin:=fun k hm=>by
  rcases List.mem_append.1 hm with hm | hm
  ·exact⟨s.lt k (by rw [ft];exact List.mem_append.2 (.inr hm)),fun h=>rA k h k hm rfl⟩
  obtain⟨aa,ae⟩:=s.fb k hm;exact⟨aa,fun h=>ae (by rw [ft];exact List.mem_append.2 (.inl h))⟩
 have cf:∀ k∈aU Lin,k<W.heap.size:=fun k hm=>s.lt k (by rw [ft];exact List.mem_append.2 (.inl hm))
 obtain⟨f,v,ja,aj⟩:=h.go (aU Lr++c.b7) W (a.eval x) (xs.map a.eval) hf l5 cf (fun e he=>aQ.uX (s.own e (List.mem_append.2 (.inl he))) lV fun _ _=>rfl) (by simpa using ar.mono lV)
 refine .w4 (f:=f) (args:=(v::xs.map a.eval).toArray) (W':=W) ?_ (aj.mono fun e W' ⟨v,a9,he,a2,aa,ae,aG,a0⟩=>?_)
 ·have:=ja (xs.map a.eval).toArray
  simp only [execOp,resolve,Sem.run_bind,Sem.run_pure,Result.andThen_ok,invoke]
  simp only [List.map_toArray] at this ⊢
  simp
  rw [List.take_of_length_le (by simp),this]
  simp
 refine⟨v,he,a9,s.after a2 aa ae aG,(ρ a9).mono JR a0⟩
variable {ca:Type} [fC ca] {hp:aN ca}
theorem ah.Ab {rest:List Oper}{a9:Nat}{name:String}{xs:List Operand}{ats:Array TypeId}{τ:I}{τs:List I}{Lin Lr:List aQ}{δ:Type}{ρ:δ→I}{Lo:δ→List aQ}{hq:δ→aN ca}(n m:Nat)(al:L.drop n=aS hp)(h:lu c.P name τ τs (Lin++aS hp) ρ (fun d=>Lo d++aS (hq d)))
 (aa:(L.take n).take m=Lin) (ae:(L.take n).drop m=Lr) (ar:iM c E L (x::xs) (τ::τs)) (aR:Nat.blt a9 c.n=true) (k:∀ q,ah c ops Q rest ((a9,ρ q)::E) ((Lo q++Lr)++aS (hq q))):
 ah c ops Q (⟨some a9,.call ⟨.invoke x name,xs.toArray,ats⟩,ty,pos,af,none⟩::rest) E L:=by
 have e:L=(Lin++Lr)++aS hp:=by rw [← aa,← ae,List.take_append_drop,← al,List.take_append_drop]
 clear al aa ae
 subst e
 exact fun a W s=>ik rfl (PN (Lr:=Lr) h (s.perm oP) ((ar.holds a W s).mono (oO oP))) fun v W' ⟨q,cr,a6⟩=>
  k q _ _ ((cr.perm oP).put (by simpa using aR) ((ρ q).mono (oO oP) a6))
theorem eM.Ab {name:String}{xs:List Operand}{ats:Array TypeId}{τ:I}{τs:List I}{ρ:I}(n:Nat)(al:L.drop n=aS hp)(h:lu c.P name τ τs (aS hp) (fun _:Unit=>ρ) (fun _=>aS hp))
 (ar:iM c E L (x::xs) (τ::τs)):eM c E L ⟨d,.call ⟨.invoke x name,xs.toArray,ats⟩,ty,pos,af,g⟩ ρ:=fun a W s=>by
 have e:L=L.take n++aS hp:=by rw [← al,List.take_append_drop]
 have cY:L.Perm (aS hp++L.take n):=by
  conv=>lhs;rw [e]
  exact List.perm_append_comm
 have bg:=PN (d:=d) (ty:=ty) (pos:=pos) (af:=af) (g:=g) (ats:=ats) (Lr:=L.take n) h (s.perm cY) ((ar.holds a W s).mono (oO cY))
 unfold hC at bg ⊢
 exact Oper.wp_mono (fun hM W' ⟨v,aa,_,ae,aG⟩=>⟨v,aa,ae.perm cY.symm,ρ.mono (oO cY.symm) aG⟩) bg
theorem Kw {D:TypeDesc}{σ τ:I}(hu:c.P.underlying t=some D)(mb:(match (motive:=TypeDesc→Bool) D with | .interface _=>false | _=>true)=true)(ar:ba c E L x σ)(MP:∀ A W v,σ.holds A W v→τ.holds A W (.iface t v)):
 b9 c E L ⟨d,.makeInterface t x,ty,pos,af,g⟩ τ:= .pure fun a W s=>
 ⟨.iface t (a.eval x),by
   simp only [execOp,Instr.makeInterface,Sem.run_bind,run_underlying hu,Result.andThen_ok];cases D <;> simp at mb <;> rfl,MP _ _ _ (ar a W s)⟩
end
def HB (P:Program)(u:Value){α σ ε γ:Type}(τ:α→I)(Ls:σ→γ→List aQ)(Lx:ε→γ→List aQ)(step:α→σ→av (σ ⊕ ε))(ahy:List Nat→World→Prop):Prop:=
 ∃ l,u= .func (.yield l) #[] #[]∧ ∀ x s R,step x s R→ ∀ g A W v,ahy (aU (Ls s g)++A) W→Aj A W (Ls s g)→ (τ x).holds (aU (Ls s g)++A) W v→
   YieldAt Fence.wide 8 P l #[v] W (fun e W'=>(∃ cr,R (.inl cr)∧kQ (aU (Ls s g)) A W (fun _:γ=>I.of true) (fun g=>Ls cr g) e W')∨ ∃ q,R (.inr q)∧kQ (aU (Ls s g)) A W (fun _:γ=>I.of false) (fun g=>Lx q g) e W')
structure CG (P:Program)(f:FuncId)(τs:List I){ca:Type}[fC ca]{α:Type}(τ:α→I)(run:∀ {σ ε:Type},(σ→aN ca)→ (α→σ→av (σ ⊕ ε))→σ→av (σ ⊕ ε)):Prop where
 go:∀ {σ ε γ:Type} (Ls:σ→γ→List aQ) (Lx:ε→γ→List aQ) (hq:σ→aN ca) (k2:σ→γ→List aQ),(∀ s g,Ls s g=k2 s g++aS (hq s))→ ∀ (step:α→σ→av (σ ⊕ ε)) (cE:σ) (g0:γ) (R:σ ⊕ ε→Prop),run hq step cE R→
  ∀ (A:List Nat) (W:World) (u:Value) (vs:List Value),Aj A W (Ls cE g0)→hk (aU (Ls cE g0)++A) W τs vs→
    HB P u τ Ls Lx step (fun dy W'=>Ext (aU (Ls cE g0)++A) W dy W')→
    Calls P f (u::vs).toArray W (kQ (aU (Ls cE g0)) A W (δ:= {r // R r}×γ) (fun _=>.dZ []) (fun d=>Lr Ls Lx d.1.1 d.2))
theorem CG.of {P:Program}{f:FuncId}{fn:Func}{code:Code}{n:Nat}{τs:List I}{ca:Type}[fC ca]{α:Type}{τ:α→I}{run:∀ {σ ε:Type},(σ→aN ca)→ (α→σ→av (σ ⊕ ε))→σ→av (σ ⊕ ε)}
 (a2:P.funcs[f]? =some fn) (hb:fn.body=some code) (aR:fn.ntmps=n) (hlen:Nat.ble (τs.length+1) n=true)
 (h:∀ {σ ε γ:Type} (Ls:σ→γ→List aQ) (Lx:ε→γ→List aQ) (hq:σ→aN ca) (k2:σ→γ→List aQ),(∀ s g,Ls s g=k2 s g++aS (hq s))→ ∀ (step:α→σ→av (σ ⊕ ε)) (cE:σ) (g0:γ) (R:σ ⊕ ε→Prop),run hq step cE R→
  ∀ W A u,HB P u τ Ls Lx step (fun dy W'=>Ext (aU (Ls cE g0)++A) W dy W')→
    ag ⟨P,n,W,aU (Ls cE g0),A,none,[]⟩ (bodyPost P fn (kQ (aU (Ls cE g0)) A W (δ:= {r // R r}×γ) (fun _=>.dZ []) (fun d=>Lr Ls Lx d.1.1 d.2))) code (params 0 (.eq u::τs)) (Ls cE g0)):CG P f τs τ run:=by
 refine⟨?_⟩
 intro σ ε γ Ls Lx hq k2 oy step cE g0 R aO A W u vs an a6 a5
 refine calls_of_wp a2 hb (wpIn_wide.1 (h Ls Lx hq k2 oy step cE g0 R aO W A u a5 _ _ ?_))
 have n1:hk (aU (Ls cE g0)++A) W (.eq u::τs) (u::vs):= .cons rfl a6
 have lf:=n1.length
 have hle:τs.length+1≤n:=Nat.le_of_ble_eq_true hlen
 exact
 {defers:=rfl
  size:=by simp at lf;simp [aR,lf];omega
  env:=fun t τ fy=>by
   obtain⟨_,v,ae,aG⟩:=wT n1 0 t τ fy;refine⟨v,?_,aG⟩;have cf:t<(u::vs).length:=(List.getElem?_eq_some_iff.1 ae).1;rw [Array.getElem?_append_left (by simpa using cf)];simpa using ae
  ej:= .refl _ _
  own:=an.ok
  nodup:=an.nodup
  lt:=an.lt
  gN:=fun k aw _=>aw
  fb:=an.fb }
section
variable {c:dB} {E:List (Nat×I)} {L:List aQ} {ops:Array Oper} {Q:Exit→Act→World→Prop}
variable {d:Option Tmp} {ty:TypeId} {pos:String} {af:Array Edge} {g:Option (Nat×Bool)} {x y:Operand} {t t2:TypeId}
theorem RX {ca:Type}[fC ca]{σ γ:Type}{Ls k2:σ→γ→List aQ}{hq:σ→aN ca}{s:σ}{g:γ}{p:Nat}{k:ca}{e:aQ}(n:Nat)(al:L.drop n=Ls s g)(oy:∀ s g,Ls s g=k2 s g++aS (hq s))(h:pat (hq s) p=some k)(aw:fC.ir p k= [e]):e∈L:=by
 obtain⟨R,aa,_⟩:=wY h;rw [aw] at aa;have:e∈L.drop n:=by rw [al,oy];exact List.mem_append.2 (.inr (aa.mem_iff.2 (by simp)))
 exact List.mem_of_mem_drop this
theorem ah.aaQ {rest:List Oper}{a9 mc:Nat}{ats:Array TypeId}{u:Value}{α σ ε γ:Type}{τ:α→I}{Ls:σ→γ→List aQ}{Lx:ε→γ→List aQ}{step:α→σ→av (σ ⊕ ε)}{Lin:List aQ}{x:Operand}{v:α}{s:σ}{gg:γ}{R:σ ⊕ ε→Prop}
 (aj:c.rd=none) (a5:HB c.P u τ Ls Lx step (fun dy W'=>Ext (c.X++c.b7) c.jB dy W')) (a2:look E mc=some (.eq u)) (ar:ba c E (Lin++Ls s gg) x (τ v)) (aO:step v s R) (aR:Nat.blt a9 c.n=true)
 (aW:∀ cr,R (.inl cr)→ ∀ fa,ah c ops Q rest ((a9,.of true)::E) (Lin++Ls cr fa)) (bI:∀ q,R (.inr q)→ ∀ fa,ah c ops Q rest ((a9,.of false)::E) (Lin++Lx q fa)):
 ah c ops Q (⟨some a9,.call ⟨.value (.tmp mc),#[x],ats⟩,ty,pos,af,none⟩::rest) E (Lin++Ls s gg):=fun a W st=>by
 obtain⟨l,rfl,a5⟩:=a5
 obtain⟨ND,aa,ae⟩:=st.env mc _ a2
 have hu:ND= .func (.yield l) #[] #[]:=ae
 subst hu
 have pU:bL c E (Ls s gg++Lin) a W:=st.perm List.perm_append_comm
 have a6:=ar a W st
 have n1:(τ v).holds (aU (Ls s gg)++(aU Lin++c.b7)) W (a.eval x):=(τ v).mono (.drop fun k hm=>by
  rw [ft];simp only [List.mem_append] at hm ⊢;rcases hm with hm | hm | hm
  ·exact .inl (.inr hm)
  ·exact .inl (.inl hm)
  exact .inr hm) a6
 obtain⟨fn,tmps,assign,body,ja,ko⟩:=a5 v s R aO gg (aU Lin++c.b7) W (a.eval x) (pU.SE.trans CA) pU.HA n1
 have Ll:(execOp a.eval ⟨some a9,.call ⟨.value (.tmp mc),#[x],ats⟩,ty,pos,af,none⟩).run c.P W= .ok (.round l fn tmps assign body) W:=by
  rw [← ja];simp [execOp,resolve,Deferred.ofValue,Act.eval,aa,invoke,Sem.run_bind,Sem.run_pure,Result.andThen]
 refine wpListIn_plain rfl fun K yq=>?_
 refine⟨fun _ _=>trivial,?_⟩
 rw [Oper.semAt_eq _ _ _ (fun _ h=>by cases h),Ll,Oper.uponIn_round]
 refine⟨fun h=>by simp at h,?_⟩
 have MD:RoundIn c.F (9 - 1) c.P l fn tmps assign body W _:=ko
 refine MD.mono fun e W' he=>?_
 rcases he with⟨cr,hs,w,fa,rfl,rD,aG,a0,a7,bn⟩ | ⟨q,hs,w,fa,rfl,rD,aG,a0,a7,bn⟩
 ·obtain rfl:=of_bool.1 bn
  refine yq _ _ (aW cr hs fa _ _ ?_)
  exact(((pU.after rD aG a0 a7).perm List.perm_append_comm).put (by simpa using aR) (of_bool.2 rfl))
 obtain rfl:=of_bool.1 bn
 refine yq _ _ (bI q hs fa _ _ ?_)
 exact(((pU.after rD aG a0 a7).perm List.perm_append_comm).put (by simpa using aR) (of_bool.2 rfl))
def T8 {σ ε γ:Type}(c:dB)(fG:ε→Code)(l D:Nat)(rec:Loop)(Ls:σ→γ→List aQ)(Lx:ε→γ→List aQ)(R:σ ⊕ ε→Prop):Exit→Act→World→Prop:=fun x a W=>
 (∃ cr,R (.inl cr)∧x= .normal∧ ∃ g,bL c [] (⟨some l,.is (.loop rec)⟩::⟨some D,.dN⟩::Ls cr g) a W)∨
 ∃ q,R (.inr q)∧xh (fG q)=true∧x=CQ (fG q)∧ ∃ g,bL c [] (⟨some l,.is (.loop rec)⟩::⟨some D,.dN⟩::Lx q g) a W
theorem ad.aez {σ ε γ:Type}{fG:ε→Code}{l D:Nat}{rec:Loop}{Ls:σ→γ→List aQ}{Lx:ε→γ→List aQ}{R:σ ⊕ ε→Prop}{cr:σ}(ko:R (.inl cr))(g:γ)(n:Nat)(al:L.drop n=⟨some l,.is (.loop rec)⟩::⟨some D,.dN⟩::Ls cr g):
 ad c (T8 c fG l D rec Ls Lx R) .normal E L:=fun a W s=>.inl ⟨cr,ko,rfl,g,by rw [← al];exact(s.pD n).less (fun t τ h=>by simp [look] at h)⟩
theorem Yd {gt p:Nat}{assign body:Code}{f:FuncId}{nR:List I}{ca:Type}[fC ca]{α σ ε γ ρ:Type}{τ:α→I}{run:∀ {σ ε:Type},(σ→aN ca)→ (α→σ→av (σ ⊕ ε))→σ→av (σ ⊕ ε)}
 {Ls:σ→γ→List aQ} {Lx:ε→γ→List aQ} {hq:σ→aN ca} {step:α→σ→av (σ ⊕ ε)} {cE:σ} {g0:γ} {k:σ ⊕ ε→av ρ} {oF:ρ→Prop} (k2:σ→γ→List aQ) (fG:ε→Code)
 (aj:c.rd=none) (e5:bA c.P f) (bD:look E gt=some (.lX f nR)) (lK:CG c.P f nR τ run) (aO:av.bind (run hq step cE) k oF) (oy:∀ s g,Ls s g=k2 s g++aS (hq s)) (al:L=Ls cE g0) (hp:Nat.blt p c.n=true)
 (qh:∀ x s R,step x s R→ ∀ g (l0:World) (ma l1:List Nat) (l D:Nat) (rec:Loop),rec.state= .ready→
  ag ⟨c.P,c.n,l0,ma,l1,some l,[]⟩ (Exit.then (EX ⟨c.P,c.n,l0,ma,l1,some l,[]⟩ l body (T8 ⟨c.P,c.n,l0,ma,l1,some l,[]⟩ fG l D { rec with state:= .busy } Ls Lx R)) (fun _ _ _=>False)) assign ((p,τ x)::E) (⟨some l,.is (.loop rec)⟩::⟨some D,.dN⟩::Ls s g))
 (pE:∀ cr,k (.inl cr) oF→ ∀ g D,ad { c with ds:=D::c.ds } Q .normal E (⟨some D,.dN⟩::Ls cr g))
 (xC:∀ q,k (.inr q) oF→ ∀ g D,ag { c with ds:=D::c.ds } Q (fG q) E (⟨some D,.dN⟩::Lx q g)):
 ag c Q (.rangeFunc (.tmp gt) #[p] assign body) E L:=fun a W st=>by
 subst al
 refine wpIn_rangeFunc fun fn MG=>?_
 show ∃ l mark afr d ac7 AP args afs,(Instr.enterLoop fn a.tmps #[p] assign body c.rd).run c.P W=_∧_
 rw [aj]
 obtain⟨rec,lz⟩:∃ rec:Loop,rec= { state:= .ready,pending:=none,fn,tmps:=a.tmps,params:= #[p],assign,body,defers:=W.heap.size } :=⟨_,rfl⟩
 obtain⟨v,Et,iU,yb,agm⟩:=st.env gt _ bD
 obtain⟨h4,Eu⟩:∃ h4,(W.alloc (.deferred (some []))).alloc (.loop rec)=h4:=⟨_,rfl⟩
 have s1:=(st.alloc (o:= .deferred (some [])) (cp:= .dN) rfl).alloc (o:= .loop rec) (cp:= .is (.loop rec)) rfl
 rw [Eu,World.size_alloc] at s1
 obtain⟨D,mb⟩:∃ D,D=W.heap.size:=⟨_,rfl⟩
 obtain⟨l,an⟩:∃ l,l=W.heap.size+1:=⟨_,rfl⟩
 have Ev:=run_enterLoop_outer (P:=c.P) (w:=W) fn a.tmps #[p] assign body
 rw [← lz,Eu,← an,← mb] at Ev
 rw [← an,← mb] at s1
 obtain⟨my,rE⟩:∃ my:σ→γ→List aQ,my=fun s g=>⟨some l,.is (.loop rec)⟩::⟨some D,.dN⟩::Ls s g:=⟨_,rfl⟩
 obtain⟨n2,Ew⟩:∃ n2:ε→γ→List aQ,n2=fun q g=>⟨some l,.is (.loop { rec with state:= .done,pending:=some (fG q) })⟩::⟨some D,.dN⟩::Lx q g:=⟨_,rfl⟩
 have s2:bL c E (my cE g0) a h4:=by rw [rE];exact s1
 have MH:hk (aU (my cE g0)++c.b7) h4 nR iU:=by
  have aa:(I.lX f nR).holds (aU (my cE g0)++c.b7) h4 v:=by
   obtain⟨wi,aa,ae⟩:=s2.env gt _ bD;rw [Et] at aa;cases aa;exact ae
  obtain⟨MI,aq,aX⟩:=aa;rw [yb] at aq;have:MI=iU:=by injection aq with _ _ aq;injection aq with aq;exact aq.symm
  rw [← this];exact aX
 have Ex:bL c E ((my cE g0)++[]) a h4:=by rw [List.append_nil];exact s2
 have Dj:=Ex.HA
 simp only [aU,List.nil_append] at Dj
 have LZ:HB c.P (.func (.yield l) #[] #[]) τ my n2 step (fun dy W'=>Ext (aU (my cE g0)++c.b7) h4 dy W'):=by
  refine⟨l,rfl,fun x s It hs g A pn v2 hZ hle a6=>?_⟩;have DT:=hle;rw [rE] at DT;obtain⟨o,c7,e9⟩:=DT.ok ⟨some l,.is (.loop rec)⟩ (by simp);have rj:o= .loop rec:=e9;subst rj;have a5:=run_yield (P:=c.P) (args:= #[v2]) c7 (by rw [lz];rfl);refine⟨_,_,_,_,a5,roundIn_of_wpIn trivial ?_⟩;have aq:rec.assign=assign:=by rw [lz]
  have aX:rec.body=body:=by rw [lz]
  have dd:rec.params= #[p]:=by rw [lz]
  have g2:rec.tmps=a.tmps:=by rw [lz]
  rw [aq,aX,dd,g2];refine Gc (n:=9) rfl ?_;have Lm:((#[p]:Array Tmp).zip #[v2]).foldl (fun tmps (t,a)=>tmps.setIfInBounds t a) a.tmps=a.tmps.setIfInBounds p v2:=by simp
  rw [Lm];subst rE Ew;refine wpIn_mono ((qh x s It hs g pn (aU (⟨some l,.is (.loop rec)⟩::⟨some D,.dN⟩::Ls s g)) A l D rec (by rw [lz])) { tmps:=a.tmps.setIfInBounds p v2,defers:= [] } pn ?_) ?_
  ·have jY:p<c.n:=by simpa using hp
   exact
   {defers:=rfl
    size:=by simp [s2.size]
    env:=fun t nW fy=>by
     simp only [look] at fy;by_cases e:Nat.beq p t=true
     ·rw [e] at fy;simp only [cond_true,Option.some.injEq] at fy;subst fy;have:=eQ.1 e;subst this;exact⟨v2,by simp [s2.size,jY],a6⟩
     simp only [Bool.not_eq_true] at e;rw [e] at fy;simp only [cond_false] at fy;obtain⟨u,aa,ae⟩:=s2.env t nW fy;have db:p≠t:=fun h=>by rw [eQ.2 h] at e;cases e
     exact⟨u,by rw [Array.getElem?_setIfInBounds_ne db];exact aa,nW.mono hZ ae⟩
    ej:= .refl _ _
    own:=hle.ok
    nodup:=hle.nodup
    lt:=hle.lt
    gN:=fun k aw _=>aw
    fb:=hle.fb }
  intro e gG ahu hq;cases e with
  | normal=>
    obtain⟨NF,MJ,hb⟩:=hq
    refine⟨NF,MJ,Gc (n:=9) rfl (wpIn_mono hb ?_)⟩
    intro e pZ EY HZ
    have fin:∀ (jump:Option Code) {Lr:List aQ},bL ⟨c.P,c.n,pn,aU (⟨some l,.is (.loop rec)⟩::⟨some D,.dN⟩::Ls s g),A,some l,[]⟩ [] (⟨some l,.is (.loop { rec with state:= .busy })⟩::⟨some D,.dN⟩::Lr) pZ EY→
     ∃ p0,(Instr.endRound l jump).run c.P EY= .ok (.bool jump.isNone) p0∧bL ⟨c.P,c.n,pn,aU (⟨some l,.is (.loop rec)⟩::⟨some D,.dN⟩::Ls s g),A,some l,[]⟩ [] (⟨some l,.is (.loop { rec with state:=if jump.isNone then .ready else .done,pending:=jump })⟩::⟨some D,.dN⟩::Lr) pZ p0:=fun jump Lr iT=>by
     obtain⟨o,aa,ae⟩:=iT.own ⟨some l,.is (.loop { rec with state:= .busy })⟩ (by simp)
     have l4:o= .loop { rec with state:= .busy } :=ae
     subst l4
     exact⟨_,run_endRound jump aa,iT.ri (i:=0) rfl rfl⟩
    rcases HZ with⟨cr,fI,rfl,fa,iT⟩ | ⟨q,fI,aH,rfl,fa,iT⟩
    ·obtain⟨p0,bn,jP⟩:=fin none iT
     refine⟨_,p0,bn,.inl ⟨cr,fI,?_⟩⟩
     have MK:({ rec with state:=if (none:Option Code).isNone then .ready else .done,pending:=none } :Loop)=rec:=by rw [lz];rfl
     rw [MK] at jP
     exact jP.ends (ρ:=fun _:γ=>I.of true) (Lo:=fun g=>⟨some l,.is (.loop rec)⟩::⟨some D,.dN⟩::Ls cr g) fa (List.Sublist.refl _) (of_bool.2 rfl)
    obtain⟨p0,bn,jP⟩:=fin (some (fG q)) iT
    have key:kQ (aU (⟨some l,.is (.loop rec)⟩::⟨some D,.dN⟩::Ls s g)) A pn (fun _:γ=>I.of false) (fun g=>⟨some l,.is (.loop { rec with state:= .done,pending:=some (fG q) })⟩::⟨some D,.dN⟩::Lx q g) (.returned (.bool false)) p0:=
     jP.ends (ρ:=fun _:γ=>I.of false) (Lo:=fun g=>⟨some l,.is (.loop { rec with state:= .done,pending:=some (fG q) })⟩::⟨some D,.dN⟩::Lx q g) fa (List.Sublist.refl _) (of_bool.2 rfl)
    exact Ow aH bn (.inr ⟨q,fI,key⟩)
  | exit id=>exact hq.elim
  | goto t=>exact hq.elim
  | ret=>exact hq.elim
  | panic Nt=>exact hq.elim
  | outgrown=>exact hq.elim
 have Dk:=lK.go my n2 hq (fun s g=>⟨some l,.is (.loop rec)⟩::⟨some D,.dN⟩::k2 s g) (fun s g=>by rw [rE];simp only [oy,List.cons_append]) step cE g0 (fun r=>k r oF) aO c.b7 h4 (.func (.yield l) #[] #[]) iU Dj MH LZ
 have mx:a.eval (.tmp gt)= .func (.func f) #[] iU.toArray:=by simp [Act.eval,Et,yb]
 refine⟨l,[Hs D],h4,{ target:= .fn (.func f) iU.toArray,args:= #[.func (.yield l) #[] #[]] },h4,f,#[.func (.yield l) #[] #[]]++iU.toArray,h4,Ev,?_,fun _ _=>trivial,?_,fun h=>by simp at h,?_⟩
 ·simp only [resolve,mx]
  simp [go_sem]
 ·simp [invoke,go_sem,e5.run]
 refine CallsIn.Kb ?_
 have Ln:(#[.func (.yield l) #[] #[]]++iU.toArray:Array Value)=(.func (.yield l) #[] #[]::iU).toArray:=by simp
 rw [Ln]
 refine Dk.mono fun e NG ⟨ahv,⟨⟨r,T9⟩,fa⟩,he,a2,aG,a0,a7,bn⟩=>?_
 subst he
 have p1:=Ex.after a2 aG (by simpa [aU] using a0) (by simpa [aU] using a7)
 rw [List.append_nil] at p1
 cases r with
 | inl cr=>
   simp only [Lr] at p1
   subst rE
   obtain⟨o,c7,e9⟩:=p1.own ⟨some l,.is (.loop rec)⟩ (by simp)
   have rj:o= .loop rec:=e9
   subst rj
   have nS:=run_endLoop (P:=c.P) c7 (by rw [lz];simp)
   have jY:rec.pending=none:=by rw [lz]
   rw [jY] at nS
   refine⟨none,_,nS,?_⟩
   have uC:=(p1.ri (i:=0) (cp':= .is (.loop { rec with state:= .exhausted })) (o':= .loop { rec with state:= .exhausted }) rfl rfl).pD 1
   rw [jY] at uC
   exact pE cr T9 fa D _ _ (uC.mark D)
 | inr q=>
   simp only [Lr] at p1
   subst Ew
   obtain⟨o,c7,e9⟩:=p1.own ⟨some l,.is (.loop { rec with state:= .done,pending:=some (fG q) })⟩ (by simp)
   have rj:o= .loop { rec with state:= .done,pending:=some (fG q) } :=e9
   subst rj
   have nS:=run_endLoop (P:=c.P) c7 (by simp)
   refine⟨some (fG q),_,nS,?_⟩
   have uC:=(p1.ri (i:=0) (cp':= .is (.loop { rec with state:= .exhausted,pending:=some (fG q) })) (o':= .loop { rec with state:= .exhausted,pending:=some (fG q) }) rfl rfl).pD 1
   exact xC q T9 fa D _ _ (uC.mark D)
end
end Gv
