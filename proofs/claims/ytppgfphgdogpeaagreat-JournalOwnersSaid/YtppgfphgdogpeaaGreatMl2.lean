/-
  The library of the decompiler, as far as it is needed here. Conditions: none.
-/
import Derived.Maps.RangeRun
import Derived.Shelf.SlSortCmp.NoneTotal
import Derived.Lib.QuietBelow
import Derived.Test.YtppgfphgdogpeaaGreatMl1
import Derived.Test.YtppgfphgdogpeaaGreatMl0
set_option linter.unusedVariables false
set_option linter.unusedSimpArgs false
namespace Gv
open Go
def F3 (p:Prop)[Decidable p]:Option Unit:=if p then some () else none
theorem ak.aip {β:Type}{p:Prop}[Decidable p]{k:Unit→ak β}{R:β→Prop}(h:ak.bind (ak.of (F3 p)) k R):p:=by
 obtain⟨r,h1,_⟩:=h;unfold F3 at h1;split at h1
 ·assumption
 cases h1
theorem ak.ag1 {β:Type}{p:Prop}[Decidable p]{k:Unit→ak β}{R:β→Prop}(h:ak.bind (ak.of (F3 p)) k R):k () R:=by
 obtain⟨r,_,ae⟩:=h;exact ae
section
variable {c:dy} {E:List (Nat×I)} {L:List aR} {ops:Array Oper} {Q:Exit→Act→World→Prop}
theorem abB {n:Nat}(aQ:n≤ops.size)(Wz:∀ i o,i<n→ops[i]? =some o→ ∀ e∈o.after,Region.binds .any e=true→e.on<i)
 (Fe:n=ops.size∨ (Region.sinkB .any ops n=true∧Region.chainB .any ops n=true))
 (zB:Region.seqB .any ops (ops.size - n) n ((List.range n).foldl (fun l i=>l.setIfInBounds i true) (Array.replicate ops.size false))=true)
 (S:Array Bool→Act→World→Prop)
 (vp:∀ (bD:Array Bool) (i:Nat) (o:Oper) (a:Act) (W:World),HeadInv .any ops n bD→i<n→ops[i]? =some o→bD.getD i false=false→ (∀ e∈o.after,Region.binds .any e=true→bD.getD e.on false=true)→S bD a W→
  wpOpIn c.F 9 c.P ops Q i (fun hx W'=>S (bD.setIfInBounds i true) hx W') a W)
 (o4:∀ (bD:Array Bool) (a:Act) (W:World),(∀ i,i<n→bD.getD i false=true)→S bD a W→c.ti ops Q (ops.toList.drop n) a W):
 ∀ m (bD:Array Bool) (a:Act) (W:World),((List.range n).filter fun i=> !bD.getD i true).length≤m→HeadInv .any ops n bD→S bD a W→wpAnyIn c.F 9 c.P .any ops Q (m+(ops.size - n)) bD a W:=by
 have qh:∀ i,i<n→ ∃ o,ops[i]? =some o:=fun i au=>⟨ops[i],by simp⟩
 have sZ:∀ (bD:Array Bool) (a:Act) (W:World),(∀ i,i<n→bD.getD i true=true)→HeadInv .any ops n bD→S bD a W→wpAnyIn c.F 9 c.P .any ops Q (ops.size - n) bD a W:=by
  intro bD a W xv inv st;have ao:=Q9 inv aQ xv;have x0:=zB;rw [← ao] at x0;have Jw:(ops.toList.drop n).length=ops.size - n:=by simp
  rw [← Jw] at x0 ⊢;exact HR (ops.toList.drop n) n bD a W (fun j=>by simp) x0 (o4 bD a W (fun i au=>by
   have h1:=xv i au;have ae:i<bD.size:=by rw [inv.size];omega
   simpa [ae] using h1) st)
 have more:∀ f (bD:Array Bool) a W,wpAnyIn c.F 9 c.P .any ops Q f bD a W→wpAnyIn c.F 9 c.P .any ops Q (f+1) bD a W:=by
  intro f;induction f with
  | zero=>intro bD a W h;exact⟨fun _=>h.2,fun i au=>by rw [h.1] at au;cases au⟩
  | succ f O2=>intro bD a W h;exact⟨h.1,fun i au=>wpOpIn_mono (fun hx qB dc=>O2 _ hx qB dc) (h.2 i au)⟩
 intro m
 induction m with
 | zero=>
   intro bD a W hm inv st
   rw [Nat.zero_add]
   refine sZ bD a W (fun i au=>?_) inv st
   cases h:bD.getD i true with
   | true=>rfl
   | false=>
     have:i∈ (List.range n).filter fun i=> !bD.getD i true:=List.mem_filter.2 ⟨List.mem_range.2 au,by rw [h];rfl⟩
     rw [List.length_eq_zero_iff.1 (Nat.le_zero.1 hm)] at this
     cases this
 | succ m cA=>
   intro bD a W hm inv st
   rw [show m+1+(ops.size - n)=(m+(ops.size - n))+1 by omega]
   by_cases Ff:∀ i,i<n→bD.getD i true=true
   ·have h1:=sZ bD a W Ff inv st
    have key:∀ k,wpAnyIn c.F 9 c.P .any ops Q (k+(ops.size - n)) bD a W:=by
     intro k;induction k with
     | zero=>rw [Nat.zero_add];exact h1
     | succ k O3=>rw [show k+1+(ops.size - n)=(k+(ops.size - n))+1 by omega];exact more _ _ _ _ O3
    exact more _ _ _ _ (key m)
   have hex:∃ i,i<n∧bD.getD i true=false:=by
    false_or_by_contra;rename_i ae;exact Ff fun i au=>by
     cases h:bD.getD i true with
     | true=>rfl
     | false=>exact absurd ⟨i,au,h⟩ ae
   have MZ:∀ t∈Region.ready .any ops bD,t<n:=by
    intro t zO;rcases Nat.lt_or_ge t n with h | h
    ·exact h
    obtain⟨i,au,nz⟩:=hex;have ahZ:t<ops.size:=by
     obtain⟨_,o,bp,_⟩:=mem_ready.1 zO;exact(Array.getElem?_eq_some_iff.1 bp).1
    rcases Fe with h1 | h1
    ·omega
    exact absurd zO (tail_waits h1.1 h1.2 (by omega) inv _ i rfl au nz t h)
   refine⟨fun bH=>?_,fun i au=>?_⟩
   ·exfalso
    have key:∀ d i,i≤d→i<n→bD.getD i true=true:=by
     intro d;induction d with
     | zero=>
       intro i Gw au
       cases ao:bD.getD i true with
       | true=>rfl
       | false=>
         obtain⟨o,bp⟩:=qh i au
         have:i∈Region.ready .any ops bD:=mem_ready.2 ⟨ao,o,bp,fun e he hb=>by have:=Wz i o au bp e he hb;omega⟩
         rw [bH] at this;cases this
     | succ d O4=>
       intro i Gw au
       cases ao:bD.getD i true with
       | true=>rfl
       | false=>
         obtain⟨o,bp⟩:=qh i au
         have:i∈Region.ready .any ops bD:=mem_ready.2 ⟨ao,o,bp,fun e he hb=>by
          have h1:=Wz i o au bp e he hb;have ae:=O4 e.on (by omega) (by omega);have aA:e.on<bD.size:=by rw [inv.size];omega
          simpa [aA] using ae⟩
         rw [bH] at this;cases this
    obtain⟨i,au,nz⟩:=hex
    have:=key i i (Nat.le_refl _) au
    rw [nz] at this;cases this
   have gu:i<n:=MZ i au
   obtain⟨nz,o,bp,EF⟩:=mem_ready.1 au
   have Cn:i<bD.size:=by rw [inv.size];omega
   have Oi:((List.range n).filter fun j=> !(bD.setIfInBounds i true).getD j true).length≤m:=by
    have:((List.range n).filter fun j=> !(bD.setIfInBounds i true).getD j true).length<((List.range n).filter fun j=> !bD.getD j true).length:=by
     refine TE (fun j=> !bD.getD j true) (fun j=> !(bD.setIfInBounds i true).getD j true) i (by simp only [nz];rfl) ?_ (fun j aF=>?_) n gu
     ·simp [Cn]
     by_cases e:i=j
     ·subst e;simp only [nz];rfl
     rw [getD_set_ne true e] at aF;exact aF
    omega
   exact wpOpIn_mono (fun hx W' rf=>cA _ hx W' Oi (inv.set au gu) rf) (vp bD i o a W inv gu bp (getD_both nz) EF st)
def jH (ls:Nat→Bool)(E:List (Nat×I)):Nat→List (Option (Nat×I))→List (Nat×I)
 | _,[]=>E
 | k,none::r=>jH ls E (k+1) r
 | k,some x::r=>bif ls k then x::jH ls E (k+1) r else jH ls E (k+1) r
def ry (fs:List (Option (Nat×I)))(E:List (Nat×I)):List Nat→List (Nat×I)
 | []=>E
 | i::r=>match fs[i]? with
   | some (some x)=>x::ry fs E r
   | _=>ry fs E r
def k3 (fs:List (Option (Nat×I))):List Nat:=fs.filterMap fun x=>x.map (·.1)
theorem M0 {ls:Nat→Bool}{E:List (Nat×I)}{t:Nat}{τ:I} :∀ {fs:List (Option (Nat×I))} {k:Nat},look (jH ls E k fs) t=some τ→ (∃ j,ls (k+j)=true∧fs[j]? =some (some (t,τ)))∨look E t=some τ
 | [],k,h=>.inr h
 | none::r,k,h=>by
   rcases M0 (fs:=r) (k:=k+1) h with⟨j,h1,ae⟩ | h1
   ·exact .inl ⟨j+1,by rw [← h1];congr 1;omega,by simpa using ae⟩
   exact .inr h1
 | some x::r,k,h=>by
   have aI:look (jH ls E (k+1) r) t=some τ→ (∃ j,ls (k+j)=true∧ (some x::r)[j]? =some (some (t,τ)))∨look E t=some τ:=fun h=>by
    rcases M0 (fs:=r) (k:=k+1) h with⟨j,h1,ae⟩ | h1
    ·exact .inl ⟨j+1,by rw [← h1];congr 1;omega,by simpa using ae⟩
    exact .inr h1
   unfold jH at h;cases hk:ls k with
   | false=>rw [hk] at h;exact aI h
   | true=>
     rw [hk] at h
     simp only [cond_true,look] at h
     cases hb:Nat.beq x.1 t with
     | true=>
       rw [hb] at h
       have h1:x.2=τ:=by simpa using h
       have ae:=fm.1 hb
       exact .inl ⟨0,hk,by rw [← h1,← ae];rfl⟩
     | false=>rw [hb] at h;exact aI h
theorem BE {ls:Nat→Bool}{E:List (Nat×I)}{t:Nat} :∀ {fs:List (Option (Nat×I))} {k:Nat},t ∉ k3 fs→look (jH ls E k fs) t=look E t
 | [],k,h=>rfl
 | none::r,k,h=>BE (fs:=r) (k:=k+1) h
 | some x::r,k,h=>by
   have h1:t≠x.1∧t ∉ k3 r:=by simpa [k3] using h
   unfold jH;cases hk:ls k with
   | false=>exact BE h1.2
   | true=>
     have hb:Nat.beq x.1 t=false:=by
      cases hb:Nat.beq x.1 t with
      | false=>rfl
      | true=>exact absurd (fm.1 hb).symm h1.1
     simp only [cond_true,look,hb,cond_false]
     exact BE h1.2
theorem Ih {fs:List (Option (Nat×I))}{j:Nat}{x:Nat×I}(h:fs[j]? =some (some x)):x.1∈k3 fs:=
 List.mem_filterMap.2 ⟨_,List.mem_of_getElem? h,rfl⟩
theorem I1 {ls:Nat→Bool}{E:List (Nat×I)} :∀ {fs:List (Option (Nat×I))} {k j:Nat} {x:Nat×I},(k3 fs).Nodup→fs[j]? =some (some x)→ls (k+j)=true→look (jH ls E k fs) x.1=some x.2
 | [],k,j,x,_,h,_=>by simp at h
 | none::r,k,j,x,aQ,h,ao=>by
   cases j with
   | zero=>simp at h
   | succ j=>exact I1 (fs:=r) (k:=k+1) (j:=j) aQ (by simpa using h) (by rw [← ao];congr 1;omega)
 | some y::r,k,j,x,aQ,h,ao=>by
   have qs:y.1 ∉ k3 r∧ (k3 r).Nodup:=by simpa [k3] using aQ
   cases j with
   | zero=>
     have:y=x:=by simpa using h
     subst this
     have ao:ls k=true:=ao
     unfold jH
     simp only [ao,cond_true,look,Nat.beq_refl]
   | succ j=>
     have dc:r[j]? =some (some x):=by simpa using h
     have au:=I1 (fs:=r) (k:=k+1) (E:=E) (ls:=ls) qs.2 dc (by rw [← ao];congr 1;omega)
     unfold jH
     cases hk:ls k with
     | false=>exact au
     | true=>
       have hb:Nat.beq y.1 x.1=false:=by
        cases hb:Nat.beq y.1 x.1 with
        | false=>rfl
        | true=>exact absurd (by rw [fm.1 hb];exact Ih dc) qs.1
       simp only [cond_true,look,hb,cond_false]
       exact au
theorem TK {fs:List (Option (Nat×I))}{E:List (Nat×I)}{t:Nat}{τ:I} :∀ {us:List Nat},look (ry fs E us) t=some τ→ (∃ j∈us,fs[j]? =some (some (t,τ)))∨look E t=some τ
 | [],h=>.inr h
 | i::r,h=>by
   have aI:look (ry fs E r) t=some τ→ (∃ j∈i::r,fs[j]? =some (some (t,τ)))∨look E t=some τ:=fun h=>by
    rcases TK h with⟨j,h1,ae⟩ | h1
    ·exact .inl ⟨j,List.mem_cons_of_mem _ h1,ae⟩
    exact .inr h1
   unfold ry at h;split at h
   ·rename_i x ar;simp only [look] at h;cases hb:Nat.beq x.1 t with
    | true=>
      rw [hb] at h
      have h1:x.2=τ:=by simpa using h
      have ae:=fm.1 hb
      exact .inl ⟨i,by simp,by rw [ar,← h1,← ae]⟩
    | false=>rw [hb] at h;exact aI h
   exact aI h
theorem afW {fs:List (Option (Nat×I))}{E:List (Nat×I)}{ls:Nat→Bool}{us:List Nat}(aQ:(k3 fs).Nodup)(an:∀ t∈k3 fs,look E t=none)(hu:∀ j∈us,ls j=true){t:Nat}{τ:I}(h:look (ry fs E us) t=some τ):look (jH ls E 0 fs) t=some τ:=by
 rcases TK h with⟨j,h1,ae⟩ | h1
 ·exact I1 aQ ae (by rw [Nat.zero_add];exact hu j h1)
 rw [BE fun ae=>by rw [an t ae] at h1;cases h1];exact h1
theorem R5:∀ {E:List (Nat×I)} {t:Nat},(E.map (·.1)).contains t=false→look E t=none
 | [],t,_=>rfl
 | (s,σ)::r,t,h=>by
   have h1: ¬ t=s∧ (r.map (·.1)).contains t=false:=by simpa using h
   have hb:Nat.beq s t=false:=by
    cases hb:Nat.beq s t with
    | false=>rfl
    | true=>exact absurd (fm.1 hb).symm h1.1
   simp only [look,hb,cond_false];exact R5 h1.2
def TL (ops:Array Oper)(n w o8 GY:Nat)(fL:List (Option Nat))(so:List (List Nat))(E:List Nat):Bool:=
 decide (fL.length=n)&&decide (n≤ops.size)&&decide (w<n)&&decide (o8::fL.filterMap id).Nodup&&((o8::fL.filterMap id).all fun s=> !E.contains s&&Nat.blt s GY)&&
 ((List.range n).all fun i=>((ops[i]?).map fun o=>(o.dst==if i=w then some o8 else(fL[i]?).getD none)&&o.guard.isNone&&(decide (i=w)||((fL[i]?).getD none).isSome)&&o.after.all fun e=> !Region.binds .any e||decide (e.on<i)).getD false&&
   ((so[i]?).getD []).all fun k=>decide (k≠w)&&Region.waitsFor .any ops i k)&&
 decide ((fL[w]?).getD none=none)&&
 (decide (n=ops.size)||(Region.sinkB .any ops n&&Region.chainB .any ops n))&&
 Region.seqB .any ops (ops.size - n) n ((List.range n).foldl (fun l i=>l.setIfInBounds i true) (Array.replicate ops.size false))
def vd (c:dy)(E:List (Nat×I))(L:List aR){γ:Type}(K:γ→Prop)(il:γ→List aR)(fs:List (Option (Nat×I))):List Oper→List (Option (Nat×I))→List (List Nat)→Prop
 | o::os,some x::r,u::us=>(b6 c (ry fs E u) L o x.2∧ ∀ y,K y→b6 c (ry fs E u) (il y) o x.2)∧vd c E L K il fs os r us
 | _::os,none::r,_::us=>vd c E L K il fs os r us
 | _,_,_=>True
theorem vd.get {γ:Type}{K:γ→Prop}{il:γ→List aR}{fs:List (Option (Nat×I))} :∀ {os:List Oper} {rs:List (Option (Nat×I))} {us:List (List Nat)},vd c E L K il fs os rs us→ ∀ {i:Nat} {o:Oper} {x:Nat×I} {u:List Nat},os[i]? =some o→rs[i]? =some (some x)→us[i]? =some u→
 b6 c (ry fs E u) L o x.2∧ ∀ y,K y→b6 c (ry fs E u) (il y) o x.2
 | o::os,some x::r,u::us,h,0,o',KD,KE,h1,ae,aA=>by
   have av:o=o':=by simpa using h1
   have aX:x=KD:=by simpa using ae
   have c0:u=KE:=by simpa using aA
   subst av aX c0;exact h.1
 | o::os,some x::r,u::us,h,i+1,o',KD,KE,h1,ae,aA=>vd.get h.2 (i:=i) (by simpa using h1) (by simpa using ae) (by simpa using aA)
 | o::os,none::r,u::us,h,0,o',KD,KE,h1,ae,aA=>by simp at ae
 | o::os,none::r,u::us,h,i+1,o',KD,KE,h1,ae,aA=>by
   have h:vd c E L K il fs os r us:=h;exact vd.get h (i:=i) (by simpa using h1) (by simpa using ae) (by simpa using aA)
 | [],_,_,_,i,_,_,_,h1,_,_=>by simp at h1
 | _::_,[],_,_,i,_,_,_,_,ae,_=>by simp at ae
 | _::_,_::_,[],_,i,_,_,_,_,_,aA=>by simp at aA
theorem IT {oH:Nat}{l:List Oper}(hm:c.P.follows .mixedOrders=true)(n w o8 GY:Nat){γ:Type}{K:γ→Prop}(fs:List (Option (Nat×I)))(fL:List (Option Nat))(so:List (List Nat))(es:List Nat)(Kh:γ→I)(il:γ→List aR)
 {fU:Oper} {PS:List Nat} (O7:l[w]? =some fU) (ai1:so[w]? =some PS) (O8:c.n=GY) (ai2:(fs.map fun x=>x.map (·.1))=fL) (ak3:so.length=n) (rj:E.map (·.1)=es) (jF:TL l.toArray n w o8 GY fL so es=true)
 (cB:vd c E L K il fs (l.take n) fs so)
 (hw:∀ (wj:Exit→Act→World→Prop) (E':List (Nat×I)),(∀ {t τ},look (ry fs E PS) t=some τ→look E' t=some τ)→ (∀ y,K y→ad c wj .normal ((o8,Kh y)::E') (il y))→ab c l.toArray wj [fU] E' L)
 (bP:∀ y,K y→ab c l.toArray Q (l.drop n) ((o8,Kh y)::jH (fun _=>true) E 0 fs) (il y)):ag c Q (.region oH l.toArray true) E L:=fun a W s=>by
 subst O8 ai2 rj
 refine wpIn_region_any hm ?_
 simp only [TL,Bool.and_eq_true,decide_eq_true_eq,Bool.or_eq_true] at jF
 obtain⟨⟨⟨⟨⟨⟨⟨⟨hlen,aQ⟩,ai3⟩,k9⟩,WA⟩,pA⟩,O9⟩,Fe⟩,zB⟩:=jF
 have hlen:fs.length=n:=by simpa using hlen
 have ai4:(fs.map fun x=>x.map (·.1)).filterMap id=k3 fs:=by
  unfold k3;rw [List.filterMap_map];rfl
 rw [ai4] at k9 WA
 obtain⟨WB,k9⟩:=List.nodup_cons.1 k9
 have ai5:∀ t,(E.map (·.1)).contains t=false→look E t=none:=fun t h=>R5 h
 have an:∀ t∈o8::k3 fs,look E t=none∧Nat.blt t c.n=true:=fun t bP=>by
  have:=List.all_eq_true.1 WA t bP;simp only [Bool.and_eq_true,Bool.not_eq_true'] at this;exact⟨ai5 t this.1,this.2⟩
 have Pa:∀ t∈k3 fs,look E t=none:=fun t bP=>(an t (List.mem_cons_of_mem _ bP)).1
 have CG:∀ i o,i<n→l.toArray[i]? =some o→ (o.dst=if i=w then some o8 else((fs[i]?).getD none).map (·.1))∧o.guard=none∧ (i=w∨ ∃ x,fs[i]? =some (some x))∧ (∀ e∈o.after,Region.binds .any e=true→e.on<i)∧ ∀ k∈ (so[i]?).getD [],k≠w∧Region.waitsFor .any l.toArray i k=true:=fun i o au bp=>by
  have h1:=List.all_eq_true.1 pA i (List.mem_range.2 au);simp only [Bool.and_eq_true] at h1;obtain⟨ae,aA⟩:=h1;simp only [bp,Option.map_some,Option.getD_some,Bool.and_eq_true,beq_iff_eq] at ae;obtain⟨⟨⟨aV,bc⟩,bs⟩,df⟩:=ae;have ai6:((fs.map fun x=>x.map (·.1))[i]?).getD none=((fs[i]?).getD none).map (·.1):=by
   rw [List.getElem?_map];cases fs[i]? with
   | none=>rfl
   | some x=>rfl
  rw [ai6] at aV bs;refine⟨aV,by simpa using bc,?_,fun e he hb=>?_,fun k hk=>?_⟩
  ·simp only [Bool.or_eq_true,decide_eq_true_eq] at bs;rcases bs with bs | bs
   ·exact .inl bs
   right;cases ar:fs[i]? with
   | none=>rw [ar] at bs;cases bs
   | some x=>
     cases x with
     | none=>rw [ar] at bs;cases bs
     | some x=>exact⟨x,rfl⟩
  ·have:=Array.all_eq_true_iff_forall_mem.1 df e he;simp [hb] at this;exact this
  have:=List.all_eq_true.1 aA k hk;simpa using this
 have ah3:fs[w]? =some none:=by
  have h1:((fs.map fun x=>x.map (·.1))[w]?).getD none=none:=O9;rw [List.getElem?_map] at h1;cases ar:fs[w]? with
  | none=>have:=List.getElem?_eq_none_iff.1 ar;omega
  | some x=>
    cases x with
    | none=>rfl
    | some x=>rw [ar] at h1;cases h1
 let S:Array Bool→Act→World→Prop:=fun bD a W=>(bD.getD w false=false→bN c (jH (fun i=>bD.getD i false) E 0 fs) L a W)∧ (bD.getD w false=true→ ∃ y,K y∧bN c ((o8,Kh y)::jH (fun i=>bD.getD i false) E 0 fs) (il y) a W)
 have h:=abB (c:=c) (ops:=l.toArray) (Q:=Q) aQ (fun i o au bp=>(CG i o au bp).2.2.2.1) Fe zB S ?_ ?_ n (Array.replicate l.toArray.size false) a W.drew (Nat.le_trans (List.length_filter_le _ _) (by simp)) ?_ ?_
 ·rw [show n+(l.toArray.size - n)=l.toArray.size by omega] at h
  exact h
 ·
  intro bD i o a W inv au bp nz EF eH
  obtain⟨bJ,cY,eM,lz,kM⟩:=CG i o au bp
  have Cn:i<bD.size:=by rw [inv.size];omega
  have Kg:(bD.setIfInBounds i true).getD i false=true:=by simp [Cn]
  have ij:∀ j,j≠i→ (bD.setIfInBounds i true).getD j false=bD.getD j false:=fun j aF=>getD_set_ne false (fun e=>aF e.symm)
  have Pb:i<so.length:=by omega
  have JQ:∀ k∈so[i],bD.getD k false=true:=fun k hk=>by
   have:=kM k (by rw [List.getElem?_eq_getElem Pb];exact hk);obtain⟨x9,qv,e,he,hb,zT⟩:=Region.waitsFor_spec this.2;rw [bp] at qv;cases qv;rw [← zT];exact EF e he hb
  have WC:l[i]? =some o:=by simpa using bp
  have Oj:∀ {t τ},look (ry fs E so[i]) t=some τ→look (jH (fun i=>bD.getD i false) E 0 fs) t=some τ:=fun {t τ} h=>afW k9 Pa JQ h
  by_cases Ki:i=w
  ·subst Ki
   rw [if_pos rfl] at bJ
   have av:fU=o:=Option.some.inj (O7.symm.trans WC)
   have aX:PS=so[i]:=Option.some.inj (ai1.symm.trans (List.getElem?_eq_getElem Pb))
   subst av aX
   have O5:=hw (qH (fun hx W'=>S (bD.setIfInBounds i true) hx W') Q) (jH (fun i=>bD.getD i false) E 0 fs) Oj fun y a1 hx W' st=>?_
   ·exact HU bp (O5 a W (eH.1 nz))
   refine⟨fun h=>(by rw [Kg] at h;cases h),fun _=>⟨y,a1,?_⟩⟩
   have:jH (fun j=>(bD.setIfInBounds i true).getD j false) E 0 fs=jH (fun j=>bD.getD j false) E 0 fs:=by
    have key:∀ (gs:List (Option (Nat×I))) (k:Nat),(∀ j,gs[j]? ≠none→gs[j]? =fs[k+j]?)→jH (fun j=>(bD.setIfInBounds i true).getD j false) E k gs=jH (fun j=>bD.getD j false) E k gs:=by
     intro gs;induction gs with
     | nil=>intro k _;rfl
     | cons x r cA=>
       intro k hk
       have aI:=cA (k+1) fun j aF=>by
        have:=hk (j+1) (by simpa using aF);rw [List.getElem?_cons_succ] at this;rw [this];congr 1;omega
       cases x with
       | none=>exact aI
       | some x=>
         have bH:=hk 0 (by simp)
         have o6:k≠i:=fun e=>by
          rw [e,Nat.add_zero,ah3] at bH;simp at bH
         unfold jH
         simp only [ij k o6,aI]
    exact key fs 0 fun j _=>by rw [Nat.zero_add]
   rw [this];exact st
  obtain⟨x,ar⟩:=eM.resolve_left Ki
  rw [if_neg Ki,ar] at bJ
  have WD:(bD.setIfInBounds i true).getD w false=bD.getD w false:=ij w fun e=>Ki e.symm
  have bO:=vd.get cB (i:=i) (by rw [List.getElem?_take,if_pos au];exact WC) ar (List.getElem?_eq_getElem Pb)
  have Pc:=Ih ar
  have akR:∀ (lb:List (Nat×I)),(∀ t τ,look ((x.1,x.2)::lb) t=some τ→True):=fun _ _ _ _=>trivial
  have U7:∀ t τ,look (jH (fun j=>(bD.setIfInBounds i true).getD j false) E 0 fs) t=some τ→look ((x.1,x.2)::jH (fun j=>bD.getD j false) E 0 fs) t=some τ:=fun t τ ao=>by
   rcases M0 ao with⟨j,tu,GZ⟩ | h1
   ·rw [Nat.zero_add] at tu;by_cases kf:j=i
    ·subst kf;rw [ar] at GZ;cases GZ;simp only [look,Nat.beq_refl,cond_true]
    rw [ij j kf] at tu;have ae:=I1 (E:=E) (ls:=fun j=>bD.getD j false) (k:=0) k9 GZ (by rw [Nat.zero_add];exact tu);cases hb:Nat.beq x.1 t with
    | false=>simp only [look,hb,cond_false];exact ae
    | true=>
      exfalso
      have av:=fm.1 hb
      have uniq:∀ (gs:List (Option (Nat×I))) (p q:Nat) (u v:Nat×I),(k3 gs).Nodup→gs[p]? =some (some u)→gs[q]? =some (some v)→u.1=v.1→p=q:=by
       intro gs;induction gs with
       | nil=>intro p q u v _ hp;simp at hp
       | cons z r cA=>
         intro p q u v aQ hp hq e
         have aI:(k3 r).Nodup:=by
          cases z with
          | none=>exact aQ
          | some z=>exact(show z.1 ∉ k3 r∧ (k3 r).Nodup by simpa [k3] using aQ).2
         cases p with
         | zero=>
           have cJ:z=some u:=by simpa using hp
           subst cJ
           cases q with
           | zero=>rfl
           | succ q=>exact absurd (by rw [e];exact Ih (by simpa using hq)) (show u.1 ∉ k3 r∧ (k3 r).Nodup by simpa [k3] using aQ).1
         | succ p=>
           cases q with
           | zero=>
             have cJ:z=some v:=by simpa using hq
             subst cJ
             exact absurd (by rw [← e];exact Ih (by simpa using hp)) (show v.1 ∉ k3 r∧ (k3 r).Nodup by simpa [k3] using aQ).1
           | succ q=>rw [cA p q u v aI (by simpa using hp) (by simpa using hq) e]
      exact kf (uniq fs j i _ _ k9 GZ ar av.symm)
   have hb:Nat.beq x.1 t=false:=by
    cases hb:Nat.beq x.1 t with
    | false=>rfl
    | true=>
      have av:=fm.1 hb
      rw [← av,Pa x.1 Pc] at h1;cases h1
   simp only [look,hb,cond_false];rw [BE fun ae=>by rw [Pa t ae] at h1;cases h1];exact h1
  have xU:=(an x.1 (List.mem_cons_of_mem _ Pc)).2
  refine HU bp ?_
  cases Kj:bD.getD w false with
  | false=>
    refine ab.v (τ:=x.2) (d:=x.1) (fun a W st=>bO.1 a W (st.less fun t τ h=>⟨τ,Oj h,fun _ _ _ h=>h⟩)) cY bJ xU (ab.nil fun hx W' st=>⟨fun _=>st.less fun t τ h=>⟨τ,U7 t τ h,fun _ _ _ h=>h⟩,fun h=>?_⟩) a W (eH.1 Kj)
    rw [WD,Kj] at h;cases h
  | true=>
    obtain⟨y,a1,ai7⟩:=eH.2 Kj
    have ai8:∀ {t τ},look (ry fs E so[i]) t=some τ→look ((o8,Kh y)::jH (fun i=>bD.getD i false) E 0 fs) t=some τ:=fun {t τ} h=>by
     have h1:=Oj h;cases hb:Nat.beq o8 t with
     | false=>simp only [look,hb,cond_false];exact h1
     | true=>
       exfalso
       have av:=fm.1 hb
       subst av
       rw [BE WB,(an o8 (by simp)).1] at h1;cases h1
    refine ab.v (τ:=x.2) (d:=x.1) (fun a W st=>bO.2 y a1 a W (st.less fun t τ h=>⟨τ,ai8 h,fun _ _ _ h=>h⟩)) cY bJ xU (ab.nil fun hx W' st=>⟨fun h=>?_,fun _=>⟨y,a1,st.less fun t τ h=>⟨τ,?_,fun _ _ _ h=>h⟩⟩⟩) a W ai7
    ·rw [WD,Kj] at h;cases h
    cases hb:Nat.beq o8 t with
    | true=>
      have av:=fm.1 hb
      subst av
      have oD:Nat.beq x.1 o8=false:=by
       cases oD:Nat.beq x.1 o8 with
       | false=>rfl
       | true=>exact absurd (by rw [← fm.1 oD];exact Pc) WB
      simp only [look,hb,cond_true] at h ⊢
      simp only [oD,cond_false];exact h
    | false=>
      simp only [look,hb,cond_false] at h ⊢
      have:=U7 t τ h
      simp only [look] at this
      exact this
 ·intro bD a W xv eH
  obtain⟨y,a1,st⟩:=eH.2 (xv w ai3)
  refine bP y a1 a W (st.less fun t τ h=>⟨τ,?_,fun _ _ _ h=>h⟩)
  have key:∀ (gs:List (Option (Nat×I))) (k:Nat),k+gs.length≤n→jH (fun j=>bD.getD j false) E k gs=jH (fun _=>true) E k gs:=by
   intro gs;induction gs with
   | nil=>intro k _;rfl
   | cons x r cA=>
     intro k hk
     have aI:=cA (k+1) (by simp only [List.length_cons] at hk;omega)
     cases x with
     | none=>exact aI
     | some x=>
       unfold jH
       simp only [xv k (by simp only [List.length_cons] at hk;omega),aI]
  rw [key fs 0 (by omega)];exact h
 ·exact
  {size:=by simp
   closed:=fun j x9 _ ao=>by rw [getD_replicate_false] at ao;cases ao
   tail:=fun t _ bP=>by simp at bP;simp [bP] }
 refine⟨fun _=>?_,fun h=>by rw [getD_replicate_false] at h;cases h⟩
 have key:∀ (gs:List (Option (Nat×I))) (k:Nat),jH (fun j=>(Array.replicate l.toArray.size false).getD j false) E k gs=E:=by
  intro gs;induction gs with
  | nil=>intro k;rfl
  | cons x r cA=>
    intro k
    have aI:=cA (k+1)
    cases x with
    | none=>exact aI
    | some x=>
      unfold jH
      simp only [getD_replicate_false,cond_false] at aI ⊢
      exact aI
 show bN c (jH (fun j=>(Array.replicate l.toArray.size false).getD j false) E 0 fs) L a W.drew
 rw [key]
 exact s.world (Fr.drew W)
end
def Ag (n:Nat)(vis:List Nat):Option Nat→Prop
 | none=> ∀ j,j<n→j∈vis
 | some j=>j<n∧j ∉ vis
def ak.next (n:Nat)(vis:List Nat):ak (Option Nat):=fun R=> ∀ j,Ag n vis j→R j
theorem ak.aaq {β:Type}{n:Nat}{vis:List Nat}{k:Option Nat→ak β}{R:β→Prop}(h:ak.bind (ak.next n vis) k R)(j:Option Nat)(aF:Ag n vis j):k j R:=h j aF
def nR (es:Array MapEntry)(vis:List Nat):Array Nat:=(vis.filterMap fun j=>(es[j]?).map (·.born)).toArray
def oC (akk:Nat)(es:Array MapEntry)(clock:Nat)(vis:List Nat):Obj:= .mapIter (some akk) clock (nR es vis) clock
structure KF (es:Array MapEntry)(clock n:Nat):Prop where
 size:es.size=n
 born:∀ x∈es.toList,x.born<clock
 nodup:(es.toList.map MapEntry.born).Nodup
def e3.and (cp:e3)(o:Obj):e3 where
 holds A W x:=cp.holds A W x∧x=o
 o1:=cp.o1
 mono e h:=⟨cp.mono e h.1,h.2⟩
def vD (b:Nat)(o:Obj)(e:aR):aR:=if e.key=some b then⟨e.key,e.cp.and o⟩ else e
def qo (b:Nat)(o:Obj)(L:List aR):List aR:=L.map (vD b o)
theorem abC (b:Nat)(o:Obj)(e:aR):(vD b o e).key=e.key:=by unfold vD;split <;> rfl
theorem M1 {b:Nat}{o:Obj} :∀ {L:List aR},aT (qo b o L)=aT L
 | []=>rfl
 | e::L=>by
   have cA:=M1 (b:=b) (o:=o) (L:=L);show aT (vD b o e::qo b o L)=_;unfold aT;rw [abC,cA]
def I.WE (b:Bool):I where
 holds _ _ v:= ∃ xs:Array Value,v= .tuple xs∧xs[0]? =some (.bool b)
 mono _ h:=h
section
variable {c:dy} {E:List (Nat×I)} {L:List aR} {ops:Array Oper} {Q:Exit→Act→World→Prop}
variable {d:Option Tmp} {ty:TypeId} {pos:String} {af:Array Edge} {g:Option (Nat×Bool)} {x y z:Operand} {t t2:TypeId}
variable {b0:Type} [eY b0] {hp:aC b0} {loc:List aR}
theorem TB {b:Nat}{o:Obj}{α β:Type}[aj α][aj β]{kv:List (α×β)}{wy:b0}(n:Nat)(al:L.drop n=Gv.qo b o (aH hp))(hp':pat hp b=some wy)(hk:eY.gT b wy= [⟨some b,.map kv⟩]):(⟨some b,e3.and (.map kv) o⟩:aR)∈L:=by
 have h1:(⟨some b,.map kv⟩:aR)∈aH hp:=eb (n:=0) (hp:=hp) rfl hp' hk;have ae:vD b o ⟨some b,.map kv⟩∈Gv.qo b o (aH hp):=List.mem_map.2 ⟨_,h1,rfl⟩;rw [← al] at ae;have aA:=List.mem_of_mem_drop ae;unfold vD at aA;rw [if_pos rfl] at aA;exact aA
theorem bN.swap {L':List aR}{a:Act}{W:World}(h:bN c E L a W)(hk:aT L'=aT L)(bp:∀ e∈L',e.ok (aT L++c.cc) W):bN c E L' a W:=
 {defers:=h.defers
  size:=h.size
  env:=by rw [hk];exact h.env
  eh:=h.eh
  own:=by rw [hk];exact bp
  nodup:=by rw [hk];exact h.nodup
  lt:=by rw [hk];exact h.lt
  hf:=by rw [hk];exact h.hf
  fB:=by rw [hk];exact h.fB }
theorem bN.qo {a:Act}{W:World}{M:List aR}(h:bN c E (loc++M) a W){b:Nat}{o:Obj}(hb:W.heap[b]? =some o):bN c E (loc++Gv.qo b o M) a W:=by
 refine h.swap (by rw [fG,fG,M1]) fun e he=>?_;rcases List.mem_append.1 he with he | he
 ·exact h.own e (List.mem_append_left _ he)
 obtain⟨h3,bH,rfl⟩:=List.mem_map.1 he;have h1:=h.own h3 (List.mem_append_right _ bH);unfold vD;split
 ·rename_i hk;unfold aR.ok at h1 ⊢;simp only [hk] at h1 ⊢;obtain⟨o',g1,g2⟩:=h1;have:o'=o:=by rw [hb] at g1;exact(Option.some.inj g1).symm
  exact⟨o',g1,g2,this⟩
 exact h1
theorem bN.Nx {a:Act}{W:World}{M:List aR}{b:Nat}{o:Obj}(h:bN c E (loc++Gv.qo b o M) a W):bN c E (loc++M) a W:=by
 have hk:aT (loc++M)=aT (loc++Gv.qo b o M):=by rw [fG,fG,M1]
 refine h.swap hk fun e he=>?_;rcases List.mem_append.1 he with he | he
 ·exact h.own e (List.mem_append_left _ he)
 have h1:=h.own (vD b o e) (List.mem_append_right _ (List.mem_map.2 ⟨e,he,rfl⟩));unfold vD at h1;split at h1
 ·rename_i de;unfold aR.ok at h1 ⊢;simp only [de] at h1 ⊢;obtain⟨o',g1,g2,_⟩:=h1;exact⟨o',g1,g2⟩
 exact h1
theorem ad.Nx {z:Exit}{b:Nat}{o:Obj}(n:Nat)(al:L.drop n=Gv.qo b o (aH hp))(k:ad c Q z E (L.take n++aH hp)):ad c Q z E L:=fun a W s=>by
 have e:L=L.take n++Gv.qo b o (aH hp):=by rw [← al,List.take_append_drop]
 rw [e] at s;exact k a W s.Nx
theorem mi.get {α β:Type}[aj α][aj β]{A W} :∀ {es:List MapEntry} {kv:List (α×β)},mi A W es kv→ ∀ {j:Nat} {x:α×β},kv[j]? =some x→ ∃ e,es[j]? =some e∧ (I.of x.1).holds A W e.key∧ (I.of x.2).holds A W e.val
 | _,_,.nil,j,x,h=>by simp at h
 | _,_,.cons h1 ae r,0,x,h=>by
   have h:some _=some x:=h;cases h;exact⟨_,rfl,h1,ae⟩
 | _,_,.cons h1 ae r,j+1,x,h=>by
   obtain⟨e,g1,g2⟩:=r.get (j:=j) (by simpa using h);exact⟨e,by simpa using g1,g2⟩
theorem ab.adg {rest:List Oper}{bg p key elem:Nat}{α β:Type}[aj α][aj β]{kv:List (α×β)}{wy:b0}(n:Nat)(al:L.drop n=aH hp)(hu:c.P.underlying t=some (.map key elem))(ar:bn c E L x (.of (⟨some p⟩:fj)))(hp':pat hp p=some wy)(hk:eY.gT p wy= [⟨some p,.map kv⟩])(aQ:Nat.blt bg c.n=true)
 (k:∀ r es clock,KF es clock kv.length→ab c ops Q rest ((bg,.eq (.pointer (some ⟨r,0,none⟩)))::E) (⟨some r,.is (oC p es clock [])⟩::(L.take n++Gv.qo p (.map es clock) (aH hp)))):
 ab c ops Q (⟨some bg,.range t x,ty,pos,af,none⟩::rest) E L:=fun a W s=>by
 have e:L=L.take n++aH hp:=by rw [← al,List.take_append_drop]
 have hm:(⟨some p,.map kv⟩:aR)∈L:=by
  rw [e];exact eb (n:=(L.take n).length) (hp:=hp) (by simp) hp' hk
 obtain⟨es,clock,bp,ae,aA,aV⟩:=s.Fc hm
 have mV:=w6.1 (ar a W s)
 have rj:KF es clock kv.length:=⟨by have:=ae.length;simpa using this,aA,aV⟩
 refine jl rfl (R:=fun v W'=>v= .pointer (some ⟨W.heap.size,0,none⟩)∧W'=W.alloc (oC p es clock [])) (.mL ?_ ⟨rfl,rfl⟩) fun v W' ⟨bm,hw⟩=>?_
 ·have bO:(getObj p).run c.P W= .ok (.map es clock) W:=by simp [getObj,Sem.run,bp]
  simp [execOp,Instr.range,Sem.run_bind,run_underlying hu,mV,bO,newObj,Sem.run]
  rfl
 subst bm
 subst hw
 have s1:=s.alloc (cp:= .is (oC p es clock [])) (o:=oC p es clock []) rfl
 refine k W.heap.size es clock rj _ _ (bN.put ?_ (by simpa using aQ) rfl)
 rw [e] at s1
 have hb:(W.alloc (oC p es clock [])).heap[p]? =some (.map es clock):=by
  have cH:p<W.heap.size:=(Array.getElem?_eq_some_iff.1 bp).1;show(W.heap.push _)[p]? =_;rw [Array.getElem?_push_lt cH,← Array.getElem?_eq_getElem cH];exact bp
 exact bN.qo (loc:=⟨some W.heap.size,.is (oC p es clock [])⟩::L.take n) s1 hb
theorem ab.afk {rest:List Oper}{bg r p:Nat}{α β:Type}[aj α][aj β]{kv:List (α×β)}{es:Array MapEntry}{clock:Nat}{vis:List Nat}(i:Nat)(ar:bn c E L x (.eq (.pointer (some ⟨r,0,none⟩))))(au:L[i]? =some ⟨some r,.is (oC p es clock vis)⟩)
 (hm:(⟨some p,e3.and (.map kv) (.map es clock)⟩:aR)∈L) (he:KF es clock kv.length) (aQ:Nat.blt bg c.n=true)
 (k:∀ j,Ag kv.length vis j→ab c ops Q rest ((bg,.WE j.isSome)::E) (L.set i ⟨some r,.is (oC p es clock (vis++j.toList))⟩)):
 ab c ops Q (⟨some bg,.next x false,ty,pos,af,none⟩::rest) E L:=fun a W s=>by
 have mV:a.eval x=_:=ar a W s
 obtain⟨bJ,tf,⟨_,oD⟩⟩:=s.own _ hm
 subst oD
 obtain⟨cY,CJ,uv⟩:=s.own _ (List.mem_of_getElem? au)
 have uv:cY=oC p es clock vis:=uv
 subst uv
 have afX:∀ {j:Nat} {e:MapEntry},es[j]? =some e→ (nR es vis).contains e.born=true→j∈vis:=fun {j e} aF ai=>by
  unfold nR at ai;simp only [List.contains_toArray,List.contains_iff_mem,List.mem_filterMap] at ai;obtain⟨v,bm,h1⟩:=ai;cases Kk:es[v]? with
  | none=>rw [Kk] at h1;cases h1
  | some e'=>
    rw [Kk] at h1
    have h1:e'.born=e.born:=by simpa using h1
    have Pd:j<es.toList.length:=by simpa using (Array.getElem?_eq_some_iff.1 aF).1
    have xW:v<es.toList.length:=by simpa using (Array.getElem?_eq_some_iff.1 Kk).1
    have av:(es.toList.map MapEntry.born)[j]? =some e.born:=by simp [aF]
    have aX:(es.toList.map MapEntry.born)[v]? =some e.born:=by simp [Kk,h1]
    have:=(List.getElem?_inj (by simpa using Pd) he.nodup).1 (av.trans aX.symm)
    rw [this];exact bm
 rcases run_next_at (P:=c.P) W ty r p clock clock (nR es vis) es clock CJ tf he.born (Nat.le_refl _) with⟨bH,ka⟩ | ⟨e,Gb,KG,Cy,ka⟩
 ·
  have mh:Ag kv.length vis none:=fun j aF=>by
   have zU:j<es.size:=by rw [he.size];exact aF
   false_or_by_contra;rename_i gF;have:es[j]∈ (leftOf es (nR es vis)).toList:=by
    unfold leftOf;simp only [Array.toList_filter,List.mem_filter];refine⟨by simp,?_⟩;cases ai:(nR es vis).contains es[j].born with
    | false=>rfl
    | true=>exact absurd (afX (by simp [zU]) ai) gF
   have cJ:(leftOf es (nR es vis)).toList= []:=by
    apply List.eq_nil_of_length_eq_zero;simpa using bH
   rw [cJ] at this;cases this
  refine jl rfl (R:=fun v W'=>v= .tuple #[.bool false]∧W'=W) (.mL (v:= .tuple #[.bool false]) ?_ ⟨rfl,rfl⟩) fun v W' ⟨bm,hw⟩=>?_
  ·simp only [execOp,mV,Sem.run_bind,ka,Result.andThen_ok];rfl
  subst bm hw
  have hk:=k none mh
  have lT:L.set i ⟨some r,.is (oC p es clock (vis++Option.toList none))⟩=L:=by
   apply List.ext_getElem?;intro q;rw [List.getElem?_set];split
   ·rename_i hq;subst hq;rw [if_pos (List.getElem?_eq_some_iff.1 au).1,au];simp
   rfl
  rw [lT] at hk
  exact hk _ _ (bN.put s (by simpa using aQ) ⟨_,rfl,rfl⟩)
 have VX:e∈es.toList∧ (nR es vis).contains e.born=false:=by
  unfold leftOf at Gb;simp only [Array.toList_filter,List.mem_filter,Bool.not_eq_true'] at Gb;exact Gb
 obtain⟨j,aF⟩:=List.mem_iff_getElem?.1 VX.1
 have zU:es[j]? =some e:=by simpa using aF
 have Pd:j<kv.length:=by rw [← he.size];exact(Array.getElem?_eq_some_iff.1 zU).1
 have mh:Ag kv.length vis (some j):=⟨Pd,fun bm=>by
  have:(nR es vis).contains e.born=true:=by
   unfold nR;simp only [List.contains_toArray,List.contains_iff_mem,List.mem_filterMap];exact⟨j,bm,by rw [zU];rfl⟩
  rw [VX.2] at this;cases this⟩
 have NN:(nR es vis).push e.born=nR es (vis++[j]):=by
  unfold nR;rw [List.filterMap_append];simp [zU]
 rw [NN] at ka
 refine jl rfl (R:=fun v W'=>v= .tuple #[.bool true,e.key,e.val]∧W'=KG.putObj r (oC p es clock (vis++[j]))) (.mL (v:= .tuple #[.bool true,e.key,e.val]) ?_ ⟨rfl,rfl⟩) fun v W' ⟨bm,hw⟩=>?_
 ·simp only [execOp,mV,Sem.run_bind,ka,Result.andThen_ok];rfl
 subst bm hw
 have s1:bN c E L a KG:=by
  rcases Cy with rfl | rfl
  ·exact s
  exact s.world (Fr.drew W)
 exact k (some j) mh _ _ (bN.put (s1.s8 au (cp':= .is (oC p es clock (vis++[j]))) (o':=oC p es clock (vis++[j])) rfl) (by simpa using aQ) ⟨_,rfl,rfl⟩)
theorem adh {b:Bool}(ar:bn c E L x (.WE b)):b6 c E L ⟨d,.extract x 0,ty,pos,af,g⟩ (.of b):= .pure fun a W s=>by
 obtain⟨xs,h1,ae⟩:=ar a W s;refine⟨.bool b,?_,of_bool.2 rfl⟩;simp [execOp,Instr.extract,h1,ae]
theorem abl {r p:Nat}{α β:Type}[aj α][aj β][Inhabited α][Inhabited β]{kv:List (α×β)}{es:Array MapEntry}{clock:Nat}{vis:List Nat}{j:Option Nat}{q:Nat}(i:Nat)(ar:bn c E L x (.eq (.pointer (some ⟨r,0,none⟩))))(au:L[i]? =some ⟨some r,.is (oC p es clock (vis++j.toList))⟩)
 (hm:(⟨some p,e3.and (.map kv) (.map es clock)⟩:aR)∈L) (he:KF es clock kv.length) (aF:Ag kv.length vis j) (hq:j=some q):
 b6 c E L ⟨d,.entry x,ty,pos,af,g⟩ (.c4 [.of (aE kv q).1,.of (aE kv q).2]):= .pure fun a W s=>by
 subst hq
 have mV:a.eval x=_:=ar a W s
 obtain⟨bJ,tf,⟨n4,y5,vR,ae,aA,aV⟩,oD⟩:=s.own _ hm
 subst oD
 cases vR
 obtain⟨cY,CJ,uv⟩:=s.own _ (List.mem_of_getElem? au)
 have uv:cY=oC p es clock (vis++[q]):=uv
 subst uv
 have WG:q<kv.length:=aF.1
 obtain⟨e,g1,g2,g3⟩:=ae.get (j:=q) (x:=aE kv q) (by rw [e7 _ WG];exact List.getElem?_eq_getElem WG)
 have zU:es[q]? =some e:=by simpa using g1
 have NN:nR es (vis++[q])=(nR es vis).push e.born:=by
  unfold nR;rw [List.filterMap_append];simp [zU]
 have Pe:W.heap[r]? =some (.mapIter (some p) clock ((nR es vis).push e.born) clock):=by rw [← NN];exact CJ
 have ka:=run_entry_at (P:=c.P) W r p clock (nR es vis) es clock e Pe tf (List.mem_of_getElem? g1) he.nodup
 refine⟨.tuple #[e.key,e.val],?_,_,rfl,.cons g2 (.cons g3 .nil)⟩
 simp only [execOp,mV,Sem.run_bind,ka,Result.andThen_ok]
 rfl
end
end Gv
namespace Gv
open Go Go.Proofs Go.Sort
def I.JZ {α:Type}[aj α](P:Program)(F:α→α→Option Int):I where
 holds A W v:= ∃ f cap,v= .func (.func f) #[] cap∧bF P f∧ ∀ dd W',Ext A W dd W'→ (∀ k∈dd,k<W'.heap.size)→ ∀ x y r n9 tw,F x y=some r→ (I.of x).holds dd W' n9→ (I.of y).holds dd W' tw→
  Calls P f (#[n9,tw]++cap) W' fun e xT=> ∃ v,e= .returned v∧Fr [] W' xT∧ (I.of r).holds dd xT v
 mono e h:=let⟨f,cap,h1,ae,aA⟩:=h; ⟨f,cap,h1,ae,fun dd W' e'=>aA dd W' (e.trans e')⟩
theorem abm {c:dy}{E:List (Nat×I)}{L:List aR}{α:Type}[aj α]{F:α→α→Option Int}{f:FuncId}(eB:bF c.P f)(h:∀ x y r,F x y=some r→b2 c.P f [.of x,.of y] (.of r)):bn c E L (.func f) (.JZ c.P F):=fun a W s=>
 ⟨f,#[],rfl,eB,fun dd W' _ fT x y r n9 tw mG ar a1=>by simpa using h x y r mG dd W' [n9,tw] fT (.cons ar (.cons a1 .nil))⟩
theorem abD {W W':World}(h:Fr [] W W'):∃ q os,W'=grow (W.drewN q) os:=by
 obtain⟨p,hp⟩:=regrown_of_below h.below;have hd:=h.drawn;rw [hp] at hd;have hd:W.drawn≤p.d:=hd;refine⟨p.d - W.drawn,p.os,?_⟩;rw [hp];unfold redrawn World.drewN;congr 2;omega
structure x1 {α:Type}(c:α→α→Int):Prop where
 neg:∀ x y,c x y<0↔0<c y x
 oP:∀ x y z,c x y≤0→c y z≤0→c x z≤0
theorem x1.swo {α:Type}{c:α→α→Int}(h:x1 c):SWO (ltOf c) where
 irrefl x:=by
  unfold ltOf;rw [decide_eq_false_iff_not];intro h1;have:=(h.neg x x).1 h1;omega
 trans x y z h1 ae:=by
  unfold ltOf at *;rw [decide_eq_true_eq] at *;have b4:=h.oP x y z (by omega) (by omega);by_cases aA:c x z<0
  ·exact aA
  have aV: ¬ 0<c z x:=fun bc=>aA ((h.neg x z).2 bc);have bc:=h.oP y z x (by omega) (by omega);have:=(h.neg x y).1 h1;omega
 ntrans x y z h1 ae:=by
  unfold ltOf at *;rw [decide_eq_false_iff_not] at *;have ew: ¬ 0<c y x:=fun aA=>h1 ((h.neg x y).2 aA);have eZ: ¬ 0<c z y:=fun aA=>ae ((h.neg y z).2 aA);have ju:=h.oP z y x (by omega) (by omega);intro aA;have:=(h.neg x z).1 aA;omega
theorem x1.on {α β:Type}{c:α→α→Int}(h:x1 c)(g:β→α):x1 (fun x y=>c (g x) (g y)):=⟨fun x y=>h.neg _ _,fun x y z=>h.oP _ _ _⟩
def mW (k:Nat)(cs:Array Value)(i:Nat):List Value:=(cs.toList.drop (i * k)).take k
theorem S4 {k:Nat}{cs:Array Value}{i j:Nat}(aF:j<k)(h:i * k+j<cs.size):(mW k cs i)[j]! =cs[i * k+j]:=by
 have ao:j<(mW k cs i).length:=by
  unfold mW;rw [List.length_take,List.length_drop,Array.length_toList];omega
 rw [getElem!_pos _ j ao];have:(mW k cs i)[j]? =cs[i * k+j]? :=by
  unfold mW;rw [List.getElem?_take,if_pos aF,List.getElem?_drop,Array.getElem?_toList]
 rw [List.getElem?_eq_getElem ao,Array.getElem?_eq_getElem h] at this;exact Option.some.inj this
theorem Z8 {n k p:Nat}[Inhabited (Fin n)]{W:World}{cs:Array Value}{t:TypeId}(bp:W.heap[p]? =some (.cells cs t (0,0)))(ed:n * k≤cs.size)(d:Array (Fin n))(hd:d.size=n)(Gx:∀ i (h:i<n),d[i]! =⟨i,h⟩):HoldsK (fun i:Fin n=>mW k cs i.1) k W p 0 d:=by
 intro j aF;have aF:j<d.size * k:=by simpa using aF
 have pJ:j<n * k:=by rw [← hd];exact aF
 have hk:0<k:=Nat.pos_of_ne_zero fun e=>by rw [e] at pJ;omega
 have hdiv:j / k<n:=Nat.div_lt_of_lt_mul (by rw [Nat.mul_comm];exact pJ);have zz:=Nat.mod_lt j hk;have ai9:j / k * k+j % k=j:=by rw [Nat.mul_comm];exact Nat.div_add_mod j k
 constructor
 ·rw [get_flatK _ _ _ _ aF,Gx _ hdiv];show W.cell? _=some ((mW k cs (j / k))[j % k]!);rw [S4 zz (by omega)];unfold World.cell?;simp only [bp,Nat.zero_add,ai9];simp
 unfold World.frozen?;simp [bp]
theorem Q0 {n k p m:Nat}[Inhabited (Fin n)]{W:World}{cs:Array Value}{t:TypeId}(hp:p<W.heap.size)(bp:W.heap[p]? =some (.cells cs t (0,0)))(enc:Fin n→List Value)(d:Array (Fin n))(os:Array Obj):
 (sortWorldK enc k W p 0 m d os).heap[p]? =some (.cells (putCells id 0 (flatK enc k d) cs) t (0,0))∧ (∀ q,q<W.heap.size→q≠p→ (sortWorldK enc k W p 0 m d os).heap[q]? =W.heap[q]?)∧W.heap.size≤ (sortWorldK enc k W p 0 m d os).heap.size:=by
 unfold sortWorldK grow putRowK putRow mapBlock
 refine⟨?_,fun q hq dC=>?_,?_⟩
 ·rw [Array.getElem?_append_left (by simpa [Sort.ahead] using hp),Array.getElem?_modify]
  simp [Sort.ahead,bp,onCells]
 ·rw [Array.getElem?_append_left (by simpa [Sort.ahead] using hq),Array.getElem?_modify]
  simp [Sort.ahead,Ne.symm dC]
 simp [Sort.ahead]
theorem RF {n k p m:Nat}[Inhabited (Fin n)]{W:World}{cs:Array Value}{t:TypeId}(hp:p<W.heap.size)(bp:W.heap[p]? =some (.cells cs t (0,0)))(enc:Fin n→List Value)(d:Array (Fin n))(os:Array Obj):Fr [p] W (sortWorldK enc k W p 0 m d os):=by
 obtain⟨_,ae,aA⟩:=Q0 (k:=k) (m:=m) hp bp enc d os;exact⟨rfl,rfl,rfl,Nat.le_add_right _ _,aA,fun q hq dC=>ae q hq (by simpa using dC)⟩
theorem Iq {F cs:Array Value} :(putCells id 0 F cs).size=cs.size:=by unfold putCells;simp
theorem adG {n k i j:Nat}(au:i<n)(aF:j<k):i * k+j<n * k:=by
 have:=Nat.mul_le_mul_right k (show i+1≤n from au);rw [Nat.add_mul,Nat.one_mul] at this;omega
theorem acB {n k i:Nat}{cs:Array Value}(ed:n * k≤cs.size)(au:i<n):(mW k cs i).length=k:=by
 have:=Nat.mul_le_mul_right k (show i+1≤n from au);rw [Nat.add_mul,Nat.one_mul] at this;unfold mW;rw [List.length_take,List.length_drop,Array.length_toList];omega
theorem Z9 {n k i:Nat}[Inhabited (Fin n)]{cs:Array Value}{enc:Fin n→List Value}(hk:∀ x,(enc x).length=k){d:Array (Fin n)}(hd:d.size=n)(ed:n * k≤cs.size)(au:i<n):mW k (putCells id 0 (flatK enc k d) cs) i=enc d[i]! :=by
 apply List.ext_getElem
 ·rw [acB (by rw [Iq];exact ed) au,hk]
 intro j h1 ae;have aF:j<k:=by rw [hk] at ae;exact ae
 have cH:=adG au aF;have qu:0<k:=by omega
 have aY:i * k+j<d.size * k:=by rw [hd];exact cH
 have av:(i * k+j) / k=i:=by rw [Nat.mul_comm,Nat.mul_add_div qu,Nat.div_eq_of_lt aF];omega
 have aX:(i * k+j) % k=j:=by rw [Nat.mul_comm,Nat.mul_add_mod,Nat.mod_eq_of_lt aF]
 rw [← getElem!_pos _ j h1,S4 aF (by rw [Iq];omega),← getElem!_pos (enc d[i]!) j ae];unfold putCells;rw [Array.getElem_mapIdx,if_pos ⟨Nat.zero_le _,by rw [size_flatK];omega⟩,Nat.sub_zero,get_flatK _ _ _ _ aY,av,aX];rfl
theorem abE {m:Nat}{cs:Array Value}(h:m≤cs.size):(cs.toList.take m).length=m:=by rw [List.length_take,Array.length_toList];omega
theorem S5 {α:Type}(a:Array α){n:Nat}(h:a.size=n):a.extract 0 n=a:=by subst h;simp
theorem R6 {n k i:Nat}{cs:Array Value}(au:i<n):((cs.toList.take (n * k)).drop (i * k)).take k=mW k cs i:=by
 have:=Nat.mul_le_mul_right k (show i+1≤n from au);rw [Nat.add_mul,Nat.one_mul] at this;rw [List.drop_take,List.take_take,show min k (n * k - i * k)=k by omega];rfl
set_option maxHeartbeats 1000000 in
open Go.Shelf in
theorem afY {T:Type}[aj T]{P:Program}{ρ:Ren}(L:SlLaysF0.n6 P ρ)(PT:∀ w,(isAgg (ρ.t 24)).run P w= .ok true w)(PU:∀ w,(Go.sizeOf (ρ.t 24)).run P w= .ok (aj.size T) w)(Pf:aj.agg T=true){t:TypeId}{xs:List T}{F:T→T→Option Int}{c:T→T→Int}(ai:x1 c)
 (mG:∀ a∈xs,∀ b∈xs,F a b=some (c a b)) (hlen:xs.length<4611686018427387904) {key:Option Nat} {cap:Nat} :
 bt P (ρ.f 6) [.eq (aS key xs.length cap),.JZ P F] [⟨key,.row t xs cap⟩] (δ:= {ys:List T // ys.Perm xs∧ys.Pairwise (fun a b=>c a b≤0)}) (fun _=>.c4 []) (fun d=>[⟨key,.row t d.1 cap⟩]):=by
 intro A W vs fT k9 cH jA bm
 cases bm with
 | cons h1 bm=>cases bm with
   | cons ae bm=>cases bm with
     | nil=>
       rename_i v1 v2
       have h1:v1=aS key xs.length cap:=h1
       obtain⟨f,Ac,rfl,eB,zi⟩:=ae
       subst h1
       cases key with
       | none=>
         have qi:xs= []∧cap=0:=jA ⟨none,.row t xs cap⟩ (by simp)
         obtain⟨rfl,rfl⟩:=qi
         refine(AnyF.slices_SortFunc_none L none 0 (.func (.func f) #[] Ac) W).mono ?_
         rintro e qB ⟨rfl,rfl⟩
         exact⟨_,⟨[],.refl _,.nil⟩,rfl,Fr.refl _ _,by simp [aT],by simp [aT],fun e he=>by simp at he;subst he;exact⟨rfl,rfl⟩,⟨_,rfl,.nil⟩⟩
       | some p=>
         obtain⟨o,bp,cs,rfl,ed,hle,VY,U8⟩:∃ o,W.heap[p]? =some o∧ (e3.row t xs cap).holds (aT [⟨some p,.row t xs cap⟩]++A) W o:=jA ⟨some p,.row t xs cap⟩ (by simp)
         have hp:p<W.heap.size:=cH p (by simp [aT])
         have aja:∀ q∈p::A,q<W.heap.size:=fun q hq=>by
          rcases List.mem_cons.1 hq with rfl | hq
          ·exact hp
          exact(fT q hq).1
         have WH:p ∉ A:=fun h=>(fT p h).2 (by simp [aT])
         by_cases bH:xs.length=0
         ·obtain rfl:xs= []:=List.length_eq_zero_iff.1 bH
          refine(AnyF.slices_SortFunc_none L (some ⟨p,0,none⟩) cap (.func (.func f) #[] Ac) W).mono ?_
          rintro e qB ⟨rfl,rfl⟩
          refine⟨_,⟨[],.refl _,.nil⟩,rfl,Fr.refl _ _,by simp [aT],fun q hq=>?_,fun e he=>?_,⟨_,rfl,.nil⟩⟩
          ·simp [aT] at hq;subst hq
           exact⟨hp,fun _=>by simp [aT],WH⟩
          simp at he;subst he
          exact⟨_,bp,cs,rfl,ed,hle,VY,U8⟩
         have aQ:0<xs.length:=by omega
         letI:Inhabited (Fin xs.length):=⟨⟨0,aQ⟩⟩
         have Gy:xs.length * aj.size T≤cs.size:=by rw [ed];exact Nat.mul_le_mul_right _ hle
         have FK:∀ i (h:i<xs.length),aj.rep (p::A) W (mW (aj.size T) cs i) xs[i]:=fun i h=>by
          have:=U8.2 i h;rw [R6 h] at this;exact this
         have gv:(Array.ofFn fun i:Fin xs.length=>i).size=xs.length:=by simp
         have Gx:∀ i (h:i<xs.length),(Array.ofFn fun i:Fin xs.length=>i)[i]! =⟨i,h⟩:=fun i h=>by
          rw [getElem!_pos _ i (by simp;exact h)];simp
         generalize (Array.ofFn fun i:Fin xs.length=>i)=d at gv Gx
         have wk:=Z8 bp Gy d gv Gx
         have hO:SWO (ltOf fun x y:Fin xs.length=>c xs[x.1] xs[y.1]):=(ai.on fun i:Fin xs.length=>xs[i.1]).swo
         have iN:∀ m os sA,Ext (p::A) W (p::A) (sortWorldK (fun i:Fin xs.length=>mW (aj.size T) cs i.1) (aj.size T) W p 0 m sA os):=fun m os sA=>Ext.UU (RF hp bp _ sA os) fun q hq=>by simp at hq;subst hq;exact List.mem_cons_self
         have Co:∀ m os sA (i:Fin xs.length),(I.of xs[i.1]).holds (p::A) (sortWorldK (fun i:Fin xs.length=>mW (aj.size T) cs i.1) (aj.size T) W p 0 m sA os) (.agg (mW (aj.size T) cs i.1).toArray):=fun m os sA i=>
          ⟨by rw [Pf];exact⟨_,rfl⟩,aj.mono (iN m os sA) (FK i.1 i.2)⟩
         have ah4:CmpLays P f Ac (fun i:Fin xs.length=>mW (aj.size T) cs i.1) (aj.size T) (fun x y:Fin xs.length=>c xs[x.1] xs[y.1]) p 0 d.size W:=fun m os sA ak4 x y=>
          (zi (p::A) _ (iN m os sA) (fun q hq=>Nat.lt_of_lt_of_le (aja q hq) (iN m os sA).size) _ _ _ _ _ (mG _ (List.getElem_mem x.2) _ (List.getElem_mem y.2)) (Co m os sA x) (Co m os sA y)).mono fun e qB ⟨v,he,ajb,bm⟩=>⟨by rw [he,of_int.1 bm],abD ajb⟩
         have al:∀ x:Fin xs.length,(mW (aj.size T) cs x.1).length=aj.size T:=fun x=>aj.len (FK x.1 x.2)
         have ajc:∀ x:Fin xs.length,∀ v∈mW (aj.size T) cs x.1,v.oneCell'=true:=fun x=>aj.one (FK x.1 x.2)
         have iy:d.size<4611686018427387904:=by omega
         have h:=AnyQ.slices_SortFunc L (aj.size T) PT PU (fun i:Fin xs.length=>mW (aj.size T) cs i.1) al ajc (fun x y:Fin xs.length=>c xs[x.1] xs[y.1]) hO f Ac p 0 cap d W (fun args w=>eB.run args w) ah4 wk hp iy
         rw [gv] at h
         refine h.mono ?_
         rintro e qB ⟨rfl,nE,m,os,U9,afZ,rfl⟩
         obtain⟨cB,_,ajd⟩:=Q0 (k:=aj.size T) (m:=m) hp bp (fun i:Fin xs.length=>mW (aj.size T) cs i.1) nE os
         have hd':nE.size=xs.length:=U9.1.trans gv
         have lW:(nE.toList.map fun i=>xs[i.1]).length=xs.length:=by simp [hd']
         have mX:(nE.toList.map fun i=>xs[i.1]).Perm xs:=by
          have ae:=U9.2.2;rw [S5 nE hd',S5 d gv] at ae;refine(ae.map _).trans (List.Perm.of_eq ?_);refine List.ext_getElem (by simp [gv]) fun i aA aV=>?_;have:=Gx i aV;rw [getElem!_pos _ i (by omega)] at this;simp [this]
         have qh:∀ i (h:i<xs.length),(nE.toList.map fun i=>xs[i.1])[i]'(by omega)=xs[(nE[i]!).1]:=fun i h=>by
          have e:nE[i]! =nE[i]'(by omega):=getElem!_pos _ i (by omega);simp [e]
         have Pg:(nE.toList.map fun i=>xs[i.1]).Pairwise (fun a b=>c a b≤0):=by
          rw [List.pairwise_iff_getElem];intro i j au aF gr;rw [lW] at au aF;have:=afZ i j (Nat.zero_le _) gr aF;unfold ltOf at this;rw [decide_eq_false_iff_not] at this;rw [qh i au,qh j aF];have bc: ¬ 0<c xs[(nE[i]!).1] xs[(nE[j]!).1]:=fun bs=>this ((ai.neg _ _).2 bs);omega
         refine⟨_,⟨_,mX,Pg⟩,rfl,RF hp bp _ nE os,by simp [aT],fun q hq=>?_,fun e he=>?_,⟨_,rfl,.nil⟩⟩
         ·simp [aT] at hq;subst hq
          exact⟨Nat.lt_of_lt_of_le hp ajd,fun _=>by simp [aT],WH⟩
         simp at he;subst he
         refine⟨_,cB,_,rfl,by rw [Iq];exact ed,by rw [lW];exact hle,VY,?_,fun i au=>?_⟩
         ·rw [lW];exact abE (by rw [Iq];exact Gy)
         rw [lW] at au
         rw [lW,R6 au,Z9 (fun x=>aj.len (FK x.1 x.2)) hd' Gy au,qh i au]
         exact aj.mono (iN m os nE) (FK _ (nE[i]!).2)
def ak.B1 {T:Type}(xs:List T)(F:T→T→Option Int):ak (List T):=fun Q=> ∃ c:T→T→Int,x1 c∧xs.length<4611686018427387904∧ (∀ a∈xs,∀ b∈xs,F a b=some (c a b))∧ ∀ ys:List T,ys.Perm xs→ys.Pairwise (fun a b=>c a b≤0)→Q ys
open Go.Shelf in
theorem aej {T:Type}[aj T]{P:Program}{ρ:Ren}(L:SlLaysF0.n6 P ρ)(PT:∀ w,(isAgg (ρ.t 24)).run P w= .ok true w)(PU:∀ w,(Go.sizeOf (ρ.t 24)).run P w= .ok (aj.size T) w)(Pf:aj.agg T=true){t:TypeId}{xs:List T}{F:T→T→Option Int}{K:List T→Prop}(h:ak.B1 xs F K){key:Option Nat}{cap:Nat} :
 bt P (ρ.f 6) [.eq (aS key xs.length cap),.JZ P F] [⟨key,.row t xs cap⟩] (δ:= {r:List T // xs.length=r.length∧K r}) (fun _=>.c4 []) (fun d=>[⟨key,.row t d.1 cap⟩]):=by
 obtain⟨c,ai,hlen,mG,hk⟩:=h
 intro A W vs h1 ae aA aV bc
 exact(afY L PT PU Pf ai mG hlen A W vs h1 ae aA aV bc).mono fun e qB ⟨v,d,h⟩=>⟨v,⟨d.1,d.2.1.length_eq.symm,hk _ d.2.1 d.2.2⟩,h⟩
end Gv
namespace Gv
open Go
theorem ak.aiq {α β ρ:Type}{W8:α→Prop}{m:α→ak β}{k:α→β→ak ρ}{R:ρ→Prop}(h:∀ y,W8 y→ak.bind (m y) (k y) R):∃ K:α×β→Prop,(∀ y,W8 y→m y fun z=>K (y,z))∧ ∀ y,K y→k y.1 y.2 R:=
 ⟨fun y=>k y.1 y.2 R,h,fun _ h=>h⟩
theorem ak.hd {α ρ:Type}{m:ak α}{k:α→ak ρ}{R:ρ→Prop}(h:ak.bind m k R):m (fun a=>k a R):=h
structure W9 (α:Type) where
 p:Option α
 deriving DecidableEq,Inhabited
instance akB {α:Type} [aj α]:aj (W9 α) where
 size:=1
 agg:=false
 rep A W cs x:=match x.p with
  | none=>cs= [.pointer none]
  | some y=> ∃ v,cs= [v]∧ (I.ptr y).holds A W v
 len {A W cs x} h:=by
  rcases x with⟨_ | y⟩
  ·have h:cs=_:=h;rw [h];rfl
  obtain⟨v,h,_⟩:=h;rw [h];rfl
 one {A W cs x} h:=by
  intro u hu;rcases x with⟨_ | y⟩
  ·have h:cs=_:=h;rw [h] at hu;rw [List.mem_singleton.1 hu];rfl
  obtain⟨v,h,b,off,cur,T,iS,rfl,_⟩:=h;rw [h] at hu;rw [List.mem_singleton.1 hu];rfl
 flat _:=rfl
 mono {A W dd W' cs x} e h:=by
  rcases x with⟨_ | y⟩
  ·exact h
  obtain⟨v,h,ae⟩:=h;exact⟨v,h,I.mono _ e ae⟩
instance {α:Type} [aj α]:bf (W9 α):=⟨[.pointer none],fun _ _=>rfl⟩
structure xe (P:Program)(τ:I)(τs:List I)(Lin:List aR){δ:Type}(ρ:δ→I)(Lo:δ→List aR):Prop where
 go:∀ (A:List Nat) (W:World) (u:Value) (vs:List Value),(∀ k∈A,k<W.heap.size∧k ∉ aT Lin)→ (aT Lin).Nodup→ (∀ k∈aT Lin,k<W.heap.size)→ (∀ e∈Lin,e.ok (aT Lin++A) W)→hB (aT Lin++A) W (τ::τs) (u::vs)→
  ∃ (f:FuncId) (fI:List Value),u= .func (.func f) #[] fI.toArray∧bF P f∧Calls P f (vs++fI).toArray W (ma (aT Lin) A W ρ Lo)
theorem xe.of {P:Program}{f:FuncId}{τ:I}{ta τs:List I}{Lin:List aR}{δ:Type}{ρ:δ→I}{Lo:δ→List aR}(eB:bF P f)(Gr:∀ A W u,τ.holds A W u→ (I.kc f ta).holds A W u)
 (h:bt P f (τs++ta) Lin ρ Lo):xe P τ τs Lin ρ Lo where
 go A W u vs h1 ae aA aV bc:=by
  cases bc with
  | cons bs df=>
    obtain⟨fI,rfl,dz⟩:=Gr _ _ _ bs
    exact⟨f,fI,rfl,eB,h A W (vs++fI) h1 ae aA aV (df.append dz)⟩
section
variable {c:dy} {E:List (Nat×I)} {L:List aR} {ops:Array Oper} {Q:Exit→Act→World→Prop}
variable {d:Option Tmp} {ty:TypeId} {pos:String} {af:Array Edge} {g:Option (Nat×Bool)} {x y z:Operand} {t t2:TypeId}
theorem MQ {o:Oper}{σ τ:I}(h:b6 c E L o σ)(e:∀ A W v,σ.holds A W v→τ.holds A W v):b6 c E L o τ:=fun a W s=>by
 have:=h a W s;unfold hK at this ⊢;exact Oper.wp_mono (fun hx W' ⟨v,h1,ae,aA⟩=>⟨v,h1,ae,e _ _ _ aA⟩) this
theorem acC {a:Act}{W:World}{xs:List Operand}{ats:Array TypeId}{τ:I}{τs:List I}{Lin Lr:List aR}{δ:Type}{ρ:δ→I}{Lo:δ→List aR}(h:xe c.P τ τs Lin ρ Lo)
 (s:bN c E (Lin++Lr) a W) (ar:hB (aT (Lin++Lr)++c.cc) W (τ::τs) ((x::xs).map a.eval)):
 hK c.P ⟨d,.call ⟨.value x,xs.toArray,ats⟩,ty,pos,af,g⟩ a W fun v W'=> ∃ bg,bN c E (Lo bg++Lr) a W'∧ (ρ bg).holds (aT (Lo bg++Lr)++c.cc) W' v:=by
 have mR:=s.nodup
 rw [fG] at mR
 obtain⟨oG,qs,rb⟩:=List.nodup_append.1 mR
 have lT:Ext (aT (Lin++Lr)++c.cc) W (aT Lin++(aT Lr++c.cc)) W:=BD
 have fT:∀ k∈aT Lr++c.cc,k<W.heap.size∧k ∉ aT Lin:=fun k hm=>by
  rcases List.mem_append.1 hm with hm | hm
  ·exact⟨s.lt k (by rw [fG];exact List.mem_append.2 (.inr hm)),fun h=>rb k h k hm rfl⟩
  obtain⟨h1,ae⟩:=s.fB k hm;exact⟨h1,fun h=>ae (by rw [fG];exact List.mem_append.2 (.inl h))⟩
 have cH:∀ k∈aT Lin,k<W.heap.size:=fun k hm=>s.lt k (by rw [fG];exact List.mem_append.2 (.inl hm))
 obtain⟨f,fI,hu,eB,ai⟩:=h.go (aT Lr++c.cc) W (a.eval x) (xs.map a.eval) fT oG cH (fun e he=>aR.uY (s.own e (List.mem_append.2 (.inl he))) lT fun _ _=>rfl) (by simpa using ar.mono lT)
 refine .wX (f:=f) (args:=(xs.map a.eval++fI).toArray) (W':=W) ?_ (ai.mono fun e W' ⟨v,bg,he,aY,h1,ae,aA,aV⟩=>?_)
 ·simp [execOp,resolve,Deferred.ofValue,hu,invoke,eB.run]
 refine⟨v,he,bg,s.after aY h1 ae aA,(ρ bg).mono Ip aV⟩
variable {b0:Type} [eY b0] {hp:aC b0}
theorem ab.aiz {rest:List Oper}{bg:Nat}{xs:List Operand}{ats:Array TypeId}{τ:I}{τs:List I}{Lin Lr:List aR}{δ:Type}{ρ:δ→I}{Lo:δ→List aR}{hq:δ→aC b0}(n m:Nat)(al:L.drop n=aH hp)(h:xe c.P τ τs (Lin++aH hp) ρ (fun d=>Lo d++aH (hq d)))
 (h1:(L.take n).take m=Lin) (ae:(L.take n).drop m=Lr) (ar:jf c E L (x::xs) (τ::τs)) (aQ:Nat.blt bg c.n=true) (k:∀ q,ab c ops Q rest ((bg,ρ q)::E) ((Lo q++Lr)++aH (hq q))):
 ab c ops Q (⟨some bg,.call ⟨.value x,xs.toArray,ats⟩,ty,pos,af,none⟩::rest) E L:=by
 have e:L=(Lin++Lr)++aH hp:=by rw [← h1,← ae,List.take_append_drop,← al,List.take_append_drop]
 clear al h1 ae
 subst e
 exact fun a W s=>jl rfl (acC (Lr:=Lr) h (s.perm nK) ((ar.holds a W s).mono (oT nK))) fun v W' ⟨q,cD,bm⟩=>
  k q _ _ ((cD.perm nK).put (by simpa using aQ) ((ρ q).mono (oT nK) bm))
theorem iu {p n:Nat}{k:b0}{e:aR}{es:List aR}(al:L.drop n=aH hp)(h:pat hp p=some k)(hk:eY.gT p k=e::es):e∈L:=by
 obtain⟨R,h1,_⟩:=uL h;rw [hk] at h1;have:e∈L.drop n:=by rw [al];exact h1.mem_iff.2 (by simp)
 exact List.mem_of_mem_drop this
theorem im {x:Operand}{t:TypeId}{p o:Nat}{β γ:Type}[aj β][aj γ]{b:β}{os:List (Nat×Value)}(l:aJ β γ){r:γ}(eO:bx c.P t γ)(ar:bn c E L x (.eq (.pointer (some ⟨p,o,none⟩))))
 (hm:(⟨some p,.cE b os⟩:aR)∈L) (bp:o=l.off) (aI:l.get b=r) (a7:vc os l.off (aj.size γ)=true):b6 c E L ⟨d,.load t x,ty,pos,af,g⟩ (.of r):=by
 obtain⟨i,au⟩:=List.mem_iff_getElem?.1 hm
 exact Iz (i:=i) l eO ar au bp aI a7
theorem RW {b0:Type}{hp:aC b0}{p:Nat}{k:b0}(h:pat hp p=some k):cQ hp p k=hp:=by
 induction hp with
 | nil=>rfl
 | cons z r cA=>
   obtain⟨q,akj⟩:=z
   simp only [pat] at h
   simp only [cQ]
   split
   ·rename_i e
    rw [if_pos e] at h
    rw [Option.some.inj h]
   rename_i e
   rw [if_neg e] at h
   rw [cA h]
theorem ab.MS {l:List Oper}{p:Nat}{k:b0}{X:List aR}(n:Nat)(al:L.drop n=aH hp)(hp':pat hp p=some k)(hk:eY.gT p k=X)
 (na:∀ R,(∀ k',(aH (cQ hp p k')).Perm (eY.gT p k'++R))→ab c ops Q l E (X++(L.take n++R))):ab c ops Q l E L:=by
 obtain⟨R,bk,bB⟩:=uL hp'
 refine ab.perm ?_ (na R bB)
 conv=>rhs;rw [← List.take_append_drop n L,al]
 rw [hk] at bk
 refine List.Perm.trans ?_ (bk.symm.append_left (L.take n))
 rw [← List.append_assoc,← List.append_assoc]
 exact List.perm_append_comm.append_right _
theorem ab.NH {l:List Oper}{p:Nat}{R M:List aR}(k':b0)(m n:Nat)(kB:∀ k',(aH (cQ hp p k')).Perm (eY.gT p k'++R))(al:L.drop n=R)(h1:(L.take n).take m=eY.gT p k')(ae:(L.take n).drop m=M)
 (na:ab c ops Q l E (M++aH (cQ hp p k'))):ab c ops Q l E L:=by
 have e:L=(eY.gT p k'++M)++R:=by rw [← h1,← ae,List.take_append_drop,← al,List.take_append_drop]
 refine ab.perm ?_ na
 rw [e]
 refine((kB k').append_left M).trans ?_
 rw [← List.append_assoc]
 exact List.perm_append_comm.append_right _
end
section
variable {P:Program} {b:Frame} {a:Act} {k:List Item} {cs:List Frame} {w:World} {Q:Exit→Act→World→Prop} {F:Fence} {n:Nat}
def Ph (Q:Exit→Act→World→Prop):Exit→Act→World→Prop
 | .goto _,_,_=>False
 | e,a,w=>Q e a w
theorem Bl {c:Code} :step P (lone (b.atR a (.code (.scope c)::k)) cs w)= .next (lone (b.atR a (.code c::.inScope c::k)) cs w):=
 step_lone_go (by simp [stepG,stepG.exec,Frame.atR])
theorem Zj {c:Code} :step P (lone (b.atR a (.inScope c::k)) cs w)= .next (lone (b.atR a k) cs w):=
 step_lone_go (by simp [stepG,stepG.exec,Frame.atR])
theorem aaa {c:Code}(h:c.wpIn F n P (Ph Q) a w):(Code.scope c).wpIn F n P Q a w:=by
 intro b k cs kG hb aI;have bH:(lone (b.atR a (.code (.scope c)::k)) cs w).fenced P F:=fenced_calm hb aI rfl;obtain⟨e,sg,zA,hq,oy⟩:=h b (.inScope c::k) cs kG hb aI;cases e with
 | normal=>exact⟨.normal,sg,zA,hq,.head bH Bl (StepsIn.trans oy (.one (fenced_calm hb aI rfl) Zj))⟩
 | exit id=>
   have ar:exitTo id (.inScope c::k)=exitTo id k:=by simp [exitTo]
   exact⟨.exit id,sg,zA,hq,fun k' hk=>.head bH Bl (oy.1 k' (by rw [ar];exact hk)),
    fun j3 hk=>let⟨k₁,h1,ae⟩:=oy.2 j3 (by rw [ar];exact hk); ⟨k₁,h1,.head bH Bl ae⟩⟩
 | goto l=>exact hq.elim
 | ret=>exact⟨_,sg,zA,hq,.of_steps (.one bH Bl) oy⟩
 | panic l3=>exact⟨_,sg,zA,hq,.of_steps (.one bH Bl) oy⟩
 | outgrown=>exact⟨_,sg,zA,hq,.of_steps (.one bH Bl) oy⟩
end
section
variable {c:dy} {E:List (Nat×I)} {L:List aR} {Q:Exit→Act→World→Prop}
theorem ag.scope {x:Code}(h:ag c (Ph Q) x E L):ag c Q (.scope x) E L:=fun a W s=>aaa (h a W s)
theorem ag.label {l:Nat}(h:ad c Q .normal E L):ag c Q (.label l) E L:=fun a W s=>wpIn_label (h a W s)
theorem ad.Vs (h:ad c Q .ret E L):ad c (Ph Q) .ret E L:=h
end
section
variable {c:dy} {E:List (Nat×I)} {L:List aR}
theorem b6.ais {o:Oper}{ρ τ:I}{p:Prop}(gH:Nat)(ao:look E gH=some (.cond p τ))(hb:p)(h:b6 c ((gH,τ)::E) L o ρ):b6 c E L o ρ:=fun a W s=>by
 refine h a W (s.less fun t σ ae=>?_);simp only [look] at ae;by_cases e:Nat.beq gH t=true
 ·rw [e] at ae;simp only [cond_true,Option.some.injEq] at ae;have:=fm.1 e;subst this;subst ae;exact⟨_,ao,fun A W v bm=>bm.1 hb⟩
 simp only [Bool.not_eq_true] at e;rw [e] at ae;simp only [cond_false] at ae;exact⟨σ,ae,fun _ _ _ h=>h⟩
end
abbrev I.bq (p:Nat):I:= .eq (.pointer (some ⟨p,0,none⟩))
abbrev aN {α:Type}[aj α](p:Nat)(x:α):aR:=⟨some p,.var x⟩
inductive CV:Nat→List aR→List aR→Prop
 | nil {L:List aR} :CV 0 L []
 | cons {n:Nat} {e:aR} {r s:List aR} :CV n r s→CV (n+1) (e::r) (e::s)
inductive ob:List aR→List aR→Prop
 | nil:ob [] []
 | gT {b0:Type} [eY b0] {hp:aC b0} :ob (aH hp) (aH hp)
 | CW {l:List aR} :ob l l
 | cons {e e':aR} {r s:List aR} :e=e'→ob r s→ob (e::r) (e'::s)
theorem ob.eq:∀ {l m:List aR},ob l m→l=m
 | _,_,.nil=>rfl
 | _,_,@ob.gT _ _ _=>rfl
 | _,_,.CW=>rfl
 | _,_,.cons h1 h=>by rw [h.eq,h1]
section
variable {c:dy} {E:List (Nat×I)} {L:List aR} {ops:Array Oper} {Q:Exit→Act→World→Prop} {x:Operand}
theorem ab.en {l:List Oper}{L2:List aR}(k:ab c ops Q l E L2)(h:ob L L2:=by repeat (first | exact ob.gT | exact ob.nil | (apply ob.cons; (first | (dsimp only;exact rfl) | exact rfl)) | exact ob.CW)):ab c ops Q l E L:= .eN h.eq k
theorem ad.en {z:Exit}{L2:List aR}(k:ad c Q z E L2)(h:ob L L2:=by repeat (first | exact ob.gT | exact ob.nil | (apply ob.cons; (first | (dsimp only;exact rfl) | exact rfl)) | exact ob.CW)):ad c Q z E L:= .eN h.eq k
theorem bb.cf {γ:Type}{PV:List (Nat×I)}{PW:List aR}{f:Nat}{bD:Array Bool}(eF:List Nat)(d m CU:Nat)(sM:Array Bool)(u:γ→List (Nat×I))(xs ys:γ→List aR)(h1:∀ g,bb c ops Q CU sM (u g++PV) (xs g++(PW++ys g)))
 (ae:(∀ g,bb c ops Q CU sM (u g++PV) (xs g++(PW++ys g)))→bb c ops Q f bD E L) (an:nb E eF PV:=by repeat (first | exact nb.nil | (apply nb.cons;rfl))) (al:CV m (L.drop d) PW:=by repeat (first | exact CV.nil | apply CV.cons)):bb c ops Q f bD E L:=ae h1
theorem bb.s1 {f:Nat}{bD:Array Bool}{o:Oper}(i:Nat)(h:ab c ops (qH (wpAnyIn c.F 9 c.P .any ops Q f (bD.setIfInBounds i true)) Q) [o] E L)(bp:ops[i]? =some o:=by rfl)(aI:Region.ready .any ops bD= [i]:=by kernel_rfl):bb c ops Q (f+1) bD E L:= .step [i] aI rfl ⟨⟨o,bp,h⟩,trivial⟩
theorem bb.s2 {f:Nat}{bD:Array Bool}{o cY:Oper}(i j:Nat)(h:ab c ops (qH (wpAnyIn c.F 9 c.P .any ops Q f (bD.setIfInBounds i true)) Q) [o] E L)(ae:ab c ops (qH (wpAnyIn c.F 9 c.P .any ops Q f (bD.setIfInBounds j true)) Q) [cY] E L)
 (bp:ops[i]? =some o:=by rfl) (fp:ops[j]? =some cY:=by rfl) (aI:Region.ready .any ops bD= [i,j]:=by kernel_rfl):bb c ops Q (f+1) bD E L:= .step [i,j] aI rfl ⟨⟨o,bp,h⟩,⟨cY,fp,ae⟩,trivial⟩
theorem ab.bl {f:Nat}{bD sM:Array Bool}{E':List (Nat×I)}(k:bb c ops Q f sM E' L)(h:gO E E':=by repeat (first | exact gO.nil | refine gO.same rfl ?_))(ao:bD=sM:=by kernel_rfl):ab c ops (qH (wpAnyIn c.F 9 c.P .any ops Q f bD) Q) [] E L:= .nil (.bl k h ao)
theorem kd {α:Type}{b:Bool}{m n:ak α}{R:α→Prop}{y z:Code}(h:cond b m n R)(bP:m R→ag c Q y E L)(aY:n R→ag c Q z E L)(ao:bn c E L x (.of b):=by first | exact aa rfl | exact hh _):ag c Q (.cond x y z) E L:=
 .cond ao (fun hb=>bP (S0 hb h)) (fun hb=>aY (S1 hb h))
end
def iE (up rd wr:List Nat)(e:(Nat→Hid)→aR):eC:=⟨none,up,rd,wr,fun _=>.any,fun hd _=>e hd⟩
section
variable {c:dy} {E:List (Nat×I)} {L:List aR} {ops:Array Oper} {Q:Exit→Act→World→Prop} {hs:List eC} {i:Nat} {up rd:List Nat} {o:Oper} {bg:Nat}
theorem bZ {τ:I}(h:∀ {hd:Nat→Hid} {E':List (Nat×I)} {L':List aR},(∀ t τ,look (lX hd hs E up) t=some τ→look E' t=some τ)→ (∀ j e,(jt (fun _=>true) hd 0 (hs.take i) L)[j]? =some e→rd.contains j=true→L'[j]? =some e)→b6 c E' L' o τ)
 (bO:o.guard=none:=by rfl) (hd:o.dst=some bg:=by rfl) (aQ:Nat.blt bg c.n=true:=by rfl):bY c ops Q hs E L i o (aL bg up rd τ):=akd (fun _ _ _ a b=>h a b) bO hd aQ
theorem c5 {τ:I}{hyp:List aR→Prop}(h:∀ {L'},hyp L'→b6 c E L' o τ)(bO:o.guard=none:=by rfl):∀ L',hyp L'→jE c ops E L' o τ:=fun L' al=>.v (h al) bO
end
def rk:List (Option Nat)→List (List Nat)→List I→List eC
 | s::fL,d::ds,τ::eF=>⟨s,d,[],[],fun _=>τ,fun _ _=>⟨none,.dead⟩⟩::rk fL ds eF
 | _,_,_=>[]
def JR:List (Option Nat)→List (List Nat)→List (Option Nat×List Nat×List Nat×List Nat)
 | s::fL,d::ds=>(s,d,[],[])::JR fL ds
 | _,_=>[]
def xE (E:List (Nat×I)):List (Option Nat)→List (List Nat)→List I→List (Nat×I)
 | s::fL,_::ds,τ::eF=>sh s τ (xE E fL ds eF)
 | _,_,_=>E
def Gz:List Oper→List (Option Nat)→Nat→Bool
 | [],[],_=>true
 | o::os,some s::fL,n=>(match o.dst with | some t=>Nat.beq t s | none=>false)&&Nat.blt s n&&Gz os fL n
 | _,_,_=>false
section
variable {c:dy} {E:List (Nat×I)} {L:List aR} {ops:Array Oper} {Q:Exit→Act→World→Prop}
def BV (c:dy)(ops:Array Oper)(E:List (Nat×I))(L:List aR)(hs:List eC):List Oper→List (Option Nat)→List (List Nat)→List I→Prop
 | o::os,_::fL,d::ds,τ::eF=>(∀ L':List aR,(∀ (j:Nat) (e:aR),L[j]? =some e→vo (fun _=>false) j 0 []=true→L'[j]? =some e)→jE c ops (lX (fun _ _=>none) hs E d) L' o τ)∧BV c ops E L hs os fL ds eF
 | _,[],[],[]=>True
 | _,_,_,_=>False
theorem IF {h:eC} :∀ {fL:List (Option Nat)} {ds:List (List Nat)} {eF:List I},h∈rk fL ds eF→h.wr= []∧ ∀ g eG,h.τ g=h.τ eG
 | _::fL,_::ds,_::eF,hm=>by
   rcases List.mem_cons.1 hm with rfl | hm
   ·exact⟨rfl,fun _ _=>rfl⟩
   exact IF hm
theorem I2 {hd:Nat→Hid}{hs:List eC}(ai:∀ h∈hs,∀ g eG,h.τ g=h.τ eG):∀ {d:List Nat},lX hd hs E d=lX (fun _ _=>none) hs E d
 | []=>rfl
 | j::r=>by
   unfold lX;cases aF:hs[j]? with
   | none=>exact I2 ai
   | some h=>
     cases hq:h.slot with
     | none=>simp only [hq];exact I2 ai
     | some s=>simp only [hq];rw [ai h (List.mem_of_getElem? aF) _ (iC h.up j (fun _ _=>none)),I2 ai]
theorem Va {hd:Nat→Hid} :∀ {hs:List eC} {k:Nat} {L:List aR},(∀ h∈hs,h.wr= [])→jt (fun _=>true) hd k hs L=L
 | [],_,_,_=>rfl
 | h::r,k,L,hw=>by
   unfold jt;rw [hw h List.mem_cons_self];exact Va fun x ar=>hw x (List.mem_cons_of_mem _ ar)
theorem Mt {hd:Nat→Hid} :∀ {fL:List (Option Nat)} {ds:List (List Nat)} {eF:List I} {k:Nat},jN (fun _=>true) hd E k (rk fL ds eF)=xE E fL ds eF
 | some s::fL,d::ds,τ::eF,k=>by unfold rk xE jN;simp only [sh];rw [Mt]
 | none::fL,d::ds,τ::eF,k=>by unfold rk xE jN;simp only [sh];rw [Mt]
 | [],_,_,_=>by unfold rk xE jN;rfl
 | _::_,[],_,_=>by unfold rk xE jN;rfl
 | _::_,_::_,[],_=>by unfold rk xE jN;rfl
theorem ab.bp {o:Oper}{rest:List Oper}{d:Nat}{τ:I}{E':List (Nat×I)}(h:jE c ops E' L o τ)(an:∀ t τ,look E' t=some τ→look E t=some τ)(hd:o.dst=some d)(aQ:Nat.blt d c.n=true)(k:ab c ops Q rest ((d,τ)::E) L):ab c ops Q (o::rest) E L:=fun a W s=>by
 obtain⟨h1,ae⟩:=h a W (s.less fun t τ ao=>⟨τ,an t τ ao,fun _ _ _ h=>h⟩);unfold dy.ti wpListIn;by_cases hw:Region.wanted o (yielded ops a.tmps)=true
 ·rw [if_pos hw];refine((h1 hw).wpIn fun v W' ⟨f,bm⟩=>?_);rw [hd];exact k _ _ ((s.world f).put (by simpa using aQ) bm)
 rw [if_neg hw,hd];exact⟨fun _ _=>trivial,k _ _ (s.put (by simpa using aQ) (ae (by simpa using hw)))⟩
theorem BV.Ge {hs:List eC}(ai:∀ h∈hs,∀ g eG,h.τ g=h.τ eG):∀ {os:List Oper} {fL:List (Option Nat)} {ds:List (List Nat)} {eF:List I} {k n:Nat},BV c ops E L hs os fL ds eF→Gz (os.take n) fL c.n=true→sN c ops Q hs E L 0 k (os.take n) (rk fL ds eF)
 | os,[],ds,eF,k,n,_,hb=>by
   cases h:os.take n with
   | nil=>cases ds <;> cases eF <;> trivial
   | cons o r=>rw [h] at hb;cases hb
 | [],s::fL,ds,eF,k,n,_,hb=>by rw [List.take_nil] at hb;cases hb
 | o::os,s::fL,ds,eF,k,0,_,hb=>by cases hb
 | o::os,s::fL,[],eF,k,n+1,h,_=>h.elim
 | o::os,s::fL,d::ds,[],k,n+1,h,_=>h.elim
 | o::os,none::fL,d::ds,τ::eF,k,n+1,h,hb=>by simp [Gz] at hb
 | o::os,some s::fL,d::ds,τ::eF,k,n+1,h,hb=>by
   simp only [List.take_succ_cons,Gz,Bool.and_eq_true] at hb;refine⟨fun Gf E' L' an _ cS=>?_,BV.Ge ai h.2 hb.2⟩;have e:L'=L:=cS;subst e;have gv:o.dst=some s:=by
    have:=hb.1.1;cases hd:o.dst with
    | none=>rw [hd] at this;cases this
    | some t=>rw [hd] at this;rw [fm.1 this]
   exact ab.bp (h.1 _ fun j e he _=>he) (fun t τ ao=>an t τ (by rw [I2 ai];exact ao)) gv hb.1.2 (ab.nil (ad.fin (fun _=>none) rfl rfl))
theorem ag.eX {oH:Nat}{l:List Oper}{es:List Nat}(hm:c.P.follows .mixedOrders=true)(n:Nat)(ox:List (Option Nat))(vE:List (List Nat))(eF:List I)(cB:BV c l.toArray E L (rk ox vE eF) l ox vE eF)(bP:ab c l.toArray Q (l.drop n) (xE E ox vE eF) L)
 (gv:oJ (rk ox vE eF)=JR ox vE:=by rfl) (rj:E.map (·.1)=es:=by rfl) (jF:Gv.xu l.toArray n (JR ox vE) es=true:=by kernel_rfl) (hs:Gz (l.take n) ox c.n=true:=by rfl):ag c Q (.region oH l.toArray true) E L:=
 have ai:∀ h∈rk ox vE eF,∀ g eG,h.τ g=h.τ eG:=fun h hm=>(IF hm).2
 ag.I0 n (np:=0) hm (rk ox vE eF) (JR ox vE) es gv rj jF (fun h hm j aF=>by rw [(IF hm).1] at aF;cases aF) (BV.Ge ai cB hs) (fun hd=>by rw [Mt,Va fun h hm=>(IF hm).1];exact bP)
end
end Gv
